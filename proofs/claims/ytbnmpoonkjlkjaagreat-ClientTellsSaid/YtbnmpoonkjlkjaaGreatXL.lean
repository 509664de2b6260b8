/- Client: part L of the proof. -/
import Derived.Test.YtbnmpoonkjlkjaaGreatXK
import Derived.ChangeSlices
import Derived.Laws.BytesArg
namespace Go.Proofs.YtbnmpoonkjlkjaaGreat
open Go.RowKit
set_option linter.unusedVariables false
set_option linter.unusedSimpArgs false
set_option maxRecDepth 100000
set_option maxHeartbeats 8000000
theorem cD {p q : AZ} (hp : p.ok) (hq : q.ok) (h : pv p = pv q) : p = q := by
 have h1 : EI p = EI q := by simpa using congrArg Array.toList h
 obtain ⟨n, s, t⟩ := p
 obtain ⟨n', s', t'⟩ := q
 unfold EI at h1
 simp only at h1
 obtain ⟨a, b⟩ := List.append_inj h1 (by have := hp.1; have := hp.2.1; have := hq.1; have := hq.2.1; simp at *; omega)
 obtain ⟨a1, a2⟩ := List.append_inj a (by have := hp.1; have := hq.1; simp at *; omega)
 have inj8 : ∀ (x y : List B8), x.map u8v = y.map u8v → x = y := fun x => by
  induction x with
  | nil => intro y h; cases y with | nil => rfl | cons z y => simp at h
  | cons a x ih =>
   intro y h
   cases y with
   | nil => simp at h
   | cons z y =>
    simp only [List.map_cons, List.cons.injEq, u8v, Value.int.injEq, true_and] at h
    have e : a = z := BitVec.eq_of_toNat_eq (by omega)
    rw [e, ih y h.2]
 have injI : ∀ (x y : List Int), x.map (Value.int .i64) = y.map (Value.int .i64) → x = y := fun x => by
  induction x with
  | nil => intro y h; cases y with | nil => rfl | cons z y => simp at h
  | cons a x ih =>
   intro y h
   cases y with
   | nil => simp at h
   | cons z y =>
    simp only [List.map_cons, List.cons.injEq, Value.int.injEq, true_and] at h
    rw [h.1, ih y h.2]
 rw [injI _ _ a1, inj8 _ _ a2, inj8 _ _ b]
theorem Vt {p : AZ} {L : List (Nat × Nat × Nat × Nat)} {i : Nat} {s : Nat × Nat × Nat × Nat} (hp : p.ok) (hs : L[i]? = some s) (h1 : 1 ≤ DW s.1) (h2 : DW s.1 < 12) : (FF p L i).set (DW s.1) (p.fld (DW s.1)) = FF p L (i + 1) := by
 obtain ⟨m, hm⟩ : ∃ m, DW s.1 = m + 1 := ⟨DW s.1 - 1, by omega⟩
 have h := Rz hp hs hm h2
 rw [hm]
 exact cD (Cg (CE hp) (SJ hp _)) (CE hp) h
theorem XL (n k : Nat) : (Gm (n : Int) k).toNat = n / 256 ^ k % 256 := by
 unfold Gm
 have e : ((n : Int) >>> (8 * k)) = ((n / 256 ^ k : Nat) : Int) := by
  rw [Int.shiftRight_eq_div_pow, Nat.pow_mul]
  norm_cast
 rw [e, BitVec.ofInt_natCast, BitVec.toNat_ofNat]
theorem QL (n s : Nat) : ∀ j, j ≤ s → n < 256 ^ s → E0 (Fk (n : Int) s j) = n / 256 ^ (s - j)
 | 0, _, h => by simp [Fk, E0, Nat.div_eq_of_lt h]
 | j + 1, hj, h => by
  rw [Lh, Ob, QL n s j (by omega) h, XL]
  obtain ⟨k, rfl⟩ : ∃ k, s = j + 1 + k := ⟨s - (j + 1), by omega⟩
  rw [show j + 1 + k - j = k + 1 by omega, show j + 1 + k - (j + 1) = k by omega, show j + 1 + k - 1 - j = k by omega, Nat.pow_succ, ← Nat.div_div_eq_div_mul]
  omega
theorem WU {x : Int} {s : Nat} (h0 : 0 ≤ x) (hs : x < 256 ^ s) : ((E0 (Fk x s s) : Nat) : Int) = x := by
 obtain ⟨n, rfl⟩ := Int.eq_ofNat_of_zero_le h0
 have h1 : ((n : Nat) : Int) < ((256 ^ s : Nat) : Int) := by rw [Int.natCast_pow]; exact hs
 have h : n < 256 ^ s := Int.ofNat_lt.1 h1
 rw [QL n s s (Nat.le_refl _) h]
 simp
theorem Mq {x y : List B8} {n : Nat} (h : x.length = n) : GZ (x ++ y) false n = x ∧ RA (x ++ y) false n = y ∧ Ta (x ++ y) false n = false := by
 have h1 : (false || decide ((x ++ y).length < n)) = false := by simp; omega
 rw [RK h1, OG h1, OI h1]
 subst h
 simp
theorem Wi {kd : Int} {k : Nat} {s : Nat × Nat × Nat × Nat} (h : (AH kd)[k]? = some s) : s.2.2.2 < 256 ^ s.2.1 := by
  have hm : s ∈ AH kd := List.mem_of_getElem? h
  clear h
  unfold AH at hm
  by_cases h1 : kd = 1
  ·
   rw [if_pos h1] at hm
   simp only [List.mem_cons, List.not_mem_nil, or_false] at hm
   rcases hm with rfl <;> decide
  rw [if_neg h1] at hm
  by_cases h2 : kd = 2
  ·
   rw [if_pos h2] at hm
   simp only [List.mem_cons, List.not_mem_nil, or_false] at hm
   rcases hm with rfl | rfl <;> decide
  rw [if_neg h2] at hm
  by_cases h3 : kd = 3
  ·
   rw [if_pos h3] at hm
   simp only [List.mem_cons, List.not_mem_nil, or_false] at hm
   rcases hm with rfl | rfl | rfl <;> decide
  rw [if_neg h3] at hm
  by_cases h4 : kd = 4
  ·
   rw [if_pos h4] at hm
   simp only [List.mem_cons, List.not_mem_nil, or_false] at hm
   rcases hm with rfl | rfl <;> decide
  rw [if_neg h4] at hm
  by_cases h5 : kd = 5
  ·
   rw [if_pos h5] at hm
   simp only [List.mem_cons, List.not_mem_nil, or_false] at hm
   rcases hm with rfl | rfl <;> decide
  rw [if_neg h5] at hm
  by_cases Nc : kd = 10
  ·
   rw [if_pos Nc] at hm
   simp only [List.mem_cons, List.not_mem_nil, or_false] at hm
   rcases hm with rfl | rfl <;> decide
  rw [if_neg Nc] at hm
  by_cases h6 : kd = 6
  ·
   rw [if_pos h6] at hm
   simp only [List.mem_cons, List.not_mem_nil, or_false] at hm
   rcases hm with rfl | rfl | rfl <;> decide
  rw [if_neg h6] at hm
  by_cases h7 : kd = 7
  ·
   rw [if_pos h7] at hm
   simp only [List.mem_cons, List.not_mem_nil, or_false] at hm
   rcases hm with rfl | rfl | rfl | rfl <;> decide
  rw [if_neg h7] at hm
  by_cases h8 : kd = 8
  ·
   rw [if_pos h8] at hm
   simp only [List.mem_cons, List.not_mem_nil, or_false] at hm
   rcases hm with rfl | rfl | rfl | rfl | rfl | rfl <;> decide
  rw [if_neg h8] at hm
  by_cases h9 : kd = 9
  ·
   rw [if_pos h9] at hm
   simp only [List.mem_cons, List.not_mem_nil, or_false] at hm
   rcases hm with rfl | rfl | rfl <;> decide
  rw [if_neg h9] at hm
  by_cases LV : kd = 11
  ·
   rw [if_pos LV] at hm
   simp only [List.mem_cons, List.not_mem_nil, or_false] at hm
   rcases hm with rfl | rfl | rfl <;> decide
  rw [if_neg LV] at hm
  by_cases Ln : kd = 12
  ·
   rw [if_pos Ln] at hm
   simp only [List.mem_cons, List.not_mem_nil, or_false] at hm
   rcases hm with rfl | rfl <;> decide
  rw [if_neg Ln] at hm
  cases hm
theorem Sc {p : AZ} (h : Bg p = true) : 1 ≤ p.fld 0 ∧ p.fld 0 ≤ 12 := by
 have h' : JN p := @of_decide_eq_true _ (Classical.propDecidable _) h
 have h1 := h'.1
 refine Classical.byContradiction fun hn => h1 ?_
 unfold AH
 simp [show p.fld 0 ≠ 1 by omega, show p.fld 0 ≠ 2 by omega, show p.fld 0 ≠ 3 by omega, show p.fld 0 ≠ 4 by omega, show p.fld 0 ≠ 5 by omega, show p.fld 0 ≠ 6 by omega, show p.fld 0 ≠ 7 by omega, show p.fld 0 ≠ 8 by omega, show p.fld 0 ≠ 9 by omega, show p.fld 0 ≠ 10 by omega, show p.fld 0 ≠ 11 by omega, show p.fld 0 ≠ 12 by omega]
theorem TU {p : AZ} {L : List (Nat × Nat × Nat × Nat)} {R : List B8} {kd : Nat} (hp : p.ok) (hr : Bg p = true) (hk : p.fld 0 = (kd : Nat)) (hL : AH (p.fld 0) = L) : ∀ i, i ≤ L.length →
  LG L (Fb p L L.length ++ R) kd i = (((L.drop i).flatMap (fun s => Fk (p.fld (DW s.1)) s.2.1 s.2.1) ++ R, false), FF p L i)
 | 0, _ => by
  have h1 := Mq (x := [BitVec.ofInt 8 (p.fld 0)]) (y := L.flatMap (fun s => Fk (p.fld (DW s.1)) s.2.1 s.2.1) ++ R) (n := 1) rfl
  have e : Fb p L L.length ++ R = [BitVec.ofInt 8 (p.fld 0)] ++ (L.flatMap (fun s => Fk (p.fld (DW s.1)) s.2.1 s.2.1) ++ R) := by
   unfold Fb
   rw [List.take_length]
   rfl
  show (IJ (Fb p L L.length ++ R, false) 1, XX kd) = _
  rw [e]
  unfold IJ
  simp only [h1.2.1, h1.2.2, List.drop_zero]
  congr 1
  unfold FF
  rw [Np, hk]
  rfl
 | i + 1, hi => by
  have hs : L[i]? = some L[i] := List.getElem?_eq_getElem (by omega)
  have hs' : (AH (p.fld 0))[i]? = some L[i] := by rw [hL]; exact hs
  rw [GP hs, TU hp hr hk hL i (by omega)]
  have hd : L.drop i = L[i] :: L.drop (i + 1) := List.drop_eq_getElem_cons (by omega)
  have J8 := Kv (p.fld (DW L[i].1)) L[i].2.1 L[i].2.1
  have h1 := Mq (x := Fk (p.fld (DW L[i].1)) L[i].2.1 L[i].2.1) (y := (L.drop (i + 1)).flatMap (fun s => Fk (p.fld (DW s.1)) s.2.1 s.2.1) ++ R) J8
  rw [hd, List.flatMap_cons, List.append_assoc]
  unfold Zs IJ
  simp only [h1.1, h1.2.1, h1.2.2]
  have aB := DM hr (List.mem_of_getElem? hs')
  have hmx := Wi hs'
  have hn : ((E0 (Fk (p.fld (DW L[i].1)) L[i].2.1 L[i].2.1) : Nat) : Int) = p.fld (DW L[i].1) := WU (by omega) (by
   have : ((L[i].2.2.2 : Nat) : Int) < ((256 ^ L[i].2.1 : Nat) : Int) := Int.ofNat_lt.2 hmx
   rw [Int.natCast_pow] at this
   exact Int.lt_of_le_of_lt aB.2 this)
  rw [hn, Vt hp hs (Nq hs') (Nr hs')]
theorem Mm {p : AZ} (hp : p.ok) (hr : Bg p = true) : GQ (Cx p) = p ∧ ID (Cx p) = 0 := by
 have RD := Sc hr
 obtain ⟨kd, hk⟩ := Int.eq_ofNat_of_zero_le (show 0 ≤ p.fld 0 by omega)
 obtain ⟨L, hL⟩ : ∃ L, AH (p.fld 0) = L := ⟨_, rfl⟩
 have h' : JN p := @of_decide_eq_true _ (Classical.propDecidable _) hr
 have Ol := h'.2.2.1
 rw [hL] at Ol
 obtain ⟨R, hR⟩ : ∃ R, (if 2 ≤ p.fld 0 ∧ p.fld 0 ≤ 4 then p.sec else []) ++ (if 5 ≤ p.fld 0 ∧ p.fld 0 ≤ 11 then p.tg else []) = R := ⟨_, rfl⟩
 have he : Cx p = Fb p L L.length ++ R := by rw [FD hL, List.append_assoc, hR]
 have hd := TU (R := R) (kd := kd) hp hr (by rw [hk]) hL L.length (Nat.le_refl _)
 rw [List.drop_length] at hd
 simp only [List.flatMap_nil, List.nil_append] at hd
 have Xk : E0 (GZ (Cx p) false 1) = kd := by
  have h1 := Mq (x := [BitVec.ofInt 8 (p.fld 0)]) (y := L.flatMap (fun s => Fk (p.fld (DW s.1)) s.2.1 s.2.1) ++ R) (n := 1) rfl
  have e : Cx p = [BitVec.ofInt 8 (p.fld 0)] ++ (L.flatMap (fun s => Fk (p.fld (DW s.1)) s.2.1 s.2.1) ++ R) := by
   rw [he]
   unfold Fb
   rw [List.take_length]
   rfl
  rw [e, h1.1, hk]
  simp only [E0, List.foldl_cons, List.foldl_nil]
  rw [show BitVec.ofInt 8 (((kd : Nat) : Int)) = BitVec.ofNat 8 kd from BitVec.ofInt_natCast _ _, BitVec.toNat_ofNat]
  omega
 have hx := Gv (L := L) Xk (by rw [← hL, hk]) (x := ((R, false), FF p L L.length)) (by rw [he]; exact hd)
 have Xn : ((kd : Nat) : Int) = p.fld 0 := by rw [hk]
 rw [Xn] at hx
 have hX : F4 (Cx p) = (([], false), p) := by
  rw [hx]
  by_cases h1 : 2 ≤ p.fld 0 ∧ p.fld 0 ≤ 4
  ·
   have h2 : ¬ (5 ≤ p.fld 0 ∧ p.fld 0 ≤ 11) := by omega
   rw [if_pos h1, if_neg h2, List.append_nil] at hR
   rw [if_neg h2, if_pos h1]
   subst hR
   have h3 := Mq (x := p.sec) (y := []) hp.2.1
   rw [List.append_nil] at h3
   unfold JD IJ
   simp only [h3.1, h3.2.1, h3.2.2]
   rw [Ri h1] at Ol
   congr 1
   refine Eq.trans ?_ Ol
   show (⟨BH p L L.length, p.sec ++ (List.replicate 16 (0 : B8)).drop p.sec.length, List.replicate 8 0⟩ : AZ) = _
   rw [hp.2.1]
   simp
  ·
   by_cases h2 : 5 ≤ p.fld 0 ∧ p.fld 0 ≤ 11
   ·
    rw [if_neg h1, if_pos h2, List.nil_append] at hR
    rw [if_pos h2, if_neg h1]
    subst hR
    have h3 := Mq (x := p.tg) (y := []) hp.2.2.1
    rw [List.append_nil] at h3
    unfold VQ IJ
    simp only [h3.1, h3.2.1, h3.2.2]
    rw [Mj h2] at Ol
    congr 1
    refine Eq.trans ?_ Ol
    show (⟨BH p L L.length, List.replicate 16 0, p.tg ++ (List.replicate 8 (0 : B8)).drop p.tg.length⟩ : AZ) = _
    rw [hp.2.2.1]
    simp
   ·
    rw [if_neg h1, if_neg h2] at hR
    rw [if_neg h2, if_neg h1]
    subst hR
    rw [full, if_neg h1, if_neg h2] at Ol
    congr 1
 have Ca : (!(F4 (Cx p)).1.2 && decide ((F4 (Cx p)).1.1.length = 0)) = true := by rw [hX]; rfl
 have mL : Bg (F4 (Cx p)).2 = true := by rw [hX]; exact hr
 exact ⟨by rw [J4 Ca mL, hX], HV Ca mL⟩
theorem Qp {n : Int} (h : 0 ≤ n ∧ n ≤ 1073741824) : Bg (⟨[1, 0, 0, 0, 0, 0, 0, 0, 0, 0, n, 0], EB, Z8⟩ : AZ) = true := by
 refine CB ⟨?_, fun j s hs => ?_, ?_, ?_⟩
 ·
  show AH 1 ≠ []
  decide
 ·
  have hm : s ∈ AH 1 := List.mem_of_getElem? hs
  clear hs
  simp only [AH, Int.reduceEq, if_false, if_true, List.mem_cons, List.not_mem_nil, or_false] at hm
  rcases hm with rfl <;> simp [AZ.fld, DW] <;> omega
 ·
  show full (⟨[1, 0, 0, 0, 0, 0, 0, 0, 0, 0, n, 0], EB, Z8⟩ : AZ) (AH 1) = (⟨[1, 0, 0, 0, 0, 0, 0, 0, 0, 0, n, 0], EB, Z8⟩ : AZ)
  kernel_rfl
 · simp [AZ.fld]
theorem Pa {n e : Int} {k : List B8} (h : 0 ≤ n ∧ n ≤ 1073741824) (h2 : 0 ≤ e ∧ e ≤ 1073741824) : Bg (⟨[2, 0, 0, 0, 0, 0, 0, 0, 0, 0, n, e], k, Z8⟩ : AZ) = true := by
 refine CB ⟨?_, fun j s hs => ?_, ?_, ?_⟩
 ·
  show AH 2 ≠ []
  decide
 ·
  have hm : s ∈ AH 2 := List.mem_of_getElem? hs
  clear hs
  simp only [AH, Int.reduceEq, if_false, if_true, List.mem_cons, List.not_mem_nil, or_false] at hm
  rcases hm with rfl | rfl <;> simp [AZ.fld, DW] <;> omega
 ·
  show full (⟨[2, 0, 0, 0, 0, 0, 0, 0, 0, 0, n, e], k, Z8⟩ : AZ) (AH 2) = (⟨[2, 0, 0, 0, 0, 0, 0, 0, 0, 0, n, e], k, Z8⟩ : AZ)
  kernel_rfl
 · simp [AZ.fld]
theorem Sd {u n e : Int} {k : List B8} (h : 0 ≤ n ∧ n ≤ 1073741824) (h2 : 0 ≤ e ∧ e ≤ 1073741824) (h3 : 1 ≤ u ∧ u ≤ 16) : Bg (⟨[3, 0, 0, u, 0, 0, 0, 0, 0, 0, n, e], k, Z8⟩ : AZ) = true := by
 refine CB ⟨?_, fun j s hs => ?_, ?_, ?_⟩
 ·
  show AH 3 ≠ []
  decide
 ·
  have hm : s ∈ AH 3 := List.mem_of_getElem? hs
  clear hs
  simp only [AH, Int.reduceEq, if_false, if_true, List.mem_cons, List.not_mem_nil, or_false] at hm
  rcases hm with rfl | rfl | rfl <;> simp [AZ.fld, DW] <;> omega
 ·
  show full (⟨[3, 0, 0, u, 0, 0, 0, 0, 0, 0, n, e], k, Z8⟩ : AZ) (AH 3) = (⟨[3, 0, 0, u, 0, 0, 0, 0, 0, 0, n, e], k, Z8⟩ : AZ)
  kernel_rfl
 · simp [AZ.fld]
theorem UE {i n : Int} {k : List B8} (h : 0 ≤ n ∧ n ≤ 1073741824) (h2 : 1 ≤ i ∧ i ≤ 1073741824) : Bg (⟨[4, i, 0, 0, 0, 0, 0, 0, 0, 0, n, 0], k, Z8⟩ : AZ) = true := by
 refine CB ⟨?_, fun j s hs => ?_, ?_, ?_⟩
 ·
  show AH 4 ≠ []
  decide
 ·
  have hm : s ∈ AH 4 := List.mem_of_getElem? hs
  clear hs
  simp only [AH, Int.reduceEq, if_false, if_true, List.mem_cons, List.not_mem_nil, or_false] at hm
  rcases hm with rfl | rfl <;> simp [AZ.fld, DW] <;> omega
 ·
  show full (⟨[4, i, 0, 0, 0, 0, 0, 0, 0, 0, n, 0], k, Z8⟩ : AZ) (AH 4) = (⟨[4, i, 0, 0, 0, 0, 0, 0, 0, 0, n, 0], k, Z8⟩ : AZ)
  kernel_rfl
 · simp [AZ.fld]
theorem Se {i q : Int} {t : List B8} (h : 1 ≤ q ∧ q ≤ 1073741824) (h2 : 1 ≤ i ∧ i ≤ 1073741824) : Bg (⟨[5, i, q, 0, 0, 0, 0, 0, 0, 0, 0, 0], EB, t⟩ : AZ) = true := by
 refine CB ⟨?_, fun j s hs => ?_, ?_, ?_⟩
 ·
  show AH 5 ≠ []
  decide
 ·
  have hm : s ∈ AH 5 := List.mem_of_getElem? hs
  clear hs
  simp only [AH, Int.reduceEq, if_false, if_true, List.mem_cons, List.not_mem_nil, or_false] at hm
  rcases hm with rfl | rfl <;> simp [AZ.fld, DW] <;> omega
 ·
  show full (⟨[5, i, q, 0, 0, 0, 0, 0, 0, 0, 0, 0], EB, t⟩ : AZ) (AH 5) = (⟨[5, i, q, 0, 0, 0, 0, 0, 0, 0, 0, 0], EB, t⟩ : AZ)
  kernel_rfl
 · simp [AZ.fld]
theorem OZ {i q s : Int} {t : List B8} (h : 1 ≤ q ∧ q ≤ 1073741824) (h2 : 1 ≤ i ∧ i ≤ 1073741824) (h3 : 1 ≤ s ∧ s ≤ 3) : Bg (⟨[6, i, q, 0, 0, s, 0, 0, 0, 0, 0, 0], EB, t⟩ : AZ) = true := by
 refine CB ⟨?_, fun j s hs => ?_, ?_, ?_⟩
 ·
  show AH 6 ≠ []
  decide
 ·
  have hm : s ∈ AH 6 := List.mem_of_getElem? hs
  clear hs
  simp only [AH, Int.reduceEq, if_false, if_true, List.mem_cons, List.not_mem_nil, or_false] at hm
  rcases hm with rfl | rfl | rfl <;> simp [AZ.fld, DW] <;> omega
 ·
  show full (⟨[6, i, q, 0, 0, s, 0, 0, 0, 0, 0, 0], EB, t⟩ : AZ) (AH 6) = (⟨[6, i, q, 0, 0, s, 0, 0, 0, 0, 0, 0], EB, t⟩ : AZ)
  kernel_rfl
 · simp [AZ.fld]
theorem Sb {i q u v s n : Int} {t : List B8} (h : 1 ≤ q ∧ q ≤ 1073741824) (h2 : 1 ≤ i ∧ i ≤ 1073741824) (h3 : 1 ≤ u ∧ u ≤ 16) (h4 : 0 ≤ v ∧ v ≤ 1073741824) (h5 : 0 ≤ s ∧ s ≤ 3) (h6 : 0 ≤ n ∧ n ≤ 4) : Bg (⟨[8, i, q, u, 0, s, n, v, 0, 0, 0, 0], EB, t⟩ : AZ) = true := by
 refine CB ⟨?_, fun j s hs => ?_, ?_, ?_⟩
 ·
  show AH 8 ≠ []
  decide
 ·
  have hm : s ∈ AH 8 := List.mem_of_getElem? hs
  clear hs
  simp only [AH, Int.reduceEq, if_false, if_true, List.mem_cons, List.not_mem_nil, or_false] at hm
  rcases hm with rfl | rfl | rfl | rfl | rfl | rfl <;> simp [AZ.fld, DW] <;> omega
 ·
  show full (⟨[8, i, q, u, 0, s, n, v, 0, 0, 0, 0], EB, t⟩ : AZ) (AH 8) = (⟨[8, i, q, u, 0, s, n, v, 0, 0, 0, 0], EB, t⟩ : AZ)
  kernel_rfl
 · simp [AZ.fld] <;> omega
theorem UD {i a s : Int} {t : List B8} (h : 0 ≤ a ∧ a ≤ 1073741824) (h2 : 1 ≤ i ∧ i ≤ 1073741824) (h3 : 0 ≤ s ∧ s ≤ 255) : Bg (⟨[9, i, 0, 0, 0, 0, 0, 0, a, s, 0, 0], EB, t⟩ : AZ) = true := by
 refine CB ⟨?_, fun j s hs => ?_, ?_, ?_⟩
 ·
  show AH 9 ≠ []
  decide
 ·
  have hm : s ∈ AH 9 := List.mem_of_getElem? hs
  clear hs
  simp only [AH, Int.reduceEq, if_false, if_true, List.mem_cons, List.not_mem_nil, or_false] at hm
  rcases hm with rfl | rfl | rfl <;> simp [AZ.fld, DW] <;> omega
 ·
  show full (⟨[9, i, 0, 0, 0, 0, 0, 0, a, s, 0, 0], EB, t⟩ : AZ) (AH 9) = (⟨[9, i, 0, 0, 0, 0, 0, 0, a, s, 0, 0], EB, t⟩ : AZ)
  kernel_rfl
 · simp [AZ.fld]
theorem Qo {i q c : Int} {t : List B8} (h : 1 ≤ q ∧ q ≤ 1073741824) (h2 : 1 ≤ i ∧ i ≤ 1073741824) (h3 : 0 ≤ c ∧ c ≤ 15) : Bg (⟨[11, i, q, 0, c, 0, 0, 0, 0, 0, 0, 0], EB, t⟩ : AZ) = true := by
 refine CB ⟨?_, fun j s hs => ?_, ?_, ?_⟩
 ·
  show AH 11 ≠ []
  decide
 ·
  have hm : s ∈ AH 11 := List.mem_of_getElem? hs
  clear hs
  simp only [AH, Int.reduceEq, if_false, if_true, List.mem_cons, List.not_mem_nil, or_false] at hm
  rcases hm with rfl | rfl | rfl <;> simp [AZ.fld, DW] <;> omega
 ·
  show full (⟨[11, i, q, 0, c, 0, 0, 0, 0, 0, 0, 0], EB, t⟩ : AZ) (AH 11) = (⟨[11, i, q, 0, c, 0, 0, 0, 0, 0, 0, 0], EB, t⟩ : AZ)
  kernel_rfl
 · simp [AZ.fld]
theorem Js {p : AZ} {t : List B8} (h : Cf p = true) : Bg (⟨p.n, p.sec, t⟩ : AZ) = true := by
 unfold Cf at h
 rw [Bool.and_eq_true] at h
 have hk := of_decide_eq_true h.2
 have h' : JN (Ex p) := @of_decide_eq_true _ (Classical.propDecidable _) h.1
 refine CB ⟨h'.1, h'.2.1, ?_, h'.2.2.2⟩
 have hf := h'.2.2.1
 rw [Mj (p := Ex p) hk] at hf
 rw [Mj (p := ⟨p.n, p.sec, t⟩) hk]
 unfold Ex at hf
 simp only [AZ.mk.injEq] at hf
 simp only [AZ.mk.injEq]
 exact ⟨hf.1, hf.2.1, trivial⟩
theorem W6 {k : List B8} {p : AZ} (h : Cf p = true) : JO (BK k p) = [Cx (BK k p)] := if_pos (Js h)
theorem Tn {p : AZ} (h : Bg p = true) : JO p = [Cx p] := if_pos h
theorem OT {c : Cl} {p : AZ} (h : Cf (p.set 1 c.id) = true) : I8 c p = [Cx (BK c.key (p.set 1 c.id))] := by
 unfold I8
 rw [if_pos h, W6 h]
theorem NH {k : List B8} {p : AZ} (h : Cf p = true) : HJ k (BK k p) = true := by
 unfold HJ
 rw [show Cf (BK k p) = Cf p from rfl, h]
 simp only [Bool.true_and]
 exact decide_eq_true R
theorem DL {k : List B8} {p : AZ} (h : p.ok) : (BK k p).ok := ⟨h.1, h.2.1, L3, h.2.2.2⟩
theorem Ni {k : List B8} {p : AZ} (hp : p.ok) (h : Cf p = true) : GQ (Cx (BK k p)) = BK k p ∧ ID (Cx (BK k p)) = 0 := Mm (DL hp) (Js h)
theorem Mz {p : AZ} (h : ∀ t, Bg (⟨p.n, p.sec, t⟩ : AZ) = true) (hk : 5 ≤ p.fld 0 ∧ p.fld 0 ≤ 11) : Cf p = true := by
 unfold Cf
 rw [show Bg (Ex p) = true from h _, decide_eq_true hk]
 rfl
section
section
variable {H : Type} {enc : TypeId × Value → H} {P : Program} {w : World} {base : Nat} {spare : Nat → Bool} {held : Bool}
theorem ZF {n : Int} (h : (Lit.int .u8 n).wf = true) : Value.int .u8 n = u8v (BitVec.ofInt 8 n) := by
 simp [Lit.wf, IntKind.min, IntKind.max, IntKind.signed, IntKind.bits] at h
 have : ((BitVec.ofInt 8 n).toNat : Int) = n := by
  rw [BitVec.toNat_ofInt]
  omega
 unfold u8v
 rw [this]
theorem So {t e : TypeId} {fuel : Nat} {cs : List Value} {x : DataW H × List MemPlace} (ht : P.underlying t = some (.slice e)) (he : P.underlying e = some (.int .u8)) (hc : P.cellsOf e = 1)
  (h : DataW.trod enc P w base spare held fuel t cs = some x) : ∃ v L, cs = [v] ∧ B9 w v L := by
 rcases Go.ChangeShapes.open_ints ht he hc h with ⟨rfl, _⟩ | ⟨a, len, cap, zs, rfl, hb, hl, hm, hz, hx, KA, cU⟩
 · exact ⟨_, [], rfl, Ee w⟩
 ·
  have hlz : len ≤ zs.length := by rw [hz]; split <;> omega
  have aG : ((zs.take len).map (BitVec.ofInt 8)).length = len := by rw [List.length_map, List.length_take]; omega
  refine ⟨_, (zs.take len).map (BitVec.ofInt 8), R, some a, cap, by rw [aG], by rw [aG]; exact hl, hm, (fun e => by cases e), fun j hj => ?_⟩
  have LS : j < len := by rw [List.length_map, aG] at hj; exact hj
  have h1 := KA j (by omega)
  have uW : zs[j]? = some (zs.getD j 0) := by rw [List.getD_eq_getElem?_getD, List.getElem?_eq_getElem (by omega)]; rfl
  have hw := cU (zs.getD j 0) (List.mem_of_getElem? uW)
  obtain ⟨b, o, sp⟩ := a
  have pL : sp = none := by
   have := World.cell?_spot (KA 0 (by omega))
   simpa [Addr.add] using this
  subst pL
  refine ⟨b, o, R, ?_⟩
  rw [CT] at h1
  rw [h1, ZF hw, List.getElem?_map, List.getElem?_map, List.getElem?_take_of_lt LS, uW]
  rfl
/-- what a cell may be: an int, a byte, a slice of bytes -/
inductive Ck | i | u | s
def GS (P : Program) : Nat → TypeId → Nat → Option Ck
 | 0, _, _ => none
 | d + 1, t, i => match P.underlying t with
  | some (.int .i64) => if i = 0 then some .i else none
  | some (.int .u8) => if i = 0 then some .u else none
  | some (.slice e) => match P.underlying e with
   | some (.int .u8) => if i = 0 ∧ P.cellsOf e = 1 then some .s else none
   | _ => none
  | some (.struct fs) => match fs.toList.find? (fun f => decide (f.offset ≤ i) && decide (i < f.offset + P.cellsOf f.type)) with
   | some f => GS P d f.type (i - f.offset)
   | none => none
  | some (.array n e) => if i < n * P.cellsOf e then GS P d e (i % P.cellsOf e) else none
  | _ => none
def R9 (w : World) : Ck → Value → Prop
 | .i, v => mF v
 | .u, v => ∃ x : B8, v = u8v x
 | .s, v => ∃ L, B9 w v L
theorem KU : ∀ (d : Nat) (t : TypeId) (fuel : Nat) (cs : List Value) (x : DataW H × List MemPlace) (i : Nat) (κ : Ck) (v : Value), GS P d t i = some κ → DataW.trod enc P w base spare held fuel t cs = some x → cs[i]? = some v → R9 w κ v
 | 0, _, _, _, _, _, _, _, h, _, _ => by simp [GS] at h
 | d + 1, t, fuel, cs, x, i, κ, v, h, ht, hv => by
  unfold GS at h
  split at h
  ·
   rename_i hu
   obtain ⟨n, rfl, _, hw⟩ := DataW.trod_int hu ht
   split at h
   ·
    injection h with h
    subst h
    rename_i h0
    subst h0
    simp at hv
    exact ⟨n, hv.symm, hw⟩
   · cases h
  ·
   rename_i hu
   obtain ⟨n, rfl, _, hw⟩ := DataW.trod_int hu ht
   split at h
   ·
    injection h with h
    subst h
    rename_i h0
    subst h0
    simp at hv
    exact ⟨_, by rw [← hv]; exact ZF hw⟩
   · cases h
  ·
   rename_i e hu
   split at h
   ·
    rename_i he
    split at h
    ·
     rename_i h0
     injection h with h
     subst h
     obtain ⟨v', L, rfl, hr⟩ := So hu he h0.2 ht
     rw [h0.1] at hv
     simp at hv
     subst hv
     exact ⟨L, hr⟩
    · cases h
   · cases h
  ·
   rename_i fs hu
   obtain ⟨xs, m, _, _, hl, UU, hf⟩ := DataW.trod_struct hu ht
   split at h
   ·
    rename_i f Ch
    have Mi := List.mem_of_find?_eq_some Ch
    have hb := List.find?_some Ch
    simp only [Bool.and_eq_true, decide_eq_true_eq] at hb
    obtain ⟨j, mN, hj⟩ := List.getElem_of_mem Mi
    have LS : fs[j]? = some f := by
     rw [← Array.getElem?_toList, List.getElem?_eq_getElem mN, hj]
    have h1 := hf j f LS
    have hjx : j < xs.length := by rw [UU]; simpa using mN
    rw [List.getElem?_eq_getElem hjx] at h1
    refine KU d f.type m _ _ (i - f.offset) κ v h h1 ?_
    rw [List.getElem?_take, if_pos (by omega), List.getElem?_drop, show f.offset + (i - f.offset) = i by omega]
    exact hv
   · cases h
  ·
   rename_i n e hu
   obtain ⟨xs, m, _, _, hl, UU, hf⟩ := DataW.trod_array hu ht
   split at h
   ·
    rename_i hi
    have hp : 0 < P.cellsOf e := by
     rcases Nat.eq_zero_or_pos (P.cellsOf e) with h0 | h0
     · rw [h0] at hi; omega
     · exact h0
    have hq : i / P.cellsOf e < n := by rw [Nat.div_lt_iff_lt_mul hp]; exact hi
    have h1 := hf (i / P.cellsOf e) hq
    rw [List.getElem?_eq_getElem (by omega)] at h1
    refine KU d e m _ _ (i % P.cellsOf e) κ v h h1 ?_
    rw [List.getElem?_take, if_pos (Nat.mod_lt _ hp), List.getElem?_drop, Nat.mul_comm, Nat.div_add_mod]
    exact hv
   · cases h
  · cases h
theorem Iv {w : World} : ∀ (l : List Value), (∀ v ∈ l, R9 w .i v) → ∃ N : List Int, l = N.map (Value.int .i64) ∧ ∀ x ∈ N, -9223372036854775808 ≤ x ∧ x ≤ 9223372036854775807
 | [], _ => ⟨[], rfl, fun x hx => by cases hx⟩
 | v :: l, h => by
  obtain ⟨N, hN, hw⟩ := Iv l fun u hu => h u (by simp [hu])
  obtain ⟨n, hn, PE⟩ := h v (by simp)
  refine ⟨n :: N, by rw [hn, hN]; rfl, fun x hx => ?_⟩
  rcases List.mem_cons.1 hx with rfl | hx
  ·
   simp [Lit.wf, IntKind.min, IntKind.max, IntKind.signed, IntKind.bits] at PE
   omega
  · exact hw x hx
theorem He {w : World} : ∀ (l : List Value), (∀ v ∈ l, R9 w .u v) → ∃ L : List B8, l = L.map u8v
 | [], _ => ⟨[], rfl⟩
 | v :: l, h => by
  obtain ⟨L, hL⟩ := He l fun u hu => h u (by simp [hu])
  obtain ⟨x, hx⟩ := h v (by simp)
  exact ⟨x :: L, by rw [hx, hL]; rfl⟩
end
/-- an act: what comes -/
structure Ac where
 d : Int
 n : Int
 b : List B8
 o : Nt
 p : AZ
 k : List B8
def SS (a : Ac) (vb : Value) : List Value := [J a.d, J a.n, vb, J a.o.1, J a.o.2.1, J a.o.2.2.1, J a.o.2.2.2] ++ (EI a.p ++ a.k.map u8v)
def i64 (x : Int) : Prop := -9223372036854775808 ≤ x ∧ x ≤ 9223372036854775807
structure Nv (a : Ac) : Prop where
 n : i64 a.n
 p : a.p.ok
 k : a.k.length = 16
theorem Uj {a : Ac} {vb : Value} (h : Nv a) : (SS a vb).length = 59 := by
 have := H9 h.p
 have := h.k
 simp only [SS, List.length_append, List.length_cons, List.length_nil, List.length_map]
 omega
theorem eX {w : World} {cs : List Value} (hl : cs.length = 59) (h : ∀ (i : Nat) v, cs[i]? = some v → R9 w (if i = 2 then .s else if i < 19 then .i else .u) v) : ∃ a vb, Nv a ∧ B9 w vb a.b ∧ cs = SS a vb := by
 have part : ∀ lo n κ, lo + n ≤ 59 → (∀ i, lo ≤ i → i < lo + n → (if i = 2 then Ck.s else if i < 19 then .i else .u) = κ) → ∀ v ∈ (cs.drop lo).take n, R9 w κ v := fun lo n κ h1 h2 v hv => by
  obtain ⟨j, hj, he⟩ := List.getElem_of_mem hv
  have LS : j < n := by rw [List.length_take] at hj; omega
  have h3 := h (lo + j) v (by rw [← he, List.getElem_take, List.getElem_drop]; exact List.getElem?_eq_getElem (by omega))
  rwa [h2 (lo + j) (by omega) (by omega)] at h3
 obtain ⟨N0, e0, w0⟩ := Iv _ (part 0 2 .i (by omega) (fun i _ hi => by rw [if_neg (by omega), if_pos (by omega)]))
 obtain ⟨N1, e1, w1⟩ := Iv _ (part 3 4 .i (by omega) (fun i hi mO => by rw [if_neg (by omega), if_pos (by omega)]))
 obtain ⟨N2, e2, w2⟩ := Iv _ (part 7 12 .i (by omega) (fun i hi mO => by rw [if_neg (by omega), if_pos (by omega)]))
 obtain ⟨S, e3⟩ := He _ (part 19 16 .u (by omega) (fun i hi mO => by rw [if_neg (by omega), if_neg (by omega)]))
 obtain ⟨T, e4⟩ := He _ (part 35 8 .u (by omega) (fun i hi mO => by rw [if_neg (by omega), if_neg (by omega)]))
 obtain ⟨K, e5⟩ := He _ (part 43 16 .u (by omega) (fun i hi mO => by rw [if_neg (by omega), if_neg (by omega)]))
 obtain ⟨vb, h2⟩ : ∃ vb, cs[2]? = some vb := ⟨cs[2], List.getElem?_eq_getElem (by omega)⟩
 obtain ⟨L, hL⟩ : ∃ L, B9 w vb L := h 2 _ h2
 have l0 : N0.length = 2 := by have := congrArg List.length e0; simp at this; omega
 have l1 : N1.length = 4 := by have := congrArg List.length e1; simp at this; omega
 have l2 : N2.length = 12 := by have := congrArg List.length e2; simp at this; omega
 have l3 : S.length = 16 := by have := congrArg List.length e3; simp at this; omega
 have l4 : T.length = 8 := by have := congrArg List.length e4; simp at this; omega
 have l5 : K.length = 16 := by have := congrArg List.length e5; simp at this; omega
 have sp : ∀ lo n, cs.drop lo = (cs.drop lo).take n ++ cs.drop (lo + n) := fun lo n => by rw [← List.drop_drop]; exact (List.take_append_drop n _).symm
 have Gu : cs = (cs.drop 0).take 2 ++ ([vb] ++ ((cs.drop 3).take 4 ++ ((cs.drop 7).take 12 ++ ((cs.drop 19).take 16 ++ ((cs.drop 35).take 8 ++ (cs.drop 43).take 16))))) := by
  have hv : (cs.drop 2).take 1 = [vb] := by
   rw [List.drop_eq_getElem_cons (by omega), List.take_succ_cons, List.take_zero]
   rw [List.getElem?_eq_getElem (by omega)] at h2
   rw [Option.some.inj h2]
  have hz : cs.drop 59 = [] := List.drop_of_length_le (by omega)
  have h0 := sp 0 2
  have h1 := sp 2 1
  have h3 := sp 3 4
  have h4 := sp 7 12
  have h5 := sp 19 16
  have h6 := sp 35 8
  have h7 := sp 43 16
  rw [hv] at h1
  simp only [Nat.reduceAdd] at h0 h1 h3 h4 h5 h6 h7
  rw [hz, List.append_nil] at h7
  rw [← h7, ← h6, ← h5, ← h4, ← h3, ← h1, ← h0]
  rfl
 match N0, l0, e0 with
 | [d, n], _, e0 =>
 match N1, l1, e1 with
 | [o1, o2, o3, o4], _, e1 =>
 refine ⟨⟨d, n, L, (o1, o2, o3, o4), ⟨N2, S, T⟩, K⟩, vb, ⟨w0 n (by simp), ⟨l2, l3, l4, w2⟩, l5⟩, hL, ?_⟩
 rw [Gu, e0, e1, e2, e3, e4, e5]
 simp [SS, EI]
end
section
theorem Zn : BI Tryz.prog 38 0 0 := fun b o w => by go_simp
theorem TQ : BI Tryz.prog 38 1 1 := fun b o w => by go_simp
theorem Zm : BI Tryz.prog 38 2 2 := fun b o w => by go_simp
theorem TP : BI Tryz.prog 38 3 3 := fun b o w => by go_simp
theorem nX : BI Tryz.prog 38 4 7 := fun b o w => by go_simp
theorem nW : BI Tryz.prog 38 5 43 := fun b o w => by go_simp
abbrev RF (a : Ac) (vb : Value) : Array Value := (SS a vb).toArray
noncomputable def Rm (p : AZ) : List B8 := if Bg p = true then Cx p else []
noncomputable def eC (p : AZ) : Int := if Bg p = true then 0 else 1
noncomputable def JK (k : List B8) (p : AZ) : AZ := if Cf p = true then BK k p else Ec
noncomputable def Fw (a : Ac) : List B8 := if a.d = 1 then a.b else Rm (if a.d = 6 then JK a.k a.p else a.p)
theorem W5 (w : World) (p : AZ) (hp : p.ok) : Calls Tryz.prog 39 #[.agg (pv p)] w fun e w' => (∃ v, e = .returned (.tuple #[v, J (eC p)]) ∧ B9 w' v (Rm p)) ∧ Below w.heap.size w w' :=
 (MF w p hp).mono fun e w' ⟨h1, h2⟩ => by
  rcases h1 with ⟨h, A, c, he, ho⟩ | ⟨h, he⟩
  · exact ⟨⟨_, by rw [eC, if_pos h]; exact he, by rw [Rm, if_pos h]; exact Dg.row ho⟩, h2⟩
  · exact ⟨⟨_, by rw [eC, if_neg (by rw [h]; simp)]; exact he, by rw [Rm, if_neg (by rw [h]; simp)]; exact Ee _⟩, h2⟩
section
variable {w : World} {b : Nat} {t : TypeId} {a : Ac} {vb : Value}
theorem Ui (k : Ad w b t (RF a vb)) {j : Nat} {v : Value} (h : (SS a vb)[j]? = some v) : w.cell? ⟨b, j, none⟩ = some v := by
 rw [k.cell, List.getElem?_toArray, h]
theorem bG (k : Ad w b t (RF a vb)) : w.cell? ⟨b, 0, none⟩ = some (J a.d) := Ui k rfl
theorem tW (k : Ad w b t (RF a vb)) : w.cell? ⟨b, 2, none⟩ = some vb := Ui k rfl
theorem tU (k : Ad w b t (RF a vb)) : w.rangeAt b 7 (EI a.p) := fun j v hv => by
 refine Ui k ?_
 rw [SS, List.getElem?_append_right (by simp), show 7 + j - [J a.d, J a.n, vb, J a.o.1, J a.o.2.1, J a.o.2.2.1, J a.o.2.2.2].length = j by simp, List.getElem?_append_left (List.getElem?_eq_some_iff.1 hv).1]
 exact hv
theorem tV (k : Ad w b t (RF a vb)) (h : Nv a) : w.rangeAt b 43 (a.k.map u8v) := fun j v hv => by
 refine Ui k ?_
 rw [SS, List.getElem?_append_right (by simp; omega), List.getElem?_append_right (by rw [H9 h.p]; simp; omega), show 43 + j - [J a.d, J a.n, vb, J a.o.1, J a.o.2.1, J a.o.2.2.1, J a.o.2.2.2].length - (EI a.p).length = j by rw [H9 h.p]; simp; omega]
 exact hv
end
theorem UQ (w : World) (x : Ac) (vb : Value) (Ca : Nv x) (XZ : B9 w vb x.b) : Calls Tryz.prog 24 #[.agg (RF x vb)] w fun e w' => (∃ v, e = .returned v ∧ B9 w' v (Fw x)) ∧ Below w.heap.size w w' := by
 have Aa := Below.refl w.heap.size w
 refine Az 32 Tryz.func24 R R λ a H => zC (zD (B7 38 (.tmp 0) (RF x vb) (H.e R) fun w0 b0 Ak hb k0 => ?_))
 have g0 := Nat.le_trans Aa.size Ak; replace Aa := Aa.tr hb; clear hb; clear Ak; refine kL 1 H rfl λ a H => zA (zB (zC (zC (zD (kR 1 H rfl λ a H => kV H (Ai U3 rfl (H.ev rfl) (bG k0)) rfl λ a H => ?_)))))
 by_cases BE : (x.d) = 1
 ·
  exact kV H (A9 U3 (H.e R) Am (AE (BE))) R λ a H => zA (zB (zH H R (zC (zD (kR 1 H R λ a H => kX 1 (v := vb) H (Ai CO R (H.e R) (tW k0)) R λ a H => zA (zB (zF (zJ (Ag H R R ⟨⟨_, R, by rw [Fw, if_pos (by omega)]; exact B9.up XZ Aa⟩, Aa⟩)))))))))
 ·
  refine kV H (A9 U3 (H.e R) Am (AF (BE))) R λ a H => zA (zB (zG H R (zE (zB (zC (zD (kR 1 H R λ a H => kV (v := .agg (pv x.p)) H (AL (cs := EI x.p) (H.e R) (tU k0) (by kernel_rfl) (by rw [H9 Ca.p]; exact uR) R) R λ a H => Bj 36 (pv Ec) Jn fun w1 b1 Ak hb k1 => ?_)))))))
  have g1 := Nat.le_trans Aa.size Ak; have N7 : b0 < b1 := Nat.lt_of_lt_of_le k0.lt Ak; replace k0 := k0.ups hb; replace Aa := Aa.tr hb; clear hb; clear Ak; refine kl H rfl λ a H => AT 36 (.tmp 3) (.tmp 14) b1 36 (pv x.p) _ (H.ev rfl) (H.ev rfl) k1 (AR Ca.p) (by rw [AI Bz, AI Ca.p]) (BU _) fun w' hb ho kq => ?_
  clear k1; have k1 := kq; replace k0 := Ae k0 (ho _ (by omega)); replace Aa := Aa.trans (hb _ g1); clear hb ho; clear kq; refine Dz H λ a H => zA (zB (zC (zC (zD (kR 1 H rfl λ a H => kV H (Ai U3 rfl (H.ev rfl) (bG k0)) rfl λ a H => ?_)))))
  by_cases Cn : (x.d) = 6
  ·
   refine kV H (A9 U3 (H.e R) Am (AE (Cn))) R λ a H => zA (zB (zH H R (zC (zD (kR 1 H R λ a H => kV (v := .agg (BL x.k)) H (AL (cs := x.k.map u8v) (H.e R) (tV k0 Ca) (by kernel_rfl) (by rw [List.length_map, Ca.k]; exact Ft) R) R λ a H => kV (v := .agg (pv x.p)) H (Af b1 36 _ _ (H.e R) k1 C1 R (AR Ca.p)) R λ a H => kC 0 (Jr _ x.k x.p Ca.k Ca.p) (AA Z3 (H.e R) (H.e R)) H R fun w9 a hb H => ?_)))))
   replace k0 := k0.ups hb; replace k1 := k1.ups hb; replace Aa := Aa.tr hb; clear hb
   refine kR 3 H R λ a H => Bj 36 (pv Ec) Jn fun w2 b2 Ak hb k2 => ?_
   have g2 := Nat.le_trans Aa.size Ak; have Ro : b0 < b2 := Nat.lt_of_lt_of_le k0.lt Ak; have N6 : b1 < b2 := Nat.lt_of_lt_of_le k1.lt Ak; replace k0 := k0.ups hb; replace k1 := k1.ups hb; replace Aa := Aa.tr hb; clear hb; clear Ak; refine kl H rfl λ a H => AT 36 (.tmp 4) (.tmp 23) b2 36 (pv (JK x.k x.p)) _ (H.ev rfl) (H.ev rfl) k2 (AR (show (JK x.k x.p).ok from F6 Ca.p)) (by rw [AI Bz, AI (show (JK x.k x.p).ok from F6 Ca.p)]) (BU _) fun w' hb ho kq => ?_
   clear k2; have k2 := kq; replace k0 := Ae k0 (ho _ (by omega)); replace k1 := Ae k1 (ho _ (by omega)); replace Aa := Aa.trans (hb _ g2); clear hb ho; clear kq; refine kO 1 H rfl λ a H => zA (zB (zD (kV (v := .agg (pv (JK x.k x.p))) H (Af b2 36 _ _ (H.ev rfl) k2 C1 rfl (AR (show (JK x.k x.p).ok from F6 Ca.p))) rfl λ a H => AT 36 (.tmp 3) (.tmp 25) b1 36 (pv (JK x.k x.p)) _ (H.ev rfl) (H.ev rfl) k1 (AR (show (JK x.k x.p).ok from F6 Ca.p)) (by rw [AI Ca.p, AI (show (JK x.k x.p).ok from F6 Ca.p)]) (BU _) fun w' hb ho kq => ?_)))
   clear k1; have k1 := kq; replace k0 := Ae k0 (ho _ (by omega)); replace k2 := Ae k2 (ho _ (by omega)); replace Aa := Aa.trans (hb _ g1); clear hb ho; clear kq; refine Dz H λ a H => zA (zB (zC (zD (kV (v := .agg (pv (JK x.k x.p))) H (Af b1 36 _ _ (H.ev rfl) k1 C1 rfl (AR (show (JK x.k x.p).ok from F6 Ca.p))) rfl λ a H => A8 _ _ _ (W5 _ (JK x.k x.p) (show (JK x.k x.p).ok from F6 Ca.p)) (Av Vk (H.ev rfl)) ?_))))
   rintro e w9 ⟨⟨v, rfl, hv⟩, hb⟩; refine ⟨_, rfl, ?_⟩; replace k0 := k0.ups hb; replace k1 := k1.ups hb; replace k2 := k2.ups hb; replace Aa := Aa.tr hb; clear hb; exact kL 5 H rfl λ a H => zA (zB (zC (zD (kR 2 H rfl λ a H => zA (zB (zF (Ag H rfl rfl ⟨⟨_, rfl, by rw [Fw, if_neg (by omega), if_pos (by omega)]; exact hv⟩, Aa⟩)))))))
  ·
   refine kV H (A9 U3 (H.e R) Am (AF (Cn))) R λ a H => zA (zB (zG H R (zE (zB (zC (zD (kV (v := .agg (pv x.p)) H (Af b1 36 _ _ (H.e R) k1 C1 R (AR Ca.p)) R λ a H => A8 _ _ _ (W5 _ x.p Ca.p) (Av Vk (H.e R)) ?_)))))))
   rintro e w9 ⟨⟨v, rfl, hv⟩, hb⟩; refine ⟨_, rfl, ?_⟩; replace k0 := k0.ups hb; replace k1 := k1.ups hb; replace Aa := Aa.tr hb; clear hb; exact kL 5 H rfl λ a H => zA (zB (zC (zD (kR 2 H rfl λ a H => zA (zB (zF (Ag H rfl rfl ⟨⟨_, rfl, by rw [Fw, if_neg (by omega), if_neg (by omega)]; exact hv⟩, Aa⟩)))))))
end
section
theorem NX {w w' : World} {B e size n b : Nat} {v : Value} {xs : List Value} {m : Option Nat} {vw : Int → Option Nt} (h : w.ownsRow B e size v n xs) (hb : b < B) (hm : AW w m vw) (ho : Bi b m w w') : w'.ownsRow B e size v n xs := by
 refine ⟨h.1, ?_⟩
 rcases h.2 with h2 | ⟨g, cap, cur, rfl, hB, hg, hr⟩
 · exact .inl h2
 ·
  refine .inr ⟨g, cap, cur, rfl, hB, (ho.block g (by
   rcases Nat.lt_or_ge g w.heap.size with h | h
   · exact h
   · rw [Array.getElem?_eq_none h] at hg; cases hg) (by omega) (fun e => by
   subst e
   obtain ⟨_, _, ⟨es, cl, hq, _⟩, _⟩ := (show En w g vw from hm)
   rw [hq] at hg
   cases hg)).trans hg, hr⟩
theorem AK.onlym {w w' : World} {B b : Nat} {v : Value} {L : List (List B8)} {m : Option Nat} {vw : Int → Option Nt} (h : AK w B v L) (hb : b < B) (hm : AW w m vw) (ho : Bi b m w w') : AK w' B v L := by
 obtain ⟨vs, h1, h2, h3, h4⟩ := h
 exact ⟨vs, h1, NX h2 hb hm ho, fun i x y hx hy => NX (h3 i x y hx hy) hb hm ho, h4⟩
theorem AK.shape {w : World} {B : Nat} {v : Value} {L : List (List B8)} (h : AK w B v L) : ∃ A c, v = .slice A L.length c := by
 obtain ⟨vs, _, h2, _⟩ := h
 obtain ⟨A, c, rfl, _⟩ := Et h2
 exact ⟨A, c, R⟩
theorem AK.head {w : World} {B n k : Nat} {A : Option Addr} {L : List (List B8)} (h : AK w B (.slice A n k) L) (hn : 0 < n) : ∃ g, A = some ⟨g, 0, none⟩ := by
 obtain ⟨vs, h1, h2, _⟩ := h
 rcases h2.2 with ⟨e, h0⟩ | ⟨g, cap, cur, he, _⟩
 ·
  injection e with e1 e2
  omega
 ·
  injection he with e1
  exact ⟨g, e1⟩
theorem AK.at {w : World} {B n k i g : Nat} {L : List (List B8)} {y : List B8} (h : AK w B (.slice (some ⟨g, 0, none⟩) n k) L) (hy : L[i]? = some y) : ∃ x, w.cell? ⟨g, i, none⟩ = some x ∧ B9 w x y := by
 obtain ⟨vs, h1, h2, h3, h4⟩ := h
 have hi := (List.getElem?_eq_some_iff.1 hy).1
 rcases h2.2 with ⟨_, h0⟩ | ⟨g, cap, cur, he, hB, hg, hn, aL, If, qV⟩
 · omega
 ·
  injection he with e1 e2 e3
  injection e1 with e1
  injection e1 with e1
  subst e1
  obtain ⟨x, hx⟩ : ∃ x, vs[i]? = some x := ⟨_, List.getElem?_eq_getElem (by omega)⟩
  refine ⟨x, ?_, Dg.row (h3 i _ _ hx hy)⟩
  rw [← qV, List.getElem?_take_of_lt (by omega)] at hx
  unfold World.cell?
  rw [hg]
  simpa using hx
theorem RM [Dw] (w : World) (b : Nat) (m : Option Nat) (c c' : Cl) (L : List (List B8)) (n : Nat) (h : Bn w b m c) (hn : L.length = n) (hL : Eo c = L) (hc : DD c = c') : Calls Tryz.prog 15 #[.pointer (some ⟨b, 0, none⟩)] w fun e w' => (∃ A k, e = .returned (.slice A n k) ∧ ∃ B, b < B ∧ AK w' B (.slice A n k) L) ∧ Bn w' b m c' ∧ Bi b m w w' := by
 subst hL hc hn
 exact (PM w b m c h).mono fun e w' ⟨⟨v, he, ho⟩, h2, h3⟩ => by
  obtain ⟨A, k, rfl⟩ := ho.shape
  exact ⟨⟨A, k, he, _, h.lt, ho⟩, h2, h3⟩
theorem ON [Dw] (w : World) (b : Nat) (m : Option Nat) (c c' : Cl) (L : List (List B8)) (n : Nat) (h : Bn w b m c) (hX : Dw.lim b ≤ w.heap.size) (hn : L.length = n) (vb : Value) (bs : List B8) (Jh : B9 w vb bs) (fE : bs.length ≤ 1000000) (hL : DQ c bs = L) (hc : DR c bs = c') : Calls Tryz.prog 23 #[.pointer (some ⟨b, 0, none⟩), vb] w fun e w' => (∃ A k, e = .returned (.slice A n k) ∧ ∃ B, b < B ∧ AK w' B (.slice A n k) L) ∧ (∃ m', Bn w' b m' c') ∧ Bi b m w w' := by
 subst hL hc hn
 exact (PQ w b m c h vb bs Jh fE hX).mono fun e w' ⟨⟨v, he, ho⟩, ⟨m', h2, _⟩, h3⟩ => by
  obtain ⟨A, k, rfl⟩ := ho.shape
  exact ⟨⟨A, k, he, _, h.lt, ho⟩, ⟨m', h2⟩, h3⟩
theorem Yn [Dw] (w : World) (b : Nat) (m : Option Nat) (c c' : Cl) (n : Int) (r : Bool) (h : Bn w b m c) (hL : Io n = r) (hc : Gh c n = c') : Calls Tryz.prog 17 #[.pointer (some ⟨b, 0, none⟩), J n] w fun e w' => e = .returned (.bool r) ∧ (∃ m', Bn w' b m' c') ∧ Bi b m w w' := by
 subst hL hc
 exact (Mu w b m c h n).mono fun e w' ⟨he, ⟨m', h2, _⟩, h3⟩ => ⟨he, ⟨m', h2⟩, h3⟩
theorem YF [Dw] (w : World) (b : Nat) (m : Option Nat) (c c' : Cl) (o : Nt) (r : Bool) (h : Bn w b m c) (hX : Dw.lim b ≤ w.heap.size) (hL : decide (¬ BO c o) = r) (hc : EE c o = c') : Calls Tryz.prog 21 #[.pointer (some ⟨b, 0, none⟩), .agg (cN o)] w fun e w' => e = .returned (.bool r) ∧ Bn w' b m c' ∧ Bi b m w w' := by
 subst hL hc
 exact NY w b m c h o hX
theorem gB [Dw] (w : World) (u : Int) (c : Cl) (hc : G3 (DV u) = c) : Calls Tryz.prog 13 #[J u] w fun e w' => (∃ b, e = .returned (.pointer (some ⟨b, 0, none⟩)) ∧ w.heap.size ≤ b ∧ Bn w' b none c) ∧ Below w.heap.size w w' := by
 subst hc
 exact (T7 w u).mono fun e w' ⟨⟨b, he, hg, hc⟩, hb⟩ => ⟨⟨b, he, hg, hc _⟩, hb⟩
theorem MG (w : World) (v : Value) (bs : List B8) (p : AZ) (x : Int) (hr : B9 w v bs) (hn : bs.length ≤ 1000000) (hp : GQ bs = p ∧ ID bs = x) : Calls Tryz.prog 41 #[v] w fun e w' => e = .returned (.tuple #[.agg (pv p), J x]) ∧ Below w.heap.size w w' := by
 rw [← hp.1, ← hp.2]
 exact Qu w v bs hr hn
theorem eB (w : World) (k : List B8) (p : AZ) (r : Bool) (hk : k.length = 16) (hp : p.ok) (hr : HJ k p = r) : Calls Tryz.prog 42 #[.agg (BL k), .agg (pv p)] w fun e w' => e = .returned (.bool r) ∧ Below w.heap.size w w' := by
 subst hr
 exact NO w k p hk hp
theorem Ym [Dw] (w : World) (b : Nat) (m : Option Nat) (c : Cl) (x : Int) (h : Bn w b m c) (hx : c.state = x) : Calls Tryz.prog 27 #[.pointer (some ⟨b, 0, none⟩)] w fun e w' => e = .returned (J x) ∧ Below w.heap.size w w' := by
 subst hx
 exact NG w b m c h
theorem bQ [Dw] (w : World) (b : Nat) (m : Option Nat) (c : Cl) (x : Int) (h : Bn w b m c) (hx : M4 c = x) : Calls Tryz.prog 29 #[.pointer (some ⟨b, 0, none⟩)] w fun e w' => e = .returned (J x) ∧ Below w.heap.size w w' := by
 subst hx
 exact L4 w b m c h
theorem Yk [Dw] (w : World) (b : Nat) (m : Option Nat) (c : Cl) (x : Int) (h : Bn w b m c) (hx : ((c.os.length : Nat) : Int) = x) : Calls Tryz.prog 31 #[.pointer (some ⟨b, 0, none⟩)] w fun e w' => e = .returned (J x) ∧ Below w.heap.size w w' := by
 subst hx
 exact NF w b m c h
theorem cS [Dw] (w : World) (b : Nat) (m : Option Nat) (c : Cl) (x : Int) (h : Bn w b m c) (hx : c.code = x) : Calls Tryz.prog 33 #[.pointer (some ⟨b, 0, none⟩)] w fun e w' => e = .returned (J x) ∧ Below w.heap.size w w' := by
 subst hx
 exact QO w b m c h
theorem bN [Dw] (w : World) (b : Nat) (m : Option Nat) (c : Cl) (u : Int) (n : Nt) (r : Bool) (h : Bn w b m c) (cU : -9223372036854775808 ≤ u ∧ u ≤ 9223372036854775807) (hn : (c.vw u).getD CH = n) (hr : (c.vw u).isSome = r) : Calls Tryz.prog 35 #[.pointer (some ⟨b, 0, none⟩), J u] w fun e w' => e = .returned (.tuple #[.agg (cN n), .bool r]) ∧ Below w.heap.size w w' := by
 subst hn hr
 refine PJ w b m c h u ?_
 simp [Lit.wf, IntKind.min, IntKind.max, IntKind.signed, IntKind.bits]
 omega
theorem Jy (w : World) (x : Ac) (vb : Value) (bs : List B8) (Ca : Nv x) (XZ : B9 w vb x.b) (h : Fw x = bs) : Calls Tryz.prog 24 #[.agg (RF x vb)] w fun e w' => (∃ v, e = .returned v ∧ B9 w' v bs) ∧ Below w.heap.size w w' := by
 subst h
 exact UQ w x vb Ca XZ
theorem Bn.down [Dw] {w w1 w2 : World} {b B : Nat} {m : Option Nat} {c : Cl} (h : Bn w1 b m c) (hW : Below B w w1) (hb : B ≤ b) (hB : B ≤ w1.heap.size) (ho : Bi b m w1 w2) : Below B w w2 := ho.down hW hb hB h.mb
def n0 : Nt := (0, 0, 0, 0)
abbrev Lt (d : Int) (k : List B8) (p : AZ) : Ac := ⟨d, 0, [], n0, p, k⟩
theorem Mn {d : Int} {k : List B8} {p : AZ} (hp : p.ok) (hk : k.length = 16) : Nv (Lt d k p) := ⟨by unfold i64; show (_ : Int) ≤ 0 ∧ (0 : Int) ≤ _; omega, hp, hk⟩
section
variable {d : Option Tmp} {tt : TypeId} {ps : String} {af : Array Edge} {gd : Option (Nat × Bool)} {a : Act} {w : World} {x1 x3 x4 x5 x10 x11 x12 : Operand}
theorem WK {p : AZ} (hp : p.ok) (h4 : a.eval x4 = .agg (pv p)) :
  (execOp a.eval ⟨d, .build 38 #[(0, .const (J 5)), (4, x4)], tt, ps, af, gd⟩).run Tryz.prog w = .ok (.value (.agg (RF (Lt 5 EB p) (.slice none 0 0)))) w := by
 obtain ⟨n, s, t⟩ := p
 obtain ⟨a0, a1, a2, a3, a4, a5, a6, a7, a8, a9, a10, a11, rfl⟩ := WY hp.1
 obtain ⟨s0, s1, s2, s3, s4, s5, s6, s7, s8, s9, s10, s11, s12, s13, s14, s15, rfl⟩ := BV hp.2.1
 obtain ⟨t0, t1, t2, t3, t4, t5, t6, t7, rfl⟩ := YO hp.2.2.1
 exact Bl #[(0, J 5), (4, .agg (pv ⟨[a0, a1, a2, a3, a4, a5, a6, a7, a8, a9, a10, a11], [s0, s1, s2, s3, s4, s5, s6, s7, s8, s9, s10, s11, s12, s13, s14, s15], [t0, t1, t2, t3, t4, t5, t6, t7]⟩))] _ (by rw [← h4]; simp [Am]) (fun w => by kernel_rfl)
theorem WJ {p : AZ} {k : List B8} (hp : p.ok) (hk : k.length = 16) (h5 : a.eval x5 = .agg (BL k)) (h4 : a.eval x4 = .agg (pv p)) :
  (execOp a.eval ⟨d, .build 38 #[(0, .const (J 6)), (5, x5), (4, x4)], tt, ps, af, gd⟩).run Tryz.prog w = .ok (.value (.agg (RF (Lt 6 k p) (.slice none 0 0)))) w := by
 obtain ⟨n, s, t⟩ := p
 obtain ⟨a0, a1, a2, a3, a4, a5, a6, a7, a8, a9, a10, a11, rfl⟩ := WY hp.1
 obtain ⟨s0, s1, s2, s3, s4, s5, s6, s7, s8, s9, s10, s11, s12, s13, s14, s15, rfl⟩ := BV hp.2.1
 obtain ⟨t0, t1, t2, t3, t4, t5, t6, t7, rfl⟩ := YO hp.2.2.1
 obtain ⟨k0, k1, k2, k3, k4, k5, k6, k7, k8, k9, FH, Gq, HG, gF, Hr, pH, rfl⟩ := BV hk
 exact Bl #[(0, J 6), (5, .agg (BL [k0, k1, k2, k3, k4, k5, k6, k7, k8, k9, FH, Gq, HG, gF, Hr, pH])), (4, .agg (pv ⟨[a0, a1, a2, a3, a4, a5, a6, a7, a8, a9, a10, a11], [s0, s1, s2, s3, s4, s5, s6, s7, s8, s9, s10, s11, s12, s13, s14, s15], [t0, t1, t2, t3, t4, t5, t6, t7]⟩))] _ (by rw [← h4, ← h5]; simp [Am]) (fun w => by kernel_rfl)
def Ji (n e : Int) (k : List B8) : AZ := ⟨[2, 0, 0, 0, 0, 0, 0, 0, 0, 0, n, e], k, Z8⟩
def Nu (i n : Int) (k : List B8) : AZ := ⟨[4, i, 0, 0, 0, 0, 0, 0, 0, 0, n, 0], k, Z8⟩
def fZ (i q : Int) (n : Nt) : AZ := ⟨[8, i, q, n.1, 0, n.2.2.1, n.2.2.2, n.2.1, 0, 0, 0, 0], EB, Z8⟩
def fR (i q c : Int) : AZ := ⟨[11, i, q, 0, c, 0, 0, 0, 0, 0, 0, 0], EB, Z8⟩
theorem cC {n e : Int} {k : List B8} (hk : k.length = 16) (Nc : a.eval x10 = J n) (LV : a.eval x11 = J e) (Ln : a.eval x12 = .agg (BL k)) :
  (execOp a.eval ⟨d, .build 36 #[(0, .const (J 2)), (10, x10), (11, x11), (12, x12)], tt, ps, af, gd⟩).run Tryz.prog w = .ok (.value (.agg (pv (Ji n e k)))) w := by
 obtain ⟨s0, s1, s2, s3, s4, s5, s6, s7, s8, s9, s10, s11, s12, s13, s14, s15, rfl⟩ := BV hk
 exact Bl #[(0, J 2), (10, J n), (11, J e), (12, .agg (BL [s0, s1, s2, s3, s4, s5, s6, s7, s8, s9, s10, s11, s12, s13, s14, s15]))] _ (by simp [Am, Nc, LV, Ln]) (fun w => by kernel_rfl)
theorem fU {i n : Int} {k : List B8} (hk : k.length = 16) (h1 : a.eval x1 = J i) (Nc : a.eval x10 = J n) (Ln : a.eval x12 = .agg (BL k)) :
  (execOp a.eval ⟨d, .build 36 #[(0, .const (J 4)), (1, x1), (10, x10), (12, x12)], tt, ps, af, gd⟩).run Tryz.prog w = .ok (.value (.agg (pv (Nu i n k)))) w := by
 obtain ⟨s0, s1, s2, s3, s4, s5, s6, s7, s8, s9, s10, s11, s12, s13, s14, s15, rfl⟩ := BV hk
 exact Bl #[(0, J 4), (1, J i), (10, J n), (12, .agg (BL [s0, s1, s2, s3, s4, s5, s6, s7, s8, s9, s10, s11, s12, s13, s14, s15]))] _ (by simp [Am, h1, Nc, Ln]) (fun w => by kernel_rfl)
end
theorem Q0 {d : Option Tmp} {tt t2 : TypeId} {ps : String} {af : Array Edge} {gd : Option (Nat × Bool)} {a : Act} {w : World} {x : Operand} {A : Option Addr} {r : Bool} (hx : a.eval x = .pointer A) (hr : A.isNone = r) :
  (execOp a.eval ⟨d, .binOp .eql 25 x (.const (.pointer none)) t2, tt, ps, af, gd⟩).run Tryz.prog w = .ok (.value (.bool r)) w := by
 subst hr
 have h := run_eql_pointer_nil (P := Tryz.prog) w 25 A (by kernel_rfl)
 unfold execOp
 simp only [hx]
 go_simp
theorem qL : Tryz.prog.stoodInHeld 49 = false := by kernel_rfl
theorem vQ : Tryz.prog.eqGuardType Tryz.prog.depth 49 = false := by kernel_rfl
theorem iZ (x y : Nt) (w : World) : (Op.equalIn 10000 49 (.agg #[J x.1, J x.2.1, J x.2.2.1, J x.2.2.2]) (.agg #[J y.1, J y.2.1, J y.2.2.1, J y.2.2.2])).run Tryz.prog w = .ok (decide (x = y)) w := by
 have h0 := qL
 have u32 := PH
 have u3 := U3
 obtain ⟨a1, a2, a3, a4⟩ := x
 obtain ⟨b1, b2, b3, b4⟩ := y
 go_simp
 by_cases e0 : a1 = b1 <;> by_cases e1 : a2 = b2 <;> by_cases e2 : a3 = b3 <;> by_cases e3 : a4 = b4 <;> simp [e0, e1, e2, e3]
theorem cB {a : Act} {w : World} {d : Option Tmp} {tt t2 : TypeId} {ps : String} {af : Array Edge} {gd : Option (Nat × Bool)} {p q : Operand} {x y : Nt} {r : Bool} (hx : a.eval p = .agg (cN x)) (hy : a.eval q = .agg (cN y)) (hr : decide (x = y) = r) :
  (execOp a.eval ⟨d, .binOp .eql 49 p q t2, tt, ps, af, gd⟩).run Tryz.prog w = .ok (.value (.bool r)) w := by
 subst hr
 have hg := vQ
 have fC := fun w => iZ x y w
 unfold execOp
 simp only [hx, hy]
 go_simp
theorem bY {a : Act} {w : World} {d : Option Tmp} {tt t2 : TypeId} {ps : String} {af : Array Edge} {gd : Option (Nat × Bool)} {p q : Operand} {x y : Nt} {r : Bool} (hx : a.eval p = .agg (cN x)) (hy : a.eval q = .agg (cN y)) (hr : (!decide (x = y)) = r) :
  (execOp a.eval ⟨d, .binOp .neq 49 p q t2, tt, ps, af, gd⟩).run Tryz.prog w = .ok (.value (.bool r)) w := by
 subst hr
 have hg := vQ
 have fC := fun w => iZ x y w
 unfold execOp
 simp only [hx, hy]
 go_simp
theorem xY : (Tryz.prog.info? 33).map (·.zero) = some (some (.agg (BL (List.replicate 16 0)))) := by kernel_rfl
theorem Iu {a0 a1 a2 a3 a4 a5 a6 a7 a8 a9 a10 a11 : Int} {k t : List B8} (hk : k.length = 16) (ht : t.length = 8) (h : (i64 a0 ∧ i64 a1 ∧ i64 a2 ∧ i64 a3 ∧ i64 a4 ∧ i64 a5) ∧ i64 a6 ∧ i64 a7 ∧ i64 a8 ∧ i64 a9 ∧ i64 a10 ∧ i64 a11) : (⟨[a0, a1, a2, a3, a4, a5, a6, a7, a8, a9, a10, a11], k, t⟩ : AZ).ok := by
 refine ⟨R, hk, ht, fun x hx => ?_⟩
 simp only [i64] at h
 simp only [List.mem_cons, List.not_mem_nil, or_false] at hx
 omega
theorem X7 {n e : Int} {k : List B8} (hk : k.length = 16) (hn : i64 n) (he : i64 e) : (Ji n e k).ok := Iu hk rfl (by unfold i64 at *; omega)
theorem ZB {i n : Int} {k : List B8} (hk : k.length = 16) (hi : i64 i) (hn : i64 n) : (Nu i n k).ok := Iu hk rfl (by unfold i64 at *; omega)
end
theorem II {c : Cl} {p : AZ} (hp : p.ok) (hr : Bg p = true) : DR c (Cx p) = Hp c p ∧ DQ c (Cx p) = Ho c p := by
 obtain ⟨h1, h2⟩ := Mm hp hr
 exact ⟨by rw [DR, if_pos h2, h1], by rw [DQ, if_pos h2, h1]⟩
theorem Hy {c : Cl} {k : List B8} {p : AZ} (hp : p.ok) (h : Cf p = true) : DR c (Cx (BK k p)) = Hp c (BK k p) ∧ DQ c (Cx (BK k p)) = Ho c (BK k p) := II (DL hp) (Js h)
theorem QB {c : Cl} {p : AZ} (h : Cf p = true) (hs : c.state = 3) (hi : p.fld 1 = c.id) : Fm c (BK c.key p) = true := by
 rw [Fm, NH h, Bool.and_true]
 exact decide_eq_true ⟨hs, hi⟩
def sk : List B8 := [9#8, 0#8, 0#8, 0#8, 0#8, 0#8, 0#8, 0#8, 0#8, 0#8, 0#8, 0#8, 0#8, 0#8, 0#8, 0#8]
theorem Fe : sk.length = 16 := rfl
def S0 : Cl := G3 4
def S1 : Cl := { S0 with nonce := 7, state := 1 }
def S2 : Cl := { S1 with now := 1, ask := 5 }
def S3 : Cl := { S2 with now := 2 }
def S4 : Cl := { S3 with epoch := 2, ck := sk, state := 2, ask := 6 }
def S5 : Cl := { S4 with state := 3, id := 3, key := sk, beats := 0, seq := 0, beat := 2, say := 2, next := 1, items := [] }
def S6 : Cl := { S5 with os := [(6, 2, 0, 0)] }
def S7 : Cl := { S6 with now := 3, beats := 1, beat := 7, say := 7 }
def S8 : Cl := { S7 with next := 2, vw := Fd (fun _ => none) (5, 8, 1, 1) }
def S9 : Cl := { S8 with os := [], seq := 1, say := 3, code := 8 }
def YC : AZ := ⟨[5, 3, 1, 0, 0, 0, 0, 0, 0, 0, 0, 0], EB, Z8⟩
def ZT : AZ := ⟨[6, 3, 1, 0, 0, 2, 0, 0, 0, 0, 0, 0], EB, Z8⟩
def cE : AZ := ⟨[9, 3, 0, 0, 0, 0, 0, 0, 1, 0, 0, 0], EB, Z8⟩
def RB : AZ := fZ 3 1 (5, 8, 1, 1)
def Sm : AZ := fR 3 1 8
theorem Wh : Cf YC = true := Mz (fun t => Se (by omega) (by omega)) (by decide)
theorem ZI : Cf ZT = true := Mz (fun t => OZ (by omega) (by omega) (by omega)) (by decide)
theorem ZJ : Cf cE = true := Mz (fun t => UD (by omega) (by omega) (by omega)) (by decide)
theorem PX : Cf RB = true := Mz (fun t => Sb (by decide) (by decide) (by decide) (by decide) (by decide) (by decide)) (by decide)
theorem Tg : Cf Sm = true := Mz (fun t => Qo (by decide) (by decide) (by decide)) (by decide)
theorem Oa : YC.ok := Iu rfl rfl (by unfold i64; omega)
theorem T2 : ZT.ok := Iu rfl rfl (by unfold i64; omega)
theorem T3 : cE.ok := Iu rfl rfl (by unfold i64; omega)
theorem NZ : RB.ok := Iu rfl rfl (by unfold i64; decide)
theorem QI : Sm.ok := Iu rfl rfl (by unfold i64; decide)
theorem QJ : (Ji 7 2 sk).ok := X7 Fe (by unfold i64; omega) (by unfold i64; omega)
theorem QK : (Nu 3 7 sk).ok := ZB Fe (by unfold i64; omega) (by unfold i64; omega)
theorem MO : (E1 7).ok := Iu rfl rfl (by unfold i64; omega)
theorem MP : (Gg 4 7 2 sk).ok := Iu rfl rfl (by unfold i64; omega)
theorem W1 : Bg (Ji 7 2 sk) = true := Pa (by omega) (by omega)
theorem W2 : Bg (Nu 3 7 sk) = true := UE (by omega) (by omega)
theorem ZN : Bg (E1 7) = true := Qp (by omega)
theorem ZO : Bg (Gg 4 7 2 sk) = true := Sd (by omega) (by omega) (by omega)
theorem yR : G3 (DV 4) = S0 := rfl
theorem yQ : Gh S0 7 = S1 := rfl
theorem yP : DD S1 = S2 := rfl
theorem yI : Eo S1 = [Cx (E1 7)] := by
 rw [← Tn ZN]
 rfl
theorem yO : DD S2 = S3 := rfl
theorem yH : Eo S2 = [] := rfl
theorem yN : DR S3 (Cx (Ji 7 2 sk)) = S4 := by
 rw [(II QJ W1).1]
 rfl
theorem yG : DQ S3 (Cx (Ji 7 2 sk)) = [Cx (Gg 4 7 2 sk)] := by
 rw [(II QJ W1).2, ← Tn ZO]
 rfl
theorem yM : DR S4 (Cx (Nu 3 7 sk)) = S5 := by
 rw [(II QK W2).1]
 rfl
theorem yF : DQ S4 (Cx (Nu 3 7 sk)) = [] := by
 rw [(II QK W2).2]
 rfl
theorem yL : EE S5 (6, 2, 0, 0) = S6 := if_neg (by decide)
theorem yE : decide (¬ BO S5 (6, 2, 0, 0)) = true := by decide
theorem yK : DD S6 = S7 := rfl
theorem yD : Eo S6 = [Cx (BK sk YC), Cx (BK sk ZT)] := by
 have h1 : I8 (G8 S6) (Jj 1) = [Cx (BK sk YC)] := OT (c := G8 S6) (p := Jj 1) Wh
 have h2 : I8 (D4 (G8 S6)) (LP (6, 2, 0, 0) 1) = [Cx (BK sk ZT)] := OT (c := D4 (G8 S6)) (p := LP (6, 2, 0, 0) 1) ZI
 show I8 (G8 S6) (Jj 1) ++ I8 (D4 (G8 S6)) (LP (6, 2, 0, 0) 1) = _
 rw [h1, h2]
 rfl
theorem cF : Fm S7 (BK sk RB) = true := QB (c := S7) PX rfl rfl
theorem uO : DR S7 (Cx (BK sk RB)) = S8 := by
 rw [(Hy NZ PX).1]
 show LR S7 (BK sk RB) = S8
 rw [LR, if_pos cF]
 show DC S7 (BK sk RB) = S8
 have h : takeF 1 [] (1, 5, 8, 1, 1) = ((2, []), [(5, 8, 1, 1)]) := by
  rw [Jo (by decide) (by decide) (by decide) (by decide) (by decide)]
  rfl
 show ({ S7 with next := (takeF 1 [] (1, 5, 8, 1, 1)).1.1, items := (takeF 1 [] (1, 5, 8, 1, 1)).1.2, vw := (takeF 1 [] (1, 5, 8, 1, 1)).2.foldl ES S7.vw } : Cl) = S8
 rw [h]
 rfl
theorem yC : DQ S7 (Cx (BK sk RB)) = [Cx (BK sk cE)] := by
 have h8 := uO
 rw [(Hy NZ PX).1] at h8
 have h8' : DC S7 (BK sk RB) = S8 := by
  have : LR S7 (BK sk RB) = S8 := h8
  rwa [LR, if_pos cF] at this
 rw [(Hy NZ PX).2]
 show Nz S7 (BK sk RB) = _
 rw [Nz, if_pos cF, h8']
 have h : Ey S8.next S8.items = (1, 0) := by decide
 rw [h]
 exact OT (c := S8) (p := LX 1 0) ZJ
theorem oZ : Fm S8 (BK sk Sm) = true := QB (c := S8) Tg rfl rfl
theorem yJ : DR S8 (Cx (BK sk Sm)) = S9 := by
 rw [(Hy QI Tg).1]
 show Hi S8 (BK sk Sm) = S9
 show (if Fm S8 (BK sk Sm) = true ∧ (BK sk Sm).fld 2 = S8.seq + 1 then Gp S8 (BK sk Sm) (6, 2, 0, 0) [] else S8) = S9
 rw [if_pos ⟨oZ, rfl⟩]
 rfl
theorem yB : DQ S8 (Cx (BK sk Sm)) = [] := by
 rw [(Hy QI Tg).2]
 rfl
theorem X3 {p : AZ} (h : Bg p = true) : Rm p = Cx p := if_pos h
theorem gH {p : AZ} (h : Bg p = true) : Fw (Lt 5 EB p) = Cx p := by
 rw [Fw, if_neg (show ¬ (5 : Int) = 1 by decide), if_neg (show ¬ (5 : Int) = 6 by decide)]
 exact X3 h
theorem gG {p : AZ} {k : List B8} (h : Cf p = true) : Fw (Lt 6 k p) = Cx (BK k p) := by
 rw [Fw, if_neg (show ¬ (6 : Int) = 1 by decide), if_pos (show (6 : Int) = 6 by decide)]
 show Rm (JK k p) = _
 rw [JK, if_pos h]
 exact X3 (Js h)
theorem Uv (w : World) : Calls Tryz.prog 11 #[] w fun e w' => e = .returned (.bool true) ∧ Below w.heap.size w w' := by
 have Aa := Below.refl w.heap.size w
 refine Az 207 Tryz.func11 R R λ a H => zC (zD (kR 1 H R λ a H => zA (zB (zC (zD (A8 _ _ _ (gB _ 4 S0 yR) (Av lJ Am) ?_))))))
 rintro e w9 ⟨⟨bcl, rfl, Ak, Be⟩, hb⟩; refine ⟨_, rfl, ?_⟩; have JT : _ ≤ bcl := Nat.le_trans Aa.size Ak; replace Aa := Aa.tr hb; clear hb; clear Ak; refine kL 1 H rfl λ a H => zA (zB (zC (zC (zD (kR 1 H rfl λ a H => kV H (Q0 (H.ev rfl) rfl) rfl λ a H => zA (zB (zG H rfl (zE (zB (zC (zD (kR 1 H rfl λ a H => kC 0 (Yn _ _ _ S0 S1 7 true Be rfl yQ) (AA kZ (H.ev rfl) Am) H rfl fun w9 a ⟨⟨m9, FN⟩, CD⟩ H => ?_))))))))))))
 replace Aa := Bn.down Be Aa JT Aa.size CD; clear Be; have Be := FN; clear FN CD
 refine kR 1 H R λ a H => zA (zB (zC (zD (kR 1 H R λ a H => A8 _ _ _ (RM _ _ _ S1 S2 [Cx (E1 7)] 1 Be R yI yP) (Av Z4 (H.e R)) ?_))))
 rintro e w9 ⟨⟨A0, q0, rfl, B0, eA, Fa⟩, FN, CD⟩; refine ⟨_, rfl, ?_⟩; replace Aa := Bn.down Be Aa JT Aa.size CD; clear Be; have Be := FN; clear FN CD; obtain ⟨o0, dC⟩ := AK.head Fa (by omega); subst dC; refine kL 1 H rfl λ a H => zA (zB (zC (zD (kR 1 H rfl λ a H => A8 _ _ _ (RM _ _ _ S2 S3 [] 0 Be rfl yH yO) (Av Z4 (H.ev rfl)) ?_))))
 rintro e w9 ⟨⟨A1, q1, rfl, B1, Nb, Xi⟩, FN, CD⟩; refine ⟨_, rfl, ?_⟩; replace Fa := AK.onlym Fa eA Be.mp CD; replace Aa := Bn.down Be Aa JT Aa.size CD; clear Be; have Be := FN; clear FN CD; clear Xi Nb; refine kL 1 H rfl λ a H => zA (zB (zC (zD (kV (v := .agg (BL sk)) H (Bl #[(0, .int .u8 9)] (.agg (BL sk)) (by simp [Am]) (fun w => by kernel_rfl)) rfl λ a H => De 33 5 (.tmp 31) (BL sk) _ xY (by rw [Bk, Fe]; exact Ft) (by rw [Bk, Bk, Fe]; rfl) (D5 _) (fun p => (H.put 5 p rfl).ev rfl) (fun p => (H.put 5 p rfl).ev rfl) fun w0 b0 Ak hb k0 => ?_))))
 have g0 := Nat.le_trans Aa.size Ak; have rQ : bcl < b0 := Nat.lt_of_lt_of_le Be.lt Ak; replace Be := Bn.up Be hb; replace Fa := AK.up Fa hb; replace Aa := Aa.tr hb; clear hb; clear Ak; refine kl H rfl λ a H => zA (zB (zC (zD (kR 1 H rfl λ a H => kV H (Af b0 33 _ _ (H.ev rfl) k0 RG rfl (by rw [Bk, Fe]; exact Ft)) rfl λ a H => kV (v := .agg (pv (Ji 7 2 sk))) H (cC Fe Am Am (H.ev rfl)) rfl λ a H => Fr (.agg (RF (Lt 5 EB (Ji 7 2 sk)) (.slice none 0 0))) (WK QJ (H.ev rfl)) (kl H rfl λ a H => A8 _ _ _ (Jy _ (Lt 5 EB (Ji 7 2 sk)) _ (Cx (Ji 7 2 sk)) (Mn QJ rfl) (Ee _) (gH W1)) (Av Vl (H.ev rfl)) ?_)))))
 rintro e w9 ⟨⟨v9, rfl, hv⟩, hb⟩; refine ⟨_, rfl, ?_⟩; replace Be := Bn.up Be hb; replace Fa := AK.up Fa hb; replace k0 := k0.ups hb; replace Aa := Aa.tr hb; clear hb; refine kl H rfl λ a H => A8 _ _ _ (ON _ _ _ S3 S4 [Cx (Gg 4 7 2 sk)] 1 Be (Nat.succ_le_of_lt Be.lt) rfl _ (Cx (Ji 7 2 sk)) hv (Nat.le_trans (E7 _ QJ) (by omega)) yG yN) (AA XG (H.ev rfl) (H.ev rfl)) ?_
 rintro e w9 ⟨⟨A2, q2, rfl, B2, RE, FJ⟩, ⟨m9, FN⟩, CD⟩; refine ⟨_, rfl, ?_⟩; replace Fa := AK.onlym Fa eA Be.mp CD; replace k0 := Ad.onlym k0 (by omega) Be.mp CD; clear hv; replace Aa := Bn.down Be Aa JT Aa.size CD; clear Be; have Be := FN; clear FN CD; obtain ⟨o2, dC⟩ := AK.head FJ (by omega); subst dC; refine kL 1 H rfl λ a H => zA (zB (zC (zD (kR 1 H rfl λ a H => kV H (Af b0 33 _ _ (H.ev rfl) k0 RG rfl (by rw [Bk, Fe]; exact Ft)) rfl λ a H => kV (v := .agg (pv (Nu 3 7 sk))) H (fU Fe Am Am (H.ev rfl)) rfl λ a H => Fr (.agg (RF (Lt 5 EB (Nu 3 7 sk)) (.slice none 0 0))) (WK QK (H.ev rfl)) (kl H rfl λ a H => A8 _ _ _ (Jy _ (Lt 5 EB (Nu 3 7 sk)) _ (Cx (Nu 3 7 sk)) (Mn QK rfl) (Ee _) (gH W2)) (Av Vl (H.ev rfl)) ?_)))))
 rintro e w9 ⟨⟨v9, rfl, hv⟩, hb⟩; refine ⟨_, rfl, ?_⟩; replace Be := Bn.up Be hb; replace Fa := AK.up Fa hb; replace k0 := k0.ups hb; replace FJ := AK.up FJ hb; replace Aa := Aa.tr hb; clear hb; refine kl H rfl λ a H => A8 _ _ _ (ON _ _ _ S4 S5 [] 0 Be (Nat.succ_le_of_lt Be.lt) rfl _ (Cx (Nu 3 7 sk)) hv (Nat.le_trans (E7 _ QK) (by omega)) yF yM) (AA XG (H.ev rfl) (H.ev rfl)) ?_
 rintro e w9 ⟨⟨A3, q3, rfl, B3, dZ, zZ⟩, ⟨m9, FN⟩, CD⟩; refine ⟨_, rfl, ?_⟩; replace Fa := AK.onlym Fa eA Be.mp CD; replace k0 := Ad.onlym k0 (by omega) Be.mp CD; replace FJ := AK.onlym FJ RE Be.mp CD; clear hv; replace Aa := Bn.down Be Aa JT Aa.size CD; clear Be; have Be := FN; clear FN CD; clear zZ dZ; refine kl H rfl λ a H => zA (zB (zC (zD (kR 1 H rfl λ a H => kV H (Bl #[(0, J 6), (1, J 2)] (.agg #[J 6, J 2, J 0, J 0]) (by simp [Am]) (fun w => by kernel_rfl)) rfl λ a H => kC 0 (YF _ _ _ S5 S6 (6, 2, 0, 0) true Be (Nat.succ_le_of_lt Be.lt) yE yL) (AA kN (H.ev rfl) (H.ev rfl)) H rfl fun w9 a ⟨FN, CD⟩ H => ?_))))
 replace Fa := AK.onlym Fa eA Be.mp CD; replace k0 := Ad.onlym k0 (by omega) Be.mp CD; replace FJ := AK.onlym FJ RE Be.mp CD; replace Aa := Bn.down Be Aa JT Aa.size CD; clear Be; have Be := FN; clear FN CD
 refine kR 1 H R λ a H => zA (zB (zC (zD (kR 1 H R λ a H => A8 _ _ _ (RM _ _ _ S6 S7 [Cx (BK sk YC), Cx (BK sk ZT)] 2 Be R yD yK) (Av Z4 (H.e R)) ?_))))
 rintro e w9 ⟨⟨A4, q4, rfl, B4, aS, GL⟩, FN, CD⟩; refine ⟨_, rfl, ?_⟩; replace Fa := AK.onlym Fa eA Be.mp CD; replace k0 := Ad.onlym k0 (by omega) Be.mp CD; replace FJ := AK.onlym FJ RE Be.mp CD; replace Aa := Bn.down Be Aa JT Aa.size CD; clear Be; have Be := FN; clear FN CD; obtain ⟨o4, dC⟩ := AK.head GL (by omega); subst dC; refine kL 1 H rfl λ a H => zA (zB (zC (zD (kR 1 H rfl λ a H => kV H (Af b0 33 _ _ (H.ev rfl) k0 RG rfl (by rw [Bk, Fe]; exact Ft)) rfl λ a H => kV (v := .agg (pv RB)) H (Bl #[(0, J 8), (1, J 3), (2, J 1), (3, J 5), (7, J 8), (5, J 1), (6, J 1)] (.agg (pv RB)) (by simp [Am]) (fun w => by kernel_rfl)) rfl λ a H => Fr (.agg (RF (Lt 6 sk RB) (.slice none 0 0))) (WJ NZ Fe (H.ev rfl) (H.ev rfl)) (kl H rfl λ a H => A8 _ _ _ (Jy _ (Lt 6 sk RB) _ (Cx (BK sk RB)) (Mn NZ rfl) (Ee _) (gG PX)) (Av Vl (H.ev rfl)) ?_)))))
 rintro e w9 ⟨⟨v9, rfl, hv⟩, hb⟩; refine ⟨_, rfl, ?_⟩; replace Be := Bn.up Be hb; replace Fa := AK.up Fa hb; replace k0 := k0.ups hb; replace FJ := AK.up FJ hb; replace GL := AK.up GL hb; replace Aa := Aa.tr hb; clear hb; refine kl H rfl λ a H => A8 _ _ _ (ON _ _ _ S7 S8 [Cx (BK sk cE)] 1 Be (Nat.succ_le_of_lt Be.lt) rfl _ (Cx (BK sk RB)) hv (Nat.le_trans (E7 _ (DL NZ)) (by omega)) yC uO) (AA XG (H.ev rfl) (H.ev rfl)) ?_
 rintro e w9 ⟨⟨A5, q5, rfl, B5, hB5, Ih⟩, ⟨m9, FN⟩, CD⟩; refine ⟨_, rfl, ?_⟩; replace Fa := AK.onlym Fa eA Be.mp CD; replace k0 := Ad.onlym k0 (by omega) Be.mp CD; replace FJ := AK.onlym FJ RE Be.mp CD; replace GL := AK.onlym GL aS Be.mp CD; clear hv; replace Aa := Bn.down Be Aa JT Aa.size CD; clear Be; have Be := FN; clear FN CD; obtain ⟨o5, dC⟩ := AK.head Ih (by omega); subst dC; refine kL 1 H rfl λ a H => zA (zB (zC (zC (zD (kR 1 H rfl λ a H => kV H (Ba Lu (H.ev rfl)) rfl λ a H => kX 2 H (E6 U3 (H.ev rfl) Am dF) rfl λ a H => kW H rfl (Ba Lu (H.ev rfl)) rfl λ a H => kY 3 H rfl (E6 U3 (H.ev rfl) Am dF) rfl λ a H => kW H rfl (Ba Lu (H.ev rfl)) rfl λ a H => kY 3 H rfl (E6 U3 (H.ev rfl) Am dF) rfl λ a H => kW H rfl (Ba Lu (H.ev rfl)) rfl λ a H => kY 1 H rfl (E6 U3 (H.ev rfl) Am dF) rfl λ a H => zA (zB (zG H rfl (zE (zB (zC ?_))))))))))
 obtain ⟨x0_0, gN, gU⟩ := AK.at Fa (i := 0) rfl
 refine zD (kR 1 H R λ a H => kV H (Bq (j := 0) (q := 0) Lu PD (H.e R) Am (by omega) R) R λ a H => kV H (Ai CO R (H.e R) gN) R λ a H => kC 0 (MG _ _ (Cx (E1 7)) (E1 7) 0 gU (Nat.le_trans (E7 _ MO) (by omega)) (Mm MO ZN)) (Av Vj (H.e R)) H R fun w9 a hb H => ?_)
 replace Be := Bn.up Be hb; replace Fa := AK.up Fa hb; replace k0 := k0.ups hb; replace FJ := AK.up FJ hb; replace GL := AK.up GL hb; replace Ih := AK.up Ih hb; replace Aa := Aa.tr hb; clear hb
 refine kR 3 H R λ a H => De 36 10 (.tmp 78) (pv (E1 7)) _ Jn (AR MO) (by rw [AI Bz, AI MO]) (BU _) (fun p => (H.put 10 p R).ev R) (fun p => (H.put 10 p R).ev R) fun w10 b10 Ak hb FH => ?_
 have iG := Nat.le_trans Aa.size Ak; have jI : b0 < b10 := Nat.lt_of_lt_of_le k0.lt Ak; have oR : bcl < b10 := Nat.lt_of_lt_of_le Be.lt Ak; replace Be := Bn.up Be hb; replace Fa := AK.up Fa hb; replace k0 := k0.ups hb; replace FJ := AK.up FJ hb; replace GL := AK.up GL hb; replace Ih := AK.up Ih hb; replace Aa := Aa.tr hb; clear hb; clear Ak; refine kL 1 H rfl λ a H => zA (zB (zC ?_))
 obtain ⟨x2_0, gM, gT⟩ := AK.at FJ (i := 0) rfl
 refine zD (kR 1 H R λ a H => kV H (Bq (j := 0) (q := 0) Lu PD (H.e R) Am (by omega) R) R λ a H => kV H (Ai CO R (H.e R) gM) R λ a H => kC 0 (MG _ _ (Cx (Gg 4 7 2 sk)) (Gg 4 7 2 sk) 0 gT (Nat.le_trans (E7 _ MP) (by omega)) (Mm MP ZO)) (Av Vj (H.e R)) H R fun w9 a hb H => ?_)
 replace Be := Bn.up Be hb; replace Fa := AK.up Fa hb; replace k0 := k0.ups hb; replace FJ := AK.up FJ hb; replace GL := AK.up GL hb; replace Ih := AK.up Ih hb; replace FH := FH.ups hb; replace Aa := Aa.tr hb; clear hb
 refine kR 3 H R λ a H => De 36 12 (.tmp 85) (pv (Gg 4 7 2 sk)) _ Jn (AR MP) (by rw [AI Bz, AI MP]) (BU _) (fun p => (H.put 12 p R).ev R) (fun p => (H.put 12 p R).ev R) fun w12 b12 Ak hb HG => ?_
 have mV := Nat.le_trans Aa.size Ak; have jH : b0 < b12 := Nat.lt_of_lt_of_le k0.lt Ak; have sI : b10 < b12 := Nat.lt_of_lt_of_le FH.lt Ak; have oQ : bcl < b12 := Nat.lt_of_lt_of_le Be.lt Ak; replace Be := Bn.up Be hb; replace Fa := AK.up Fa hb; replace k0 := k0.ups hb; replace FJ := AK.up FJ hb; replace GL := AK.up GL hb; replace Ih := AK.up Ih hb; replace FH := FH.ups hb; replace Aa := Aa.tr hb; clear hb; clear Ak; refine kL 1 H rfl λ a H => zA (zB (zC ?_))
 obtain ⟨x4_0, ZY, aD⟩ := AK.at GL (i := 0) rfl
 obtain ⟨x4_1, ZX, aC⟩ := AK.at GL (i := 1) rfl
 refine zD (kR 1 H R λ a H => kV H (Bq (j := 0) (q := 0) Lu PD (H.e R) Am (by omega) R) R λ a H => kV H (Ai CO R (H.e R) ZY) R λ a H => kC 0 (MG _ _ (Cx (BK sk YC)) (BK sk YC) 0 aD (Nat.le_trans (E7 _ (DL Oa)) (by omega)) (Ni Oa Wh)) (Av Vj (H.e R)) H R fun w9 a hb H => ?_)
 replace Be := Bn.up Be hb; replace Fa := AK.up Fa hb; replace k0 := k0.ups hb; replace FJ := AK.up FJ hb; replace GL := AK.up GL hb; replace Ih := AK.up Ih hb; replace FH := FH.ups hb; replace HG := HG.ups hb; replace Aa := Aa.tr hb; clear hb
 refine kR 3 H R λ a H => De 36 14 (.tmp 92) (pv (BK sk YC)) _ Jn (AR (DL Oa)) (by rw [AI Bz, AI (DL Oa)]) (BU _) (fun p => (H.put 14 p R).ev R) (fun p => (H.put 14 p R).ev R) fun w14 b14 Ak hb Hr => ?_
 have vS := Nat.le_trans Aa.size Ak; have jG : b0 < b14 := Nat.lt_of_lt_of_le k0.lt Ak; have sH : b10 < b14 := Nat.lt_of_lt_of_le FH.lt Ak; have sD : b12 < b14 := Nat.lt_of_lt_of_le HG.lt Ak; have oP : bcl < b14 := Nat.lt_of_lt_of_le Be.lt Ak; replace Be := Bn.up Be hb; replace Fa := AK.up Fa hb; replace k0 := k0.ups hb; replace FJ := AK.up FJ hb; replace GL := AK.up GL hb; replace Ih := AK.up Ih hb; replace FH := FH.ups hb; replace HG := HG.ups hb; replace Aa := Aa.tr hb; clear hb; clear Ak; refine kL 1 H rfl λ a H => zA (zB (zC ?_))
 obtain ⟨x4_0, ZY, aD⟩ := AK.at GL (i := 0) rfl
 obtain ⟨x4_1, ZX, aC⟩ := AK.at GL (i := 1) rfl
 refine zD (kR 1 H R λ a H => kV H (Bq (j := 1) (q := 1) Lu PD (H.e R) Am (by omega) R) R λ a H => kV H (Ai CO R (H.e R) ZX) R λ a H => kC 0 (MG _ _ (Cx (BK sk ZT)) (BK sk ZT) 0 aC (Nat.le_trans (E7 _ (DL T2)) (by omega)) (Ni T2 ZI)) (Av Vj (H.e R)) H R fun w9 a hb H => ?_)
 replace Be := Bn.up Be hb; replace Fa := AK.up Fa hb; replace k0 := k0.ups hb; replace FJ := AK.up FJ hb; replace GL := AK.up GL hb; replace Ih := AK.up Ih hb; replace FH := FH.ups hb; replace HG := HG.ups hb; replace Hr := Hr.ups hb; replace Aa := Aa.tr hb; clear hb
 refine kR 3 H R λ a H => De 36 16 (.tmp 99) (pv (BK sk ZT)) _ Jn (AR (DL T2)) (by rw [AI Bz, AI (DL T2)]) (BU _) (fun p => (H.put 16 p R).ev R) (fun p => (H.put 16 p R).ev R) fun w16 b16 Ak hb JR => ?_
 have vR := Nat.le_trans Aa.size Ak; have jF : b0 < b16 := Nat.lt_of_lt_of_le k0.lt Ak; have sG : b10 < b16 := Nat.lt_of_lt_of_le FH.lt Ak; have sC : b12 < b16 := Nat.lt_of_lt_of_le HG.lt Ak; have rZ : b14 < b16 := Nat.lt_of_lt_of_le Hr.lt Ak; have oO : bcl < b16 := Nat.lt_of_lt_of_le Be.lt Ak; replace Be := Bn.up Be hb; replace Fa := AK.up Fa hb; replace k0 := k0.ups hb; replace FJ := AK.up FJ hb; replace GL := AK.up GL hb; replace Ih := AK.up Ih hb; replace FH := FH.ups hb; replace HG := HG.ups hb; replace Hr := Hr.ups hb; replace Aa := Aa.tr hb; clear hb; clear Ak; refine kL 1 H rfl λ a H => zA (zB (zC ?_))
 obtain ⟨x5_0, gL, gS⟩ := AK.at Ih (i := 0) rfl
 refine zD (kR 1 H R λ a H => kV H (Bq (j := 0) (q := 0) Lu PD (H.e R) Am (by omega) R) R λ a H => kV H (Ai CO R (H.e R) gL) R λ a H => kC 0 (MG _ _ (Cx (BK sk cE)) (BK sk cE) 0 gS (Nat.le_trans (E7 _ (DL T3)) (by omega)) (Ni T3 ZJ)) (Av Vj (H.e R)) H R fun w9 a hb H => ?_)
 replace Be := Bn.up Be hb; replace Fa := AK.up Fa hb; replace k0 := k0.ups hb; replace FJ := AK.up FJ hb; replace GL := AK.up GL hb; replace Ih := AK.up Ih hb; replace FH := FH.ups hb; replace HG := HG.ups hb; replace Hr := Hr.ups hb; replace JR := JR.ups hb; replace Aa := Aa.tr hb; clear hb
 refine kR 3 H R λ a H => De 36 18 (.tmp 106) (pv (BK sk cE)) _ Jn (AR (DL T3)) (by rw [AI Bz, AI (DL T3)]) (BU _) (fun p => (H.put 18 p R).ev R) (fun p => (H.put 18 p R).ev R) fun w18 b18 Ak hb N3 => ?_
 have g18 := Nat.le_trans Aa.size Ak; have xI : b0 < b18 := Nat.lt_of_lt_of_le k0.lt Ak; have sF : b10 < b18 := Nat.lt_of_lt_of_le FH.lt Ak; have sB : b12 < b18 := Nat.lt_of_lt_of_le HG.lt Ak; have rY : b14 < b18 := Nat.lt_of_lt_of_le Hr.lt Ak; have rW : b16 < b18 := Nat.lt_of_lt_of_le JR.lt Ak; have oN : bcl < b18 := Nat.lt_of_lt_of_le Be.lt Ak; replace Be := Bn.up Be hb; replace Fa := AK.up Fa hb; replace k0 := k0.ups hb; replace FJ := AK.up FJ hb; replace GL := AK.up GL hb; replace Ih := AK.up Ih hb; replace FH := FH.ups hb; replace HG := HG.ups hb; replace Hr := Hr.ups hb; replace JR := JR.ups hb; replace Aa := Aa.tr hb; clear hb; clear Ak; refine kL 1 H rfl λ a H => zA (zB (zC (zD (kR 1 H rfl λ a H => kC 0 (bN _ _ _ S8 5 (5, 8, 1, 1) true Be (by omega) rfl rfl) (AA kH (H.ev rfl) Am) H rfl fun w9 a hb H => ?_))))
 replace Be := Bn.up Be hb; replace Fa := AK.up Fa hb; replace k0 := k0.ups hb; replace FJ := AK.up FJ hb; replace GL := AK.up GL hb; replace Ih := AK.up Ih hb; replace FH := FH.ups hb; replace HG := HG.ups hb; replace Hr := Hr.ups hb; replace JR := JR.ups hb; replace N3 := N3.ups hb; replace Aa := Aa.tr hb; clear hb
 refine kR 3 H R λ a H => De 49 20 (.tmp 111) (cN (5, 8, 1, 1)) _ V7 EZ R (by simp [Value.oneCell']) (fun p => (H.put 20 p R).ev R) (fun p => (H.put 20 p R).ev R) fun w20 b20 Ak hb Ss => ?_
 have g20 := Nat.le_trans Aa.size Ak; have xH : b0 < b20 := Nat.lt_of_lt_of_le k0.lt Ak; have sE : b10 < b20 := Nat.lt_of_lt_of_le FH.lt Ak; have sA : b12 < b20 := Nat.lt_of_lt_of_le HG.lt Ak; have rX : b14 < b20 := Nat.lt_of_lt_of_le Hr.lt Ak; have rV : b16 < b20 := Nat.lt_of_lt_of_le JR.lt Ak; have rU : b18 < b20 := Nat.lt_of_lt_of_le N3.lt Ak; have oM : bcl < b20 := Nat.lt_of_lt_of_le Be.lt Ak; replace Be := Bn.up Be hb; replace Fa := AK.up Fa hb; replace k0 := k0.ups hb; replace FJ := AK.up FJ hb; replace GL := AK.up GL hb; replace Ih := AK.up Ih hb; replace FH := FH.ups hb; replace HG := HG.ups hb; replace Hr := Hr.ups hb; replace JR := JR.ups hb; replace N3 := N3.ups hb; replace Aa := Aa.tr hb; clear hb; clear Ak; refine kL 1 H rfl λ a H => zA (zB (zC (zD (kR 1 H rfl λ a H => kV H (Af b0 33 _ _ (H.ev rfl) k0 RG rfl (by rw [Bk, Fe]; exact Ft)) rfl λ a H => kV (v := .agg (pv Sm)) H (Bl #[(0, J 11), (1, J 3), (2, J 1), (4, J 8)] (.agg (pv Sm)) (by simp [Am]) (fun w => by kernel_rfl)) rfl λ a H => Fr (.agg (RF (Lt 6 sk Sm) (.slice none 0 0))) (WJ QI Fe (H.ev rfl) (H.ev rfl)) (kl H rfl λ a H => A8 _ _ _ (Jy _ (Lt 6 sk Sm) _ (Cx (BK sk Sm)) (Mn QI rfl) (Ee _) (gG Tg)) (Av Vl (H.ev rfl)) ?_)))))
 rintro e w9 ⟨⟨v9, rfl, hv⟩, hb⟩; refine ⟨_, rfl, ?_⟩; replace Be := Bn.up Be hb; replace Fa := AK.up Fa hb; replace k0 := k0.ups hb; replace FJ := AK.up FJ hb; replace GL := AK.up GL hb; replace Ih := AK.up Ih hb; replace FH := FH.ups hb; replace HG := HG.ups hb; replace Hr := Hr.ups hb; replace JR := JR.ups hb; replace N3 := N3.ups hb; replace Ss := Ss.ups hb; replace Aa := Aa.tr hb; clear hb; refine kl H rfl λ a H => A8 _ _ _ (ON _ _ _ S8 S9 [] 0 Be (Nat.succ_le_of_lt Be.lt) rfl _ (Cx (BK sk Sm)) hv (Nat.le_trans (E7 _ (DL QI)) (by omega)) yB yJ) (AA XG (H.ev rfl) (H.ev rfl)) ?_
 rintro e w9 ⟨⟨A6, q6, rfl, B6, hB6, zY⟩, ⟨m9, FN⟩, CD⟩; refine ⟨_, rfl, ?_⟩; replace Fa := AK.onlym Fa eA Be.mp CD; replace k0 := Ad.onlym k0 (by omega) Be.mp CD; replace FJ := AK.onlym FJ RE Be.mp CD; replace GL := AK.onlym GL aS Be.mp CD; replace Ih := AK.onlym Ih hB5 Be.mp CD; replace FH := Ad.onlym FH (by omega) Be.mp CD; replace HG := Ad.onlym HG (by omega) Be.mp CD; replace Hr := Ad.onlym Hr (by omega) Be.mp CD; replace JR := Ad.onlym JR (by omega) Be.mp CD; replace N3 := Ad.onlym N3 (by omega) Be.mp CD; replace Ss := Ad.onlym Ss (by omega) Be.mp CD; clear hv; replace Aa := Bn.down Be Aa JT Aa.size CD; clear Be; have Be := FN; clear FN CD; clear zY hB6; refine kl H rfl λ a H => zA (zB (zC (zD (kR 2 H rfl λ a H => kW H rfl (Af b10 36 _ _ (H.ev rfl) FH C1 rfl (AR MO)) rfl λ a H => kG H rfl (kV (v := .agg (pv (E1 7))) H (Bl #[(0, J 1), (10, J 7)] (.agg (pv (E1 7))) (by simp [Am]) (fun w => by kernel_rfl)) rfl λ a H => kY 3 H rfl (Cd (p := E1 7) (q := E1 7) MO MO (H.ev rfl) (H.ev rfl) (decide_eq_true rfl)) rfl λ a H => kW H rfl (Ba Lu (H.ev rfl)) rfl λ a H => kY 2 H rfl (A9 U3 (H.ev rfl) Am dT) rfl λ a H => kW H rfl (Af b12 36 _ _ (H.ev rfl) HG C1 rfl (AR MP)) rfl λ a H => kW H rfl (Af b0 33 _ _ (H.ev rfl) k0 RG rfl (by rw [Bk, Fe]; exact Ft)) rfl λ a H => kG H rfl (kV (v := .agg (pv (Gg 4 7 2 sk))) H (Sj Fe Am Am Am (H.ev rfl)) rfl λ a H => kY 6 H rfl (Cd (p := Gg 4 7 2 sk) (q := Gg 4 7 2 sk) MP MP (H.ev rfl) (H.ev rfl) (decide_eq_true rfl)) rfl λ a H => kW H rfl (Ai U3 rfl (H.ev rfl) (AB Hr (x := 5) rfl)) rfl λ a H => kY 3 H rfl (A9 U3 (H.ev rfl) Am dT) rfl λ a H => kW H rfl (Ai U3 rfl (H.ev rfl) (AB Hr (x := 1) rfl)) rfl λ a H => kY 2 H rfl (A9 U3 (H.ev rfl) Am dT) rfl λ a H => kW H rfl (Af b0 33 _ _ (H.ev rfl) k0 RG rfl (by rw [Bk, Fe]; exact Ft)) rfl λ a H => kW H rfl (Af b14 36 _ _ (H.ev rfl) Hr C1 rfl (AR (DL Oa))) rfl λ a H => kG H rfl (kC 0 (eB _ sk (BK sk YC) true Fe (DL Oa) (NH Wh)) (AA kB (H.ev rfl) (H.ev rfl)) H rfl fun w9 a hb H => ?_)))))))
 replace Be := Bn.up Be hb; replace Fa := AK.up Fa hb; replace k0 := k0.ups hb; replace FJ := AK.up FJ hb; replace GL := AK.up GL hb; replace Ih := AK.up Ih hb; replace FH := FH.ups hb; replace HG := HG.ups hb; replace Hr := Hr.ups hb; replace JR := JR.ups hb; replace N3 := N3.ups hb; replace Ss := Ss.ups hb; replace Aa := Aa.tr hb; clear hb
 refine kR 3 H R λ a H => kW H R (Ai U3 R (H.e R) (AB JR (x := 6) R)) R λ a H => kY 3 H R (A9 U3 (H.e R) Am dT) R λ a H => kW H R (Ai U3 R (H.e R) (AB JR (x := 1) R)) R λ a H => kY 3 H R (A9 U3 (H.e R) Am dT) R λ a H => kW H R (Ai U3 R (H.e R) (AB JR (x := 2) R)) R λ a H => kY 3 H R (A9 U3 (H.e R) Am dT) R λ a H => kW H R (Ai U3 R (H.e R) (AB N3 (x := 9) R)) R λ a H => kY 3 H R (A9 U3 (H.e R) Am dT) R λ a H => kW H R (Ai U3 R (H.e R) (AB N3 (x := 1) R)) R λ a H => kY 5 H R (A9 U3 (H.e R) Am dT) R λ a H => kG H R (kV (v := .agg (cN (5, 8, 1, 1))) H (Af b20 49 _ _ (H.e R) Ss PH R EZ) R λ a H => kG H R (kV (v := .agg (cN (5, 8, 1, 1))) H (Bl #[(0, J 5), (1, J 8), (2, J 1), (3, J 1)] (.agg (cN (5, 8, 1, 1))) (by simp [Am]) (fun w => by kernel_rfl)) R λ a H => kG H R (kX 3 (v := .bool true) H (cB (H.e R) (H.e R) (decide_eq_true R)) R λ a H => kG H R (kC 0 (Ym _ _ _ S9 3 Be R) (Av kM (H.e R)) H R fun w9 a hb H => ?_))))
 replace Be := Bn.up Be hb; replace Fa := AK.up Fa hb; replace k0 := k0.ups hb; replace FJ := AK.up FJ hb; replace GL := AK.up GL hb; replace Ih := AK.up Ih hb; replace FH := FH.ups hb; replace HG := HG.ups hb; replace Hr := Hr.ups hb; replace JR := JR.ups hb; replace N3 := N3.ups hb; replace Ss := Ss.ups hb; replace Aa := Aa.tr hb; clear hb
 refine kY 3 H R (A9 U3 (H.e R) Am dT) R λ a H => kG H R (kC 0 (bQ _ _ _ S9 3 Be R) (Av kK (H.e R)) H R fun w9 a hb H => ?_)
 replace Be := Bn.up Be hb; replace Fa := AK.up Fa hb; replace k0 := k0.ups hb; replace FJ := AK.up FJ hb; replace GL := AK.up GL hb; replace Ih := AK.up Ih hb; replace FH := FH.ups hb; replace HG := HG.ups hb; replace Hr := Hr.ups hb; replace JR := JR.ups hb; replace N3 := N3.ups hb; replace Ss := Ss.ups hb; replace Aa := Aa.tr hb; clear hb
 refine kY 3 H R (A9 U3 (H.e R) Am dT) R λ a H => kG H R (kC 0 (Yk _ _ _ S9 0 Be R) (Av kJ (H.e R)) H R fun w9 a hb H => ?_)
 replace Be := Bn.up Be hb; replace Fa := AK.up Fa hb; replace k0 := k0.ups hb; replace FJ := AK.up FJ hb; replace GL := AK.up GL hb; replace Ih := AK.up Ih hb; replace FH := FH.ups hb; replace HG := HG.ups hb; replace Hr := Hr.ups hb; replace JR := JR.ups hb; replace N3 := N3.ups hb; replace Ss := Ss.ups hb; replace Aa := Aa.tr hb; clear hb
 refine kY 3 H R (A9 U3 (H.e R) Am dT) R λ a H => kG H R (kC 0 (cS _ _ _ S9 8 Be R) (Av kI (H.e R)) H R fun w9 a hb H => ?_)
 replace Be := Bn.up Be hb; replace Fa := AK.up Fa hb; replace k0 := k0.ups hb; replace FJ := AK.up FJ hb; replace GL := AK.up GL hb; replace Ih := AK.up Ih hb; replace FH := FH.ups hb; replace HG := HG.ups hb; replace Hr := Hr.ups hb; replace JR := JR.ups hb; replace N3 := N3.ups hb; replace Ss := Ss.ups hb; replace Aa := Aa.tr hb; clear hb
 exact kY 2 H R (A9 O8 (H.e R) Am dT) R λ a H => zA (zB (zF (Ag H R R ⟨R, Aa⟩)))
section
def J0 (v : Int) : Cl := G3 v
def J1 (v n : Int) : Cl := { J0 v with nonce := n, state := 1 }
def J2 (v n e : Int) (k : List B8) : Cl := { J1 v n with epoch := e, ck := k, state := 2, ask := 4 }
def J3 (v n e : Int) (k : List B8) (i : Int) : Cl := { J2 v n e k with state := 3, id := i, key := k, beats := 0, seq := 0, beat := 0, say := 0, next := 1, items := [] }
section
variable {v n e i o : Int} {k : List B8}
/-- behind t ticks of a client that greets -/
def yA (t : Nat) : Int := if t = 0 then 0 else 4 * ((t + 3) / 4 : Nat) + 1
/-- behind t ticks of a client that is let in -/
def B3 (v n e : Int) (k : List B8) (i : Int) (t : Nat) : Cl := { J3 v n e k i with now := (t : Nat), beats := ((t + 3) / 4 : Nat), beat := yA t }
end
end
section
theorem YQ : (List.range 59).map (GS Tryz.prog 4 38) = (List.range 59).map (fun i => some (if i = 2 then .s else if i < 19 then .i else .u)) := by kernel_rfl
theorem cT (i : Nat) (hi : i < 59) : GS Tryz.prog 4 38 i = some (if i = 2 then .s else if i < 19 then .i else .u) := by
 have h := congrArg (fun l => l[i]?) YQ
 simp only [List.getElem?_map, List.getElem?_range hi, Option.map_some] at h
 exact Option.some.inj h
section
variable {H : Type} {enc : TypeId × Value → H} {w : World} {base : Nat} {spare : Nat → Bool} {held : Bool}
end
theorem eY : ownKnob Tryz.prog.godebug = none := by kernel_rfl
theorem YP : laidOutB Tryz.prog = true := by kernel_rfl
end
section
def VU (L : List B8) : ByteArray := strOfNums (L.map fun x => (x.toNat : Int))
section
variable {d : Option Tmp} {tt t2 : TypeId} {ps : String} {af : Array Edge} {gd : Option (Nat × Bool)} {a : Act} {w : World} {x y : Operand}
theorem ZP {v : Value} {L : List B8} (hx : a.eval x = v) (h : B9 w v L) :
  (execOp a.eval ⟨d, .convert 30 9 x, tt, ps, af, gd⟩).run Tryz.prog w = .ok (.value (.string (VU L))) w := by
 obtain ⟨A, c, rfl, h1, h2, h3, hh⟩ := h
 have hc : (convert 30 9 (.slice A L.length c)).run Tryz.prog w = .ok (.string (VU L)) w := by
  cases L with
  | nil =>
   cases A with
   | none => exact (run_convert_bytes_nil w 30 5 CO U5 0 c 9 U9)
   | some A =>
    obtain ⟨b, o, s⟩ := A
    rw [run_convert_bytes_string w 30 9 5 _ _ c CO U5 U9]
    exact run_bytesToString w _ 0 c [] (run_loadCells_list (P := Tryz.prog) w _ [] (fun j v hj => by simp at hj))
  | cons z L =>
   obtain ⟨b, o, rfl, _⟩ := hh 0 (by simp)
   refine run_convert_bytes_arg w 30 5 CO U5 b o (z :: L).length c ((z :: L).map fun x => (x.toNat : Int)) (by simp) (fun i hi => ?_) 9 U9
   obtain ⟨b', o', e, hU⟩ := hh i (by simpa using hi)
   injection e with e
   injection e with e1 e2
   subst e1 e2
   rw [hU]
   rw [List.getElem?_map, List.getElem?_eq_getElem hi, List.getD_eq_getElem?_getD, List.getElem?_map, List.getElem?_eq_getElem hi]
   rfl
 unfold execOp
 simp only [hx, hc, Sem.run_bind, Sem.run_pure, Result.andThen_ok]
theorem Y0 {s : ByteArray} (hx : a.eval x = .string s) (hy : a.eval y = .string s) :
  (execOp a.eval ⟨d, .binOp .neq 9 x y t2, tt, ps, af, gd⟩).run Tryz.prog w = .ok (.value (.bool false)) w := by
 unfold execOp
 simp only [hx, hy]
 have u9 := U9
 have hg : Tryz.prog.eqGuardType Tryz.prog.depth 9 = false := by kernel_rfl
 go_simp
theorem Q1 {t : TypeId} {p q r : Bool} (ht : Tryz.prog.underlying t = some .bool) (hx : a.eval x = .bool p) (hy : a.eval y = .bool q) (hr : (p == q) = r) :
  (execOp a.eval ⟨d, .binOp .eql t x y t2, tt, ps, af, gd⟩).run Tryz.prog w = .ok (.value (.bool r)) w := by
 subst hr
 unfold execOp
 simp only [hx, hy]
 go_simp
theorem WC {t : TypeId} {p q r : Bool} (ht : Tryz.prog.underlying t = some .bool) (hx : a.eval x = .bool p) (hy : a.eval y = .bool q) (hr : (!(p == q)) = r) :
  (execOp a.eval ⟨d, .binOp .neq t x y t2, tt, ps, af, gd⟩).run Tryz.prog w = .ok (.value (.bool r)) w := by
 subst hr
 unfold execOp
 simp only [hx, hy]
 go_simp
end
end
end Go.Proofs.YtbnmpoonkjlkjaaGreat
