/- Client: part L of the proof. -/
import Derived.Test.YtbnmpoonkjlkjaaGreatXK
import Derived.ChangeSlices
import Derived.Laws.BytesArg
namespace Go.Proofs.YtbnmpoonkjlkjaaGreat
open Go.RowKit
set_option linter.unusedVariables false
set_option linter.unusedSimpArgs false
theorem pv_inj {p q : Pkt} (hp : p.ok) (hq : q.ok) (h : pv p = pv q) : p = q := by
 have h1 : pcell p = pcell q := by simpa using congrArg Array.toList h
 obtain ⟨n, s, t⟩ := p
 obtain ⟨n', s', t'⟩ := q
 unfold pcell at h1
 simp only at h1
 obtain ⟨a, b⟩ := List.append_inj h1 (by have := hp.1; have := hp.2.1; have := hq.1; have := hq.2.1; simp at *; omega)
 obtain ⟨a1, a2⟩ := List.append_inj a (by have := hp.1; have := hq.1; simp at *; omega)
 have inj8 : ∀ (x y : List B8), x.map u8v = y.map u8v → x = y := fun x => by
  induction x with
  | nil => intro y h; cases y with | nil => rfl | cons z y => simp at h
  | cons a x ih =>
   intro y h
   cases y with
   | nil => simp at h
   | cons z y =>
    simp only [List.map_cons, List.cons.injEq, u8v, Value.int.injEq, true_and] at h
    have e : a = z := BitVec.eq_of_toNat_eq (by omega)
    rw [e, ih y h.2]
 have injI : ∀ (x y : List Int), x.map (Value.int .i64) = y.map (Value.int .i64) → x = y := fun x => by
  induction x with
  | nil => intro y h; cases y with | nil => rfl | cons z y => simp at h
  | cons a x ih =>
   intro y h
   cases y with
   | nil => simp at h
   | cons z y =>
    simp only [List.map_cons, List.cons.injEq, Value.int.injEq, true_and] at h
    rw [h.1, ih y h.2]
 rw [injI _ _ a1, inj8 _ _ a2, inj8 _ _ b]
theorem bare_set2 {p : Pkt} {L : List (Nat × Nat × Nat × Nat)} {i : Nat} {s : Nat × Nat × Nat × Nat} (hp : p.ok) (hs : L[i]? = some s) (h1 : 1 ≤ atF s.1) (h2 : atF s.1 < 12) : (bare p L i).set (atF s.1) (p.fld (atF s.1)) = bare p L (i + 1) := by
 obtain ⟨m, hm⟩ : ∃ m, atF s.1 = m + 1 := ⟨atF s.1 - 1, by omega⟩
 have h := bare_set hp hs hm h2
 rw [hm]
 exact pv_inj (set_ok (bare_ok hp) (fld_in hp _)) (bare_ok hp) h
theorem byte_nat (n k : Nat) : (byteAt (n : Int) k).toNat = n / 256 ^ k % 256 := by
 unfold byteAt
 have e : ((n : Int) >>> (8 * k)) = ((n / 256 ^ k : Nat) : Int) := by
  rw [Int.shiftRight_eq_div_pow, Nat.pow_mul]
  norm_cast
 rw [e, BitVec.ofInt_natCast, BitVec.toNat_ofNat]
theorem numF_put (n s : Nat) : ∀ j, j ≤ s → n < 256 ^ s → numF (putN (n : Int) s j) = n / 256 ^ (s - j)
 | 0, _, h => by simp [putN, numF, Nat.div_eq_of_lt h]
 | j + 1, hj, h => by
  rw [putN_next, numF_snoc, numF_put n s j (by omega) h, byte_nat]
  obtain ⟨k, rfl⟩ : ∃ k, s = j + 1 + k := ⟨s - (j + 1), by omega⟩
  rw [show j + 1 + k - j = k + 1 by omega, show j + 1 + k - (j + 1) = k by omega, show j + 1 + k - 1 - j = k by omega, Nat.pow_succ, ← Nat.div_div_eq_div_mul]
  omega
theorem numF_enc {x : Int} {s : Nat} (h0 : 0 ≤ x) (hs : x < 256 ^ s) : ((numF (putN x s s) : Nat) : Int) = x := by
 obtain ⟨n, rfl⟩ := Int.eq_ofNat_of_zero_le h0
 have h1 : ((n : Nat) : Int) < ((256 ^ s : Nat) : Int) := by rw [Int.natCast_pow]; exact hs
 have h : n < 256 ^ s := Int.ofNat_lt.1 h1
 rw [numF_put n s s (Nat.le_refl _) h]
 simp
theorem tk_app {x y : List B8} {n : Nat} (h : x.length = n) : tkO (x ++ y) false n = x ∧ tkL (x ++ y) false n = y ∧ tkB (x ++ y) false n = false := by
 have h1 : (false || decide ((x ++ y).length < n)) = false := by simp; omega
 rw [tk_yes h1, tkL_yes h1, tkB_yes h1]
 subst h
 simp
theorem slot_max {kd : Int} {k : Nat} {s : Nat × Nat × Nat × Nat} (h : (slotsF kd)[k]? = some s) : s.2.2.2 < 256 ^ s.2.1 := by
  have hm : s ∈ slotsF kd := List.mem_of_getElem? h
  clear h
  unfold slotsF at hm
  by_cases h1 : kd = 1
  ·
   rw [if_pos h1] at hm
   simp only [List.mem_cons, List.not_mem_nil, or_false] at hm
   rcases hm with rfl <;> decide
  rw [if_neg h1] at hm
  by_cases h2 : kd = 2
  ·
   rw [if_pos h2] at hm
   simp only [List.mem_cons, List.not_mem_nil, or_false] at hm
   rcases hm with rfl | rfl <;> decide
  rw [if_neg h2] at hm
  by_cases h3 : kd = 3
  ·
   rw [if_pos h3] at hm
   simp only [List.mem_cons, List.not_mem_nil, or_false] at hm
   rcases hm with rfl | rfl | rfl <;> decide
  rw [if_neg h3] at hm
  by_cases h4 : kd = 4
  ·
   rw [if_pos h4] at hm
   simp only [List.mem_cons, List.not_mem_nil, or_false] at hm
   rcases hm with rfl | rfl <;> decide
  rw [if_neg h4] at hm
  by_cases h5 : kd = 5
  ·
   rw [if_pos h5] at hm
   simp only [List.mem_cons, List.not_mem_nil, or_false] at hm
   rcases hm with rfl | rfl <;> decide
  rw [if_neg h5] at hm
  by_cases h10 : kd = 10
  ·
   rw [if_pos h10] at hm
   simp only [List.mem_cons, List.not_mem_nil, or_false] at hm
   rcases hm with rfl | rfl <;> decide
  rw [if_neg h10] at hm
  by_cases h6 : kd = 6
  ·
   rw [if_pos h6] at hm
   simp only [List.mem_cons, List.not_mem_nil, or_false] at hm
   rcases hm with rfl | rfl | rfl <;> decide
  rw [if_neg h6] at hm
  by_cases h7 : kd = 7
  ·
   rw [if_pos h7] at hm
   simp only [List.mem_cons, List.not_mem_nil, or_false] at hm
   rcases hm with rfl | rfl | rfl | rfl <;> decide
  rw [if_neg h7] at hm
  by_cases h8 : kd = 8
  ·
   rw [if_pos h8] at hm
   simp only [List.mem_cons, List.not_mem_nil, or_false] at hm
   rcases hm with rfl | rfl | rfl | rfl | rfl | rfl <;> decide
  rw [if_neg h8] at hm
  by_cases h9 : kd = 9
  ·
   rw [if_pos h9] at hm
   simp only [List.mem_cons, List.not_mem_nil, or_false] at hm
   rcases hm with rfl | rfl | rfl <;> decide
  rw [if_neg h9] at hm
  by_cases h11 : kd = 11
  ·
   rw [if_pos h11] at hm
   simp only [List.mem_cons, List.not_mem_nil, or_false] at hm
   rcases hm with rfl | rfl | rfl <;> decide
  rw [if_neg h11] at hm
  by_cases h12 : kd = 12
  ·
   rw [if_pos h12] at hm
   simp only [List.mem_cons, List.not_mem_nil, or_false] at hm
   rcases hm with rfl | rfl <;> decide
  rw [if_neg h12] at hm
  cases hm
theorem right_kind {p : Pkt} (h : rightF p = true) : 1 ≤ p.fld 0 ∧ p.fld 0 ≤ 12 := by
 have h' : rightP p := @of_decide_eq_true _ (Classical.propDecidable _) h
 have h1 := h'.1
 refine Classical.byContradiction fun hn => h1 ?_
 unfold slotsF
 simp [show p.fld 0 ≠ 1 by omega, show p.fld 0 ≠ 2 by omega, show p.fld 0 ≠ 3 by omega, show p.fld 0 ≠ 4 by omega, show p.fld 0 ≠ 5 by omega, show p.fld 0 ≠ 6 by omega, show p.fld 0 ≠ 7 by omega, show p.fld 0 ≠ 8 by omega, show p.fld 0 ≠ 9 by omega, show p.fld 0 ≠ 10 by omega, show p.fld 0 ≠ 11 by omega, show p.fld 0 ≠ 12 by omega]
theorem dst_enc {p : Pkt} {L : List (Nat × Nat × Nat × Nat)} {R : List B8} {kd : Nat} (hp : p.ok) (hr : rightF p = true) (hk : p.fld 0 = (kd : Nat)) (hL : slotsF (p.fld 0) = L) : ∀ i, i ≤ L.length →
  dst L (encS0 p L L.length ++ R) kd i = (((L.drop i).flatMap (fun s => putN (p.fld (atF s.1)) s.2.1 s.2.1) ++ R, false), bare p L i)
 | 0, _ => by
  have h1 := tk_app (x := [BitVec.ofInt 8 (p.fld 0)]) (y := L.flatMap (fun s => putN (p.fld (atF s.1)) s.2.1 s.2.1) ++ R) (n := 1) rfl
  have e : encS0 p L L.length ++ R = [BitVec.ofInt 8 (p.fld 0)] ++ (L.flatMap (fun s => putN (p.fld (atF s.1)) s.2.1 s.2.1) ++ R) := by
   unfold encS0
   rw [List.take_length]
   rfl
  show (stepR (encS0 p L L.length ++ R, false) 1, kpk kd) = _
  rw [e]
  unfold stepR
  simp only [h1.2.1, h1.2.2, List.drop_zero]
  congr 1
  unfold bare
  rw [bareN_zero, hk]
  rfl
 | i + 1, hi => by
  have hs : L[i]? = some L[i] := List.getElem?_eq_getElem (by omega)
  have hs' : (slotsF (p.fld 0))[i]? = some L[i] := by rw [hL]; exact hs
  rw [dst_next hs, dst_enc hp hr hk hL i (by omega)]
  have hd : L.drop i = L[i] :: L.drop (i + 1) := List.drop_eq_getElem_cons (by omega)
  have hlen := putN_len (p.fld (atF L[i].1)) L[i].2.1 L[i].2.1
  have h1 := tk_app (x := putN (p.fld (atF L[i].1)) L[i].2.1 L[i].2.1) (y := (L.drop (i + 1)).flatMap (fun s => putN (p.fld (atF s.1)) s.2.1 s.2.1) ++ R) hlen
  rw [hd, List.flatMap_cons, List.append_assoc]
  unfold dnx stepR
  simp only [h1.1, h1.2.1, h1.2.2]
  have hsl := right_slot hr (List.mem_of_getElem? hs')
  have hmx := slot_max hs'
  have hn : ((numF (putN (p.fld (atF L[i].1)) L[i].2.1 L[i].2.1) : Nat) : Int) = p.fld (atF L[i].1) := numF_enc (by omega) (by
   have : ((L[i].2.2.2 : Nat) : Int) < ((256 ^ L[i].2.1 : Nat) : Int) := Int.ofNat_lt.2 hmx
   rw [Int.natCast_pow] at this
   exact Int.lt_of_le_of_lt hsl.2 this)
  rw [hn, bare_set2 hp hs (at_pos hs') (at_lt hs')]
theorem dec_enc {p : Pkt} (hp : p.ok) (hr : rightF p = true) : decP (encF p) = p ∧ decE (encF p) = 0 := by
 have hkr := right_kind hr
 obtain ⟨kd, hk⟩ := Int.eq_ofNat_of_zero_le (show 0 ≤ p.fld 0 by omega)
 obtain ⟨L, hL⟩ : ∃ L, slotsF (p.fld 0) = L := ⟨_, rfl⟩
 have h' : rightP p := @of_decide_eq_true _ (Classical.propDecidable _) hr
 have hfull := h'.2.2.1
 rw [hL] at hfull
 obtain ⟨R, hR⟩ : ∃ R, (if 2 ≤ p.fld 0 ∧ p.fld 0 ≤ 4 then p.sec else []) ++ (if 5 ≤ p.fld 0 ∧ p.fld 0 ≤ 11 then p.tg else []) = R := ⟨_, rfl⟩
 have he : encF p = encS0 p L L.length ++ R := by rw [encF_eq hL, List.append_assoc, hR]
 have hd := dst_enc (R := R) (kd := kd) hp hr (by rw [hk]) hL L.length (Nat.le_refl _)
 rw [List.drop_length] at hd
 simp only [List.flatMap_nil, List.nil_append] at hd
 have hn1 : numF (tkO (encF p) false 1) = kd := by
  have h1 := tk_app (x := [BitVec.ofInt 8 (p.fld 0)]) (y := L.flatMap (fun s => putN (p.fld (atF s.1)) s.2.1 s.2.1) ++ R) (n := 1) rfl
  have e : encF p = [BitVec.ofInt 8 (p.fld 0)] ++ (L.flatMap (fun s => putN (p.fld (atF s.1)) s.2.1 s.2.1) ++ R) := by
   rw [he]
   unfold encS0
   rw [List.take_length]
   rfl
  rw [e, h1.1, hk]
  simp only [numF, List.foldl_cons, List.foldl_nil]
  rw [show BitVec.ofInt 8 (((kd : Nat) : Int)) = BitVec.ofNat 8 kd from BitVec.ofInt_natCast _ _, BitVec.toNat_ofNat]
  omega
 have hx := decX_eq (L := L) hn1 (by rw [← hL, hk]) (x := ((R, false), bare p L L.length)) (by rw [he]; exact hd)
 have hkd : ((kd : Nat) : Int) = p.fld 0 := by rw [hk]
 rw [hkd] at hx
 have hX : decX (encF p) = (([], false), p) := by
  rw [hx]
  by_cases h1 : 2 ≤ p.fld 0 ∧ p.fld 0 ≤ 4
  ·
   have h2 : ¬ (5 ≤ p.fld 0 ∧ p.fld 0 ≤ 11) := by omega
   rw [if_pos h1, if_neg h2, List.append_nil] at hR
   rw [if_neg h2, if_pos h1]
   subst hR
   have h3 := tk_app (x := p.sec) (y := []) hp.2.1
   rw [List.append_nil] at h3
   unfold sec16 stepR
   simp only [h3.1, h3.2.1, h3.2.2]
   rw [full_sec h1] at hfull
   congr 1
   refine Eq.trans ?_ hfull
   show (⟨bareN p L L.length, p.sec ++ (List.replicate 16 (0 : B8)).drop p.sec.length, List.replicate 8 0⟩ : Pkt) = _
   rw [hp.2.1]
   simp
  ·
   by_cases h2 : 5 ≤ p.fld 0 ∧ p.fld 0 ≤ 11
   ·
    rw [if_neg h1, if_pos h2, List.nil_append] at hR
    rw [if_pos h2, if_neg h1]
    subst hR
    have h3 := tk_app (x := p.tg) (y := []) hp.2.2.1
    rw [List.append_nil] at h3
    unfold tg8 stepR
    simp only [h3.1, h3.2.1, h3.2.2]
    rw [full_tg h2] at hfull
    congr 1
    refine Eq.trans ?_ hfull
    show (⟨bareN p L L.length, List.replicate 16 0, p.tg ++ (List.replicate 8 (0 : B8)).drop p.tg.length⟩ : Pkt) = _
    rw [hp.2.2.1]
    simp
   ·
    rw [if_neg h1, if_neg h2] at hR
    rw [if_neg h2, if_neg h1]
    subst hR
    rw [full, if_neg h1, if_neg h2] at hfull
    congr 1
 have hok : (!(decX (encF p)).1.2 && decide ((decX (encF p)).1.1.length = 0)) = true := by rw [hX]; rfl
 have hr2 : rightF (decX (encF p)).2 = true := by rw [hX]; exact hr
 exact ⟨by rw [dec_yes hok hr2, hX], decE_yes hok hr2⟩
theorem right_hello {n : Int} (h : 0 ≤ n ∧ n ≤ 1073741824) : rightF (⟨[1, 0, 0, 0, 0, 0, 0, 0, 0, 0, n, 0], Z16, Z8⟩ : Pkt) = true := by
 refine rightF_t ⟨?_, fun j s hs => ?_, ?_, ?_⟩
 ·
  show slotsF 1 ≠ []
  decide
 ·
  have hm : s ∈ slotsF 1 := List.mem_of_getElem? hs
  clear hs
  simp only [slotsF, Int.reduceEq, if_false, if_true, List.mem_cons, List.not_mem_nil, or_false] at hm
  rcases hm with rfl <;> simp [Pkt.fld, atF] <;> omega
 ·
  show full (⟨[1, 0, 0, 0, 0, 0, 0, 0, 0, 0, n, 0], Z16, Z8⟩ : Pkt) (slotsF 1) = (⟨[1, 0, 0, 0, 0, 0, 0, 0, 0, 0, n, 0], Z16, Z8⟩ : Pkt)
  kernel_rfl
 · simp [Pkt.fld]
theorem right_cookie {n e : Int} {k : List B8} (h : 0 ≤ n ∧ n ≤ 1073741824) (h2 : 0 ≤ e ∧ e ≤ 1073741824) : rightF (⟨[2, 0, 0, 0, 0, 0, 0, 0, 0, 0, n, e], k, Z8⟩ : Pkt) = true := by
 refine rightF_t ⟨?_, fun j s hs => ?_, ?_, ?_⟩
 ·
  show slotsF 2 ≠ []
  decide
 ·
  have hm : s ∈ slotsF 2 := List.mem_of_getElem? hs
  clear hs
  simp only [slotsF, Int.reduceEq, if_false, if_true, List.mem_cons, List.not_mem_nil, or_false] at hm
  rcases hm with rfl | rfl <;> simp [Pkt.fld, atF] <;> omega
 ·
  show full (⟨[2, 0, 0, 0, 0, 0, 0, 0, 0, 0, n, e], k, Z8⟩ : Pkt) (slotsF 2) = (⟨[2, 0, 0, 0, 0, 0, 0, 0, 0, 0, n, e], k, Z8⟩ : Pkt)
  kernel_rfl
 · simp [Pkt.fld]
theorem right_conn {u n e : Int} {k : List B8} (h : 0 ≤ n ∧ n ≤ 1073741824) (h2 : 0 ≤ e ∧ e ≤ 1073741824) (h3 : 1 ≤ u ∧ u ≤ 16) : rightF (⟨[3, 0, 0, u, 0, 0, 0, 0, 0, 0, n, e], k, Z8⟩ : Pkt) = true := by
 refine rightF_t ⟨?_, fun j s hs => ?_, ?_, ?_⟩
 ·
  show slotsF 3 ≠ []
  decide
 ·
  have hm : s ∈ slotsF 3 := List.mem_of_getElem? hs
  clear hs
  simp only [slotsF, Int.reduceEq, if_false, if_true, List.mem_cons, List.not_mem_nil, or_false] at hm
  rcases hm with rfl | rfl | rfl <;> simp [Pkt.fld, atF] <;> omega
 ·
  show full (⟨[3, 0, 0, u, 0, 0, 0, 0, 0, 0, n, e], k, Z8⟩ : Pkt) (slotsF 3) = (⟨[3, 0, 0, u, 0, 0, 0, 0, 0, 0, n, e], k, Z8⟩ : Pkt)
  kernel_rfl
 · simp [Pkt.fld]
theorem right_acc {i n : Int} {k : List B8} (h : 0 ≤ n ∧ n ≤ 1073741824) (h2 : 1 ≤ i ∧ i ≤ 1073741824) : rightF (⟨[4, i, 0, 0, 0, 0, 0, 0, 0, 0, n, 0], k, Z8⟩ : Pkt) = true := by
 refine rightF_t ⟨?_, fun j s hs => ?_, ?_, ?_⟩
 ·
  show slotsF 4 ≠ []
  decide
 ·
  have hm : s ∈ slotsF 4 := List.mem_of_getElem? hs
  clear hs
  simp only [slotsF, Int.reduceEq, if_false, if_true, List.mem_cons, List.not_mem_nil, or_false] at hm
  rcases hm with rfl | rfl <;> simp [Pkt.fld, atF] <;> omega
 ·
  show full (⟨[4, i, 0, 0, 0, 0, 0, 0, 0, 0, n, 0], k, Z8⟩ : Pkt) (slotsF 4) = (⟨[4, i, 0, 0, 0, 0, 0, 0, 0, 0, n, 0], k, Z8⟩ : Pkt)
  kernel_rfl
 · simp [Pkt.fld]
theorem right_beat {i q : Int} {t : List B8} (h : 1 ≤ q ∧ q ≤ 1073741824) (h2 : 1 ≤ i ∧ i ≤ 1073741824) : rightF (⟨[5, i, q, 0, 0, 0, 0, 0, 0, 0, 0, 0], Z16, t⟩ : Pkt) = true := by
 refine rightF_t ⟨?_, fun j s hs => ?_, ?_, ?_⟩
 ·
  show slotsF 5 ≠ []
  decide
 ·
  have hm : s ∈ slotsF 5 := List.mem_of_getElem? hs
  clear hs
  simp only [slotsF, Int.reduceEq, if_false, if_true, List.mem_cons, List.not_mem_nil, or_false] at hm
  rcases hm with rfl | rfl <;> simp [Pkt.fld, atF] <;> omega
 ·
  show full (⟨[5, i, q, 0, 0, 0, 0, 0, 0, 0, 0, 0], Z16, t⟩ : Pkt) (slotsF 5) = (⟨[5, i, q, 0, 0, 0, 0, 0, 0, 0, 0, 0], Z16, t⟩ : Pkt)
  kernel_rfl
 · simp [Pkt.fld]
theorem right_status {i q s : Int} {t : List B8} (h : 1 ≤ q ∧ q ≤ 1073741824) (h2 : 1 ≤ i ∧ i ≤ 1073741824) (h3 : 1 ≤ s ∧ s ≤ 3) : rightF (⟨[6, i, q, 0, 0, s, 0, 0, 0, 0, 0, 0], Z16, t⟩ : Pkt) = true := by
 refine rightF_t ⟨?_, fun j s hs => ?_, ?_, ?_⟩
 ·
  show slotsF 6 ≠ []
  decide
 ·
  have hm : s ∈ slotsF 6 := List.mem_of_getElem? hs
  clear hs
  simp only [slotsF, Int.reduceEq, if_false, if_true, List.mem_cons, List.not_mem_nil, or_false] at hm
  rcases hm with rfl | rfl | rfl <;> simp [Pkt.fld, atF] <;> omega
 ·
  show full (⟨[6, i, q, 0, 0, s, 0, 0, 0, 0, 0, 0], Z16, t⟩ : Pkt) (slotsF 6) = (⟨[6, i, q, 0, 0, s, 0, 0, 0, 0, 0, 0], Z16, t⟩ : Pkt)
  kernel_rfl
 · simp [Pkt.fld]
theorem right_note {i q u v s n : Int} {t : List B8} (h : 1 ≤ q ∧ q ≤ 1073741824) (h2 : 1 ≤ i ∧ i ≤ 1073741824) (h3 : 1 ≤ u ∧ u ≤ 16) (h4 : 0 ≤ v ∧ v ≤ 1073741824) (h5 : 0 ≤ s ∧ s ≤ 3) (h6 : 0 ≤ n ∧ n ≤ 4) : rightF (⟨[8, i, q, u, 0, s, n, v, 0, 0, 0, 0], Z16, t⟩ : Pkt) = true := by
 refine rightF_t ⟨?_, fun j s hs => ?_, ?_, ?_⟩
 ·
  show slotsF 8 ≠ []
  decide
 ·
  have hm : s ∈ slotsF 8 := List.mem_of_getElem? hs
  clear hs
  simp only [slotsF, Int.reduceEq, if_false, if_true, List.mem_cons, List.not_mem_nil, or_false] at hm
  rcases hm with rfl | rfl | rfl | rfl | rfl | rfl <;> simp [Pkt.fld, atF] <;> omega
 ·
  show full (⟨[8, i, q, u, 0, s, n, v, 0, 0, 0, 0], Z16, t⟩ : Pkt) (slotsF 8) = (⟨[8, i, q, u, 0, s, n, v, 0, 0, 0, 0], Z16, t⟩ : Pkt)
  kernel_rfl
 · simp [Pkt.fld] <;> omega
theorem right_ack {i a s : Int} {t : List B8} (h : 0 ≤ a ∧ a ≤ 1073741824) (h2 : 1 ≤ i ∧ i ≤ 1073741824) (h3 : 0 ≤ s ∧ s ≤ 255) : rightF (⟨[9, i, 0, 0, 0, 0, 0, 0, a, s, 0, 0], Z16, t⟩ : Pkt) = true := by
 refine rightF_t ⟨?_, fun j s hs => ?_, ?_, ?_⟩
 ·
  show slotsF 9 ≠ []
  decide
 ·
  have hm : s ∈ slotsF 9 := List.mem_of_getElem? hs
  clear hs
  simp only [slotsF, Int.reduceEq, if_false, if_true, List.mem_cons, List.not_mem_nil, or_false] at hm
  rcases hm with rfl | rfl | rfl <;> simp [Pkt.fld, atF] <;> omega
 ·
  show full (⟨[9, i, 0, 0, 0, 0, 0, 0, a, s, 0, 0], Z16, t⟩ : Pkt) (slotsF 9) = (⟨[9, i, 0, 0, 0, 0, 0, 0, a, s, 0, 0], Z16, t⟩ : Pkt)
  kernel_rfl
 · simp [Pkt.fld]
theorem right_reply {i q c : Int} {t : List B8} (h : 1 ≤ q ∧ q ≤ 1073741824) (h2 : 1 ≤ i ∧ i ≤ 1073741824) (h3 : 0 ≤ c ∧ c ≤ 15) : rightF (⟨[11, i, q, 0, c, 0, 0, 0, 0, 0, 0, 0], Z16, t⟩ : Pkt) = true := by
 refine rightF_t ⟨?_, fun j s hs => ?_, ?_, ?_⟩
 ·
  show slotsF 11 ≠ []
  decide
 ·
  have hm : s ∈ slotsF 11 := List.mem_of_getElem? hs
  clear hs
  simp only [slotsF, Int.reduceEq, if_false, if_true, List.mem_cons, List.not_mem_nil, or_false] at hm
  rcases hm with rfl | rfl | rfl <;> simp [Pkt.fld, atF] <;> omega
 ·
  show full (⟨[11, i, q, 0, c, 0, 0, 0, 0, 0, 0, 0], Z16, t⟩ : Pkt) (slotsF 11) = (⟨[11, i, q, 0, c, 0, 0, 0, 0, 0, 0, 0], Z16, t⟩ : Pkt)
  kernel_rfl
 · simp [Pkt.fld]
theorem right_tag {p : Pkt} {t : List B8} (h : signOk p = true) : rightF (⟨p.n, p.sec, t⟩ : Pkt) = true := by
 unfold signOk at h
 rw [Bool.and_eq_true] at h
 have hk := of_decide_eq_true h.2
 have h' : rightP (bareT p) := @of_decide_eq_true _ (Classical.propDecidable _) h.1
 refine rightF_t ⟨h'.1, h'.2.1, ?_, h'.2.2.2⟩
 have hf := h'.2.2.1
 rw [full_tg (p := bareT p) hk] at hf
 rw [full_tg (p := ⟨p.n, p.sec, t⟩) hk]
 unfold bareT at hf
 simp only [Pkt.mk.injEq] at hf
 simp only [Pkt.mk.injEq]
 exact ⟨hf.1, hf.2.1, trivial⟩
theorem raw_sign {k : List B8} {p : Pkt} (h : signOk p = true) : rawF (signF k p) = [encF (signF k p)] := if_pos (right_tag h)
theorem raw_yes {p : Pkt} (h : rightF p = true) : rawF p = [encF p] := if_pos h
theorem sgn_yes {c : Cl} {p : Pkt} (h : signOk (p.set 1 c.id) = true) : sgnF c p = [encF (signF c.key (p.set 1 c.id))] := by
 unfold sgnF
 rw [if_pos h, raw_sign h]
theorem sign_good {k : List B8} {p : Pkt} (h : signOk p = true) : goodF k (signF k p) = true := by
 unfold goodF
 rw [show signOk (signF k p) = signOk p from rfl, h]
 simp only [Bool.true_and]
 exact decide_eq_true rfl
theorem signF_ok {k : List B8} {p : Pkt} (h : p.ok) : (signF k p).ok := ⟨h.1, h.2.1, signTag_len, h.2.2.2⟩
theorem dec_sign {k : List B8} {p : Pkt} (hp : p.ok) (h : signOk p = true) : decP (encF (signF k p)) = signF k p ∧ decE (encF (signF k p)) = 0 := dec_enc (signF_ok hp) (right_tag h)
theorem sok_of {p : Pkt} (h : ∀ t, rightF (⟨p.n, p.sec, t⟩ : Pkt) = true) (hk : 5 ≤ p.fld 0 ∧ p.fld 0 ≤ 11) : signOk p = true := by
 unfold signOk
 rw [show rightF (bareT p) = true from h _, decide_eq_true hk]
 rfl
section
section
variable {H : Type} {enc : TypeId × Value → H} {P : Program} {w : World} {base : Nat} {spare : Nat → Bool} {held : Bool}
theorem u8_of {n : Int} (h : (Lit.int .u8 n).wf = true) : Value.int .u8 n = u8v (BitVec.ofInt 8 n) := by
 simp [Lit.wf, IntKind.min, IntKind.max, IntKind.signed, IntKind.bits] at h
 have : ((BitVec.ofInt 8 n).toNat : Int) = n := by
  rw [BitVec.toNat_ofInt]
  omega
 unfold u8v
 rw [this]
theorem open_bytes {t e : TypeId} {fuel : Nat} {cs : List Value} {x : DataW H × List MemPlace} (ht : P.underlying t = some (.slice e)) (he : P.underlying e = some (.int .u8)) (hc : P.cellsOf e = 1)
  (h : DataW.trod enc P w base spare held fuel t cs = some x) : ∃ v L, cs = [v] ∧ BRow w v L := by
 rcases Go.ChangeShapes.open_ints ht he hc h with ⟨rfl, _⟩ | ⟨a, len, cap, zs, rfl, hb, hl, hm, hz, hx, hat, hwf⟩
 · exact ⟨_, [], rfl, brow_nil w⟩
 ·
  have hlz : len ≤ zs.length := by rw [hz]; split <;> omega
  have hll : ((zs.take len).map (BitVec.ofInt 8)).length = len := by rw [List.length_map, List.length_take]; omega
  refine ⟨_, (zs.take len).map (BitVec.ofInt 8), rfl, some a, cap, by rw [hll], by rw [hll]; exact hl, hm, (fun e => by cases e), fun j hj => ?_⟩
  have hj' : j < len := by rw [List.length_map, hll] at hj; exact hj
  have h1 := hat j (by omega)
  have hz1 : zs[j]? = some (zs.getD j 0) := by rw [List.getD_eq_getElem?_getD, List.getElem?_eq_getElem (by omega)]; rfl
  have hw := hwf (zs.getD j 0) (List.mem_of_getElem? hz1)
  obtain ⟨b, o, sp⟩ := a
  have hsp : sp = none := by
   have := World.cell?_spot (hat 0 (by omega))
   simpa [Addr.add] using this
  subst hsp
  refine ⟨b, o, rfl, ?_⟩
  rw [add_flat] at h1
  rw [h1, u8_of hw, List.getElem?_map, List.getElem?_map, List.getElem?_take_of_lt hj', hz1]
  rfl
/-- what a cell may be: an int, a byte, a slice of bytes -/
inductive Ck | i | u | s
def cellKind (P : Program) : Nat → TypeId → Nat → Option Ck
 | 0, _, _ => none
 | d + 1, t, i => match P.underlying t with
  | some (.int .i64) => if i = 0 then some .i else none
  | some (.int .u8) => if i = 0 then some .u else none
  | some (.slice e) => match P.underlying e with
   | some (.int .u8) => if i = 0 ∧ P.cellsOf e = 1 then some .s else none
   | _ => none
  | some (.struct fs) => match fs.toList.find? (fun f => decide (f.offset ≤ i) && decide (i < f.offset + P.cellsOf f.type)) with
   | some f => cellKind P d f.type (i - f.offset)
   | none => none
  | some (.array n e) => if i < n * P.cellsOf e then cellKind P d e (i % P.cellsOf e) else none
  | _ => none
def GoodC (w : World) : Ck → Value → Prop
 | .i, v => IsInt v
 | .u, v => ∃ x : B8, v = u8v x
 | .s, v => ∃ L, BRow w v L
theorem trod_kind : ∀ (d : Nat) (t : TypeId) (fuel : Nat) (cs : List Value) (x : DataW H × List MemPlace) (i : Nat) (κ : Ck) (v : Value), cellKind P d t i = some κ → DataW.trod enc P w base spare held fuel t cs = some x → cs[i]? = some v → GoodC w κ v
 | 0, _, _, _, _, _, _, _, h, _, _ => by simp [cellKind] at h
 | d + 1, t, fuel, cs, x, i, κ, v, h, ht, hv => by
  unfold cellKind at h
  split at h
  ·
   rename_i hu
   obtain ⟨n, rfl, _, hw⟩ := DataW.trod_int hu ht
   split at h
   ·
    injection h with h
    subst h
    rename_i h0
    subst h0
    simp at hv
    exact ⟨n, hv.symm, hw⟩
   · cases h
  ·
   rename_i hu
   obtain ⟨n, rfl, _, hw⟩ := DataW.trod_int hu ht
   split at h
   ·
    injection h with h
    subst h
    rename_i h0
    subst h0
    simp at hv
    exact ⟨_, by rw [← hv]; exact u8_of hw⟩
   · cases h
  ·
   rename_i e hu
   split at h
   ·
    rename_i he
    split at h
    ·
     rename_i h0
     injection h with h
     subst h
     obtain ⟨v', L, rfl, hr⟩ := open_bytes hu he h0.2 ht
     rw [h0.1] at hv
     simp at hv
     subst hv
     exact ⟨L, hr⟩
    · cases h
   · cases h
  ·
   rename_i fs hu
   obtain ⟨xs, m, _, _, hl, hxl, hf⟩ := DataW.trod_struct hu ht
   split at h
   ·
    rename_i f hfi
    have hfm := List.mem_of_find?_eq_some hfi
    have hb := List.find?_some hfi
    simp only [Bool.and_eq_true, decide_eq_true_eq] at hb
    obtain ⟨j, hjl, hj⟩ := List.getElem_of_mem hfm
    have hj' : fs[j]? = some f := by
     rw [← Array.getElem?_toList, List.getElem?_eq_getElem hjl, hj]
    have h1 := hf j f hj'
    have hjx : j < xs.length := by rw [hxl]; simpa using hjl
    rw [List.getElem?_eq_getElem hjx] at h1
    refine trod_kind d f.type m _ _ (i - f.offset) κ v h h1 ?_
    rw [List.getElem?_take, if_pos (by omega), List.getElem?_drop, show f.offset + (i - f.offset) = i by omega]
    exact hv
   · cases h
  ·
   rename_i n e hu
   obtain ⟨xs, m, _, _, hl, hxl, hf⟩ := DataW.trod_array hu ht
   split at h
   ·
    rename_i hi
    have hp : 0 < P.cellsOf e := by
     rcases Nat.eq_zero_or_pos (P.cellsOf e) with h0 | h0
     · rw [h0] at hi; omega
     · exact h0
    have hq : i / P.cellsOf e < n := by rw [Nat.div_lt_iff_lt_mul hp]; exact hi
    have h1 := hf (i / P.cellsOf e) hq
    rw [List.getElem?_eq_getElem (by omega)] at h1
    refine trod_kind d e m _ _ (i % P.cellsOf e) κ v h h1 ?_
    rw [List.getElem?_take, if_pos (Nat.mod_lt _ hp), List.getElem?_drop, Nat.mul_comm, Nat.div_add_mod]
    exact hv
   · cases h
  · cases h
theorem kinds_ints {w : World} : ∀ (l : List Value), (∀ v ∈ l, GoodC w .i v) → ∃ N : List Int, l = N.map (Value.int .i64) ∧ ∀ x ∈ N, -9223372036854775808 ≤ x ∧ x ≤ 9223372036854775807
 | [], _ => ⟨[], rfl, fun x hx => by cases hx⟩
 | v :: l, h => by
  obtain ⟨N, hN, hw⟩ := kinds_ints l fun u hu => h u (by simp [hu])
  obtain ⟨n, hn, hnw⟩ := h v (by simp)
  refine ⟨n :: N, by rw [hn, hN]; rfl, fun x hx => ?_⟩
  rcases List.mem_cons.1 hx with rfl | hx
  ·
   simp [Lit.wf, IntKind.min, IntKind.max, IntKind.signed, IntKind.bits] at hnw
   omega
  · exact hw x hx
theorem kinds_bytes {w : World} : ∀ (l : List Value), (∀ v ∈ l, GoodC w .u v) → ∃ L : List B8, l = L.map u8v
 | [], _ => ⟨[], rfl⟩
 | v :: l, h => by
  obtain ⟨L, hL⟩ := kinds_bytes l fun u hu => h u (by simp [hu])
  obtain ⟨x, hx⟩ := h v (by simp)
  exact ⟨x :: L, by rw [hx, hL]; rfl⟩
end
/-- an act: what comes -/
structure Ac where
 d : Int
 n : Int
 b : List B8
 o : Nt
 p : Pkt
 k : List B8
def acL (a : Ac) (vb : Value) : List Value := [.int .i64 a.d, .int .i64 a.n, vb, .int .i64 a.o.1, .int .i64 a.o.2.1, .int .i64 a.o.2.2.1, .int .i64 a.o.2.2.2] ++ (pcell a.p ++ a.k.map u8v)
def i64 (x : Int) : Prop := -9223372036854775808 ≤ x ∧ x ≤ 9223372036854775807
structure AcOk (a : Ac) : Prop where
 n : i64 a.n
 p : a.p.ok
 k : a.k.length = 16
theorem acL_len {a : Ac} {vb : Value} (h : AcOk a) : (acL a vb).length = 59 := by
 have := pcell_len h.p
 have := h.k
 simp only [acL, List.length_append, List.length_cons, List.length_nil, List.length_map]
 omega
theorem act_of {w : World} {cs : List Value} (hl : cs.length = 59) (h : ∀ (i : Nat) v, cs[i]? = some v → GoodC w (if i = 2 then .s else if i < 19 then .i else .u) v) : ∃ a vb, AcOk a ∧ BRow w vb a.b ∧ cs = acL a vb := by
 have part : ∀ lo n κ, lo + n ≤ 59 → (∀ i, lo ≤ i → i < lo + n → (if i = 2 then Ck.s else if i < 19 then .i else .u) = κ) → ∀ v ∈ (cs.drop lo).take n, GoodC w κ v := fun lo n κ h1 h2 v hv => by
  obtain ⟨j, hj, he⟩ := List.getElem_of_mem hv
  have hj' : j < n := by rw [List.length_take] at hj; omega
  have h3 := h (lo + j) v (by rw [← he, List.getElem_take, List.getElem_drop]; exact List.getElem?_eq_getElem (by omega))
  rwa [h2 (lo + j) (by omega) (by omega)] at h3
 obtain ⟨N0, e0, w0⟩ := kinds_ints _ (part 0 2 .i (by omega) (fun i _ hi => by rw [if_neg (by omega), if_pos (by omega)]))
 obtain ⟨N1, e1, w1⟩ := kinds_ints _ (part 3 4 .i (by omega) (fun i hi hi2 => by rw [if_neg (by omega), if_pos (by omega)]))
 obtain ⟨N2, e2, w2⟩ := kinds_ints _ (part 7 12 .i (by omega) (fun i hi hi2 => by rw [if_neg (by omega), if_pos (by omega)]))
 obtain ⟨S, e3⟩ := kinds_bytes _ (part 19 16 .u (by omega) (fun i hi hi2 => by rw [if_neg (by omega), if_neg (by omega)]))
 obtain ⟨T, e4⟩ := kinds_bytes _ (part 35 8 .u (by omega) (fun i hi hi2 => by rw [if_neg (by omega), if_neg (by omega)]))
 obtain ⟨K, e5⟩ := kinds_bytes _ (part 43 16 .u (by omega) (fun i hi hi2 => by rw [if_neg (by omega), if_neg (by omega)]))
 obtain ⟨vb, h2⟩ : ∃ vb, cs[2]? = some vb := ⟨cs[2], List.getElem?_eq_getElem (by omega)⟩
 obtain ⟨L, hL⟩ : ∃ L, BRow w vb L := h 2 _ h2
 have l0 : N0.length = 2 := by have := congrArg List.length e0; simp at this; omega
 have l1 : N1.length = 4 := by have := congrArg List.length e1; simp at this; omega
 have l2 : N2.length = 12 := by have := congrArg List.length e2; simp at this; omega
 have l3 : S.length = 16 := by have := congrArg List.length e3; simp at this; omega
 have l4 : T.length = 8 := by have := congrArg List.length e4; simp at this; omega
 have l5 : K.length = 16 := by have := congrArg List.length e5; simp at this; omega
 have sp : ∀ lo n, cs.drop lo = (cs.drop lo).take n ++ cs.drop (lo + n) := fun lo n => by rw [← List.drop_drop]; exact (List.take_append_drop n _).symm
 have hcs : cs = (cs.drop 0).take 2 ++ ([vb] ++ ((cs.drop 3).take 4 ++ ((cs.drop 7).take 12 ++ ((cs.drop 19).take 16 ++ ((cs.drop 35).take 8 ++ (cs.drop 43).take 16))))) := by
  have hv : (cs.drop 2).take 1 = [vb] := by
   rw [List.drop_eq_getElem_cons (by omega), List.take_succ_cons, List.take_zero]
   rw [List.getElem?_eq_getElem (by omega)] at h2
   rw [Option.some.inj h2]
  have hz : cs.drop 59 = [] := List.drop_of_length_le (by omega)
  have h0 := sp 0 2
  have h1 := sp 2 1
  have h3 := sp 3 4
  have h4 := sp 7 12
  have h5 := sp 19 16
  have h6 := sp 35 8
  have h7 := sp 43 16
  rw [hv] at h1
  simp only [Nat.reduceAdd] at h0 h1 h3 h4 h5 h6 h7
  rw [hz, List.append_nil] at h7
  rw [← h7, ← h6, ← h5, ← h4, ← h3, ← h1, ← h0]
  rfl
 match N0, l0, e0 with
 | [d, n], _, e0 =>
 match N1, l1, e1 with
 | [o1, o2, o3, o4], _, e1 =>
 refine ⟨⟨d, n, L, (o1, o2, o3, o4), ⟨N2, S, T⟩, K⟩, vb, ⟨w0 n (by simp), ⟨l2, l3, l4, w2⟩, l5⟩, hL, ?_⟩
 rw [hcs, e0, e1, e2, e3, e4, e5]
 simp [acL, pcell]
end
section
theorem fld38_0 : fldAt Tryz.prog 38 0 0 := fun b o w => by go_simp
theorem fld38_1 : fldAt Tryz.prog 38 1 1 := fun b o w => by go_simp
theorem fld38_2 : fldAt Tryz.prog 38 2 2 := fun b o w => by go_simp
theorem fld38_3 : fldAt Tryz.prog 38 3 3 := fun b o w => by go_simp
theorem fld38_4 : fldAt Tryz.prog 38 4 7 := fun b o w => by go_simp
theorem fld38_5 : fldAt Tryz.prog 38 5 43 := fun b o w => by go_simp
abbrev acV (a : Ac) (vb : Value) : Array Value := (acL a vb).toArray
noncomputable def encB (p : Pkt) : List B8 := if rightF p = true then encF p else []
noncomputable def encE (p : Pkt) : Int := if rightF p = true then 0 else 1
noncomputable def sigP (k : List B8) (p : Pkt) : Pkt := if signOk p = true then signF k p else pk0
noncomputable def inputF (a : Ac) : List B8 := if a.d = 1 then a.b else encB (if a.d = 6 then sigP a.k a.p else a.p)
theorem renc_b (w : World) (p : Pkt) (hp : p.ok) : Calls Tryz.prog 39 #[.agg (pv p)] w fun e w' => (∃ v, e = .returned (.tuple #[v, .int .i64 (encE p)]) ∧ BRow w' v (encB p)) ∧ Below w.heap.size w w' :=
 (renc_any w p hp).mono fun e w' ⟨h1, h2⟩ => by
  rcases h1 with ⟨h, A, c, he, ho⟩ | ⟨h, he⟩
  · exact ⟨⟨_, by rw [encE, if_pos h]; exact he, by rw [encB, if_pos h]; exact BOwn.row ho⟩, h2⟩
  · exact ⟨⟨_, by rw [encE, if_neg (by rw [h]; simp)]; exact he, by rw [encB, if_neg (by rw [h]; simp)]; exact brow_nil _⟩, h2⟩
section
variable {w : World} {b : Nat} {t : TypeId} {a : Ac} {vb : Value}
theorem ac_at (k : Block w b t (acV a vb)) {j : Nat} {v : Value} (h : (acL a vb)[j]? = some v) : w.cell? ⟨b, j, none⟩ = some v := by
 rw [k.cell, List.getElem?_toArray, h]
theorem ac_do (k : Block w b t (acV a vb)) : w.cell? ⟨b, 0, none⟩ = some (.int .i64 a.d) := ac_at k rfl
theorem ac_b (k : Block w b t (acV a vb)) : w.cell? ⟨b, 2, none⟩ = some vb := ac_at k rfl
theorem ac_p (k : Block w b t (acV a vb)) : w.rangeAt b 7 (pcell a.p) := fun j v hv => by
 refine ac_at k ?_
 rw [acL, List.getElem?_append_right (by simp), show 7 + j - [Value.int .i64 a.d, .int .i64 a.n, vb, .int .i64 a.o.1, .int .i64 a.o.2.1, .int .i64 a.o.2.2.1, .int .i64 a.o.2.2.2].length = j by simp, List.getElem?_append_left (List.getElem?_eq_some_iff.1 hv).1]
 exact hv
theorem ac_k (k : Block w b t (acV a vb)) (h : AcOk a) : w.rangeAt b 43 (a.k.map u8v) := fun j v hv => by
 refine ac_at k ?_
 rw [acL, List.getElem?_append_right (by simp; omega), List.getElem?_append_right (by rw [pcell_len h.p]; simp; omega), show 43 + j - [Value.int .i64 a.d, .int .i64 a.n, vb, .int .i64 a.o.1, .int .i64 a.o.2.1, .int .i64 a.o.2.2.1, .int .i64 a.o.2.2.2].length - (pcell a.p).length = j by rw [pcell_len h.p]; simp; omega]
 exact hv
end
set_option maxRecDepth 100000 in
set_option maxHeartbeats 4000000 in
theorem input_any (w : World) (x : Ac) (vb : Value) (hok : AcOk x) (hvb : BRow w vb x.b) : Calls Tryz.prog 24 #[.agg (acV x vb)] w fun e w' => (∃ v, e = .returned v ∧ BRow w' v (inputF x)) ∧ Below w.heap.size w w' := by
 have hall := Below.refl w.heap.size w
 refine K_enter 32 Tryz.func24 rfl rfl fun a H => ?_
 replace H := H.pick [0]
 refine zC (zD ?_)
 refine op_box 38 (.tmp 0) (acV x vb) (H.ev rfl) fun w0 b0 hge hb k0 => ?_; have g0 := Nat.le_trans hall.size hge; replace hall := hall.tr hb; clear hb; clear hge; refine kl H rfl fun a H => ?_
 refine kR 1 H rfl fun a H => ?_
 refine zA (zB (zC (zC (zD ?_))))
 refine kR 1 H rfl fun a H => ?_
 refine kV H (r_ld U3 rfl (H.ev rfl) (ac_do k0)) rfl fun a H => ?_
 by_cases hcc0 : (x.d) = 1
 ·
  refine kV H (r_eq U3 (H.ev rfl) evc (dec_t (hcc0))) rfl fun a H => ?_
  refine zA (zB (zH H rfl (zC (zD ?_))))
  refine kR 1 H rfl fun a H => ?_
  refine kV (v := vb) H (r_ld U30 rfl (H.ev rfl) (ac_b k0)) rfl fun a H => ?_
  refine kR 1 H rfl fun a H => ?_
  refine zA (zB (zF (zJ ?_)))
  exact k_ret1 H rfl rfl ⟨⟨_, rfl, by rw [inputF, if_pos (by omega)]; exact BRow.up hvb hall⟩, hall⟩
 ·
  refine kV H (r_eq U3 (H.ev rfl) evc (dec_f (hcc0))) rfl fun a H => ?_
  refine zA (zB (zG H rfl (zE (zB (zC (zD ?_))))))
  refine kR 1 H rfl fun a H => ?_
  refine kV (v := .agg (pv x.p)) H (r_row (cs := pcell x.p) (H.ev rfl) (ac_p k0) (by kernel_rfl) (by rw [pcell_len hok.p]; exact s36) rfl) rfl fun a H => ?_
  refine op_alloc 36 (pv pk0) z36 fun w1 b1 hge hb k1 => ?_; have g1 := Nat.le_trans hall.size hge; have d0_1 : b0 < b1 := Nat.lt_of_lt_of_le k0.lt hge; replace k0 := Block.ups k0 hb; replace hall := hall.tr hb; clear hb; clear hge; refine kl H rfl fun a H => ?_
  refine op_store 36 (.tmp 3) (.tmp 14) b1 36 (pv x.p) _ (H.ev rfl) (H.ev rfl) k1 (s36p hok.p) (by rw [pv_size pk0_ok, pv_size hok.p]) (pv_one _) fun w' hb ho kq => ?_; clear k1; have k1 := kq; replace k0 := block_same k0 (ho _ (by omega)); replace hall := hall.trans (hb _ g1); clear hb ho; clear kq; refine kl0 H fun a H => ?_
  refine zA (zB (zC (zC (zD ?_))))
  refine kR 1 H rfl fun a H => ?_
  refine kV H (r_ld U3 rfl (H.ev rfl) (ac_do k0)) rfl fun a H => ?_
  by_cases hcc1 : (x.d) = 6
  ·
   refine kV H (r_eq U3 (H.ev rfl) evc (dec_t (hcc1))) rfl fun a H => ?_
   refine zA (zB (zH H rfl (zC (zD ?_))))
   refine kR 1 H rfl fun a H => ?_
   refine kV (v := .agg (barr x.k)) H (r_row (cs := x.k.map u8v) (H.ev rfl) (ac_k k0 hok) (by kernel_rfl) (by rw [List.length_map, hok.k]; exact s33a) rfl) rfl fun a H => ?_
   refine kV (v := .agg (pv x.p)) H (run_load_row b1 36 _ _ (H.ev rfl) k1 U36 rfl (s36p hok.p)) rfl fun a H => ?_
   refine wl_call _ _ _ (rsign_any _ x.k x.p hok.k hok.p) (r_call2 cf43 (H.ev rfl) (H.ev rfl)) ?_; rintro e w9 ⟨rfl, hb⟩; refine ⟨_, rfl, ?_⟩; replace k0 := Block.ups k0 hb; replace k1 := Block.ups k1 hb; replace hall := hall.tr hb; clear hb; refine kl H rfl fun a H => ?_
   refine kR 3 H rfl fun a H => ?_
   refine op_alloc 36 (pv pk0) z36 fun w2 b2 hge hb k2 => ?_; have g2 := Nat.le_trans hall.size hge; have d0_2 : b0 < b2 := Nat.lt_of_lt_of_le k0.lt hge; have d1_2 : b1 < b2 := Nat.lt_of_lt_of_le k1.lt hge; replace k0 := Block.ups k0 hb; replace k1 := Block.ups k1 hb; replace hall := hall.tr hb; clear hb; clear hge; refine kl H rfl fun a H => ?_
   refine op_store 36 (.tmp 4) (.tmp 23) b2 36 (pv (sigP x.k x.p)) _ (H.ev rfl) (H.ev rfl) k2 (s36p (show (sigP x.k x.p).ok from sgn_ok hok.p)) (by rw [pv_size pk0_ok, pv_size (show (sigP x.k x.p).ok from sgn_ok hok.p)]) (pv_one _) fun w' hb ho kq => ?_; clear k2; have k2 := kq; replace k0 := block_same k0 (ho _ (by omega)); replace k1 := block_same k1 (ho _ (by omega)); replace hall := hall.trans (hb _ g2); clear hb ho; clear kq; refine kl0 H fun a H => ?_
   refine kR 1 H rfl fun a H => ?_
   refine zA (zB (zD ?_))
   refine kV (v := .agg (pv (sigP x.k x.p))) H (run_load_row b2 36 _ _ (H.ev rfl) k2 U36 rfl (s36p (show (sigP x.k x.p).ok from sgn_ok hok.p))) rfl fun a H => ?_
   refine op_store 36 (.tmp 3) (.tmp 25) b1 36 (pv (sigP x.k x.p)) _ (H.ev rfl) (H.ev rfl) k1 (s36p (show (sigP x.k x.p).ok from sgn_ok hok.p)) (by rw [pv_size hok.p, pv_size (show (sigP x.k x.p).ok from sgn_ok hok.p)]) (pv_one _) fun w' hb ho kq => ?_; clear k1; have k1 := kq; replace k0 := block_same k0 (ho _ (by omega)); replace k2 := block_same k2 (ho _ (by omega)); replace hall := hall.trans (hb _ g1); clear hb ho; clear kq; refine kl0 H fun a H => ?_
   refine zA (zB (zC (zD ?_)))
   refine kV (v := .agg (pv (sigP x.k x.p))) H (run_load_row b1 36 _ _ (H.ev rfl) k1 U36 rfl (s36p (show (sigP x.k x.p).ok from sgn_ok hok.p))) rfl fun a H => ?_
   refine wl_call _ _ _ (renc_b _ (sigP x.k x.p) (show (sigP x.k x.p).ok from sgn_ok hok.p)) (r_call1 cf39 (H.ev rfl)) ?_; rintro e w9 ⟨⟨v, rfl, hv⟩, hb⟩; refine ⟨_, rfl, ?_⟩; replace k0 := Block.ups k0 hb; replace k1 := Block.ups k1 hb; replace k2 := Block.ups k2 hb; replace hall := hall.tr hb; clear hb; refine kl H rfl fun a H => ?_
   refine kR 5 H rfl fun a H => ?_
   refine zA (zB (zC (zD ?_)))
   refine kR 2 H rfl fun a H => ?_
   refine zA (zB (zF ?_))
   exact k_ret1 H rfl rfl ⟨⟨_, rfl, by rw [inputF, if_neg (by omega), if_pos (by omega)]; exact hv⟩, hall⟩
  ·
   refine kV H (r_eq U3 (H.ev rfl) evc (dec_f (hcc1))) rfl fun a H => ?_
   refine zA (zB (zG H rfl (zE (zB (zC (zD ?_))))))
   refine kV (v := .agg (pv x.p)) H (run_load_row b1 36 _ _ (H.ev rfl) k1 U36 rfl (s36p hok.p)) rfl fun a H => ?_
   refine wl_call _ _ _ (renc_b _ x.p hok.p) (r_call1 cf39 (H.ev rfl)) ?_; rintro e w9 ⟨⟨v, rfl, hv⟩, hb⟩; refine ⟨_, rfl, ?_⟩; replace k0 := Block.ups k0 hb; replace k1 := Block.ups k1 hb; replace hall := hall.tr hb; clear hb; refine kl H rfl fun a H => ?_
   refine kR 5 H rfl fun a H => ?_
   refine zA (zB (zC (zD ?_)))
   refine kR 2 H rfl fun a H => ?_
   refine zA (zB (zF ?_))
   exact k_ret1 H rfl rfl ⟨⟨_, rfl, by rw [inputF, if_neg (by omega), if_neg (by omega)]; exact hv⟩, hall⟩
end
section
theorem own_onlym {w w' : World} {B e size n b : Nat} {v : Value} {xs : List Value} {m : Option Nat} {vw : Int → Option Nt} (h : w.ownsRow B e size v n xs) (hb : b < B) (hm : MapAt w m vw) (ho : Only b m w w') : w'.ownsRow B e size v n xs := by
 refine ⟨h.1, ?_⟩
 rcases h.2 with h2 | ⟨g, cap, cur, rfl, hB, hg, hr⟩
 · exact .inl h2
 ·
  refine .inr ⟨g, cap, cur, rfl, hB, (ho.block g (by
   rcases Nat.lt_or_ge g w.heap.size with h | h
   · exact h
   · rw [Array.getElem?_eq_none h] at hg; cases hg) (by omega) (fun e => by
   subst e
   obtain ⟨_, _, ⟨es, cl, hq, _⟩, _⟩ := (show VMap w g vw from hm)
   rw [hq] at hg
   cases hg)).trans hg, hr⟩
theorem Outs.onlym {w w' : World} {B b : Nat} {v : Value} {L : List (List B8)} {m : Option Nat} {vw : Int → Option Nt} (h : Outs w B v L) (hb : b < B) (hm : MapAt w m vw) (ho : Only b m w w') : Outs w' B v L := by
 obtain ⟨vs, h1, h2, h3, h4⟩ := h
 exact ⟨vs, h1, own_onlym h2 hb hm ho, fun i x y hx hy => own_onlym (h3 i x y hx hy) hb hm ho, h4⟩
theorem Outs.shape {w : World} {B : Nat} {v : Value} {L : List (List B8)} (h : Outs w B v L) : ∃ A c, v = .slice A L.length c := by
 obtain ⟨vs, _, h2, _⟩ := h
 obtain ⟨A, c, rfl, _⟩ := own_slice h2
 exact ⟨A, c, rfl⟩
theorem Outs.head {w : World} {B n k : Nat} {A : Option Addr} {L : List (List B8)} (h : Outs w B (.slice A n k) L) (hn : 0 < n) : ∃ g, A = some ⟨g, 0, none⟩ := by
 obtain ⟨vs, h1, h2, _⟩ := h
 rcases h2.2 with ⟨e, h0⟩ | ⟨g, cap, cur, he, _⟩
 ·
  injection e with e1 e2
  omega
 ·
  injection he with e1
  exact ⟨g, e1⟩
theorem Outs.at {w : World} {B n k i g : Nat} {L : List (List B8)} {y : List B8} (h : Outs w B (.slice (some ⟨g, 0, none⟩) n k) L) (hy : L[i]? = some y) : ∃ x, w.cell? ⟨g, i, none⟩ = some x ∧ BRow w x y := by
 obtain ⟨vs, h1, h2, h3, h4⟩ := h
 have hi := (List.getElem?_eq_some_iff.1 hy).1
 rcases h2.2 with ⟨_, h0⟩ | ⟨g, cap, cur, he, hB, hg, hn, hcm, hsz, hcur⟩
 · omega
 ·
  injection he with e1 e2 e3
  injection e1 with e1
  injection e1 with e1
  subst e1
  obtain ⟨x, hx⟩ : ∃ x, vs[i]? = some x := ⟨_, List.getElem?_eq_getElem (by omega)⟩
  refine ⟨x, ?_, BOwn.row (h3 i _ _ hx hy)⟩
  rw [← hcur, List.getElem?_take_of_lt (by omega)] at hx
  unfold World.cell?
  rw [hg]
  simpa using hx
theorem tick_l [Lim] (w : World) (b : Nat) (m : Option Nat) (c c' : Cl) (L : List (List B8)) (n : Nat) (h : ClAt w b m c) (hn : L.length = n) (hL : tickO c = L) (hc : tickC c = c') : Calls Tryz.prog 15 #[.pointer (some ⟨b, 0, none⟩)] w fun e w' => (∃ A k, e = .returned (.slice A n k) ∧ ∃ B, b < B ∧ Outs w' B (.slice A n k) L) ∧ ClAt w' b m c' ∧ Only b m w w' := by
 subst hL hc hn
 exact (tick_any w b m c h).mono fun e w' ⟨⟨v, he, ho⟩, h2, h3⟩ => by
  obtain ⟨A, k, rfl⟩ := ho.shape
  exact ⟨⟨A, k, he, _, h.lt, ho⟩, h2, h3⟩
theorem step_l [Lim] (w : World) (b : Nat) (m : Option Nat) (c c' : Cl) (L : List (List B8)) (n : Nat) (h : ClAt w b m c) (hX : Lim.lim b ≤ w.heap.size) (hn : L.length = n) (vb : Value) (bs : List B8) (hbs : BRow w vb bs) (hbn : bs.length ≤ 1000000) (hL : stepO c bs = L) (hc : stepC c bs = c') : Calls Tryz.prog 23 #[.pointer (some ⟨b, 0, none⟩), vb] w fun e w' => (∃ A k, e = .returned (.slice A n k) ∧ ∃ B, b < B ∧ Outs w' B (.slice A n k) L) ∧ (∃ m', ClAt w' b m' c') ∧ Only b m w w' := by
 subst hL hc hn
 exact (step_any w b m c h vb bs hbs hbn hX).mono fun e w' ⟨⟨v, he, ho⟩, ⟨m', h2, _⟩, h3⟩ => by
  obtain ⟨A, k, rfl⟩ := ho.shape
  exact ⟨⟨A, k, he, _, h.lt, ho⟩, ⟨m', h2⟩, h3⟩
theorem start_l [Lim] (w : World) (b : Nat) (m : Option Nat) (c c' : Cl) (n : Int) (r : Bool) (h : ClAt w b m c) (hL : startB n = r) (hc : startF c n = c') : Calls Tryz.prog 17 #[.pointer (some ⟨b, 0, none⟩), .int .i64 n] w fun e w' => e = .returned (.bool r) ∧ (∃ m', ClAt w' b m' c') ∧ Only b m w w' := by
 subst hL hc
 exact (startc_any w b m c h n).mono fun e w' ⟨he, ⟨m', h2, _⟩, h3⟩ => ⟨he, ⟨m', h2⟩, h3⟩
theorem order_l [Lim] (w : World) (b : Nat) (m : Option Nat) (c c' : Cl) (o : Nt) (r : Bool) (h : ClAt w b m c) (hX : Lim.lim b ≤ w.heap.size) (hL : decide (¬ orderNo c o) = r) (hc : orderF c o = c') : Calls Tryz.prog 21 #[.pointer (some ⟨b, 0, none⟩), .agg (cN o)] w fun e w' => e = .returned (.bool r) ∧ ClAt w' b m c' ∧ Only b m w w' := by
 subst hL hc
 exact order_any w b m c h o hX
theorem new_l [Lim] (w : World) (u : Int) (c : Cl) (hc : clZ (clampU u) = c) : Calls Tryz.prog 13 #[.int .i64 u] w fun e w' => (∃ b, e = .returned (.pointer (some ⟨b, 0, none⟩)) ∧ w.heap.size ≤ b ∧ ClAt w' b none c) ∧ Below w.heap.size w w' := by
 subst hc
 exact (new_any w u).mono fun e w' ⟨⟨b, he, hg, hc⟩, hb⟩ => ⟨⟨b, he, hg, hc _⟩, hb⟩
theorem rdec_l (w : World) (v : Value) (bs : List B8) (p : Pkt) (x : Int) (hr : BRow w v bs) (hn : bs.length ≤ 1000000) (hp : decP bs = p ∧ decE bs = x) : Calls Tryz.prog 41 #[v] w fun e w' => e = .returned (.tuple #[.agg (pv p), .int .i64 x]) ∧ Below w.heap.size w w' := by
 rw [← hp.1, ← hp.2]
 exact rdec_any w v bs hr hn
theorem good_l (w : World) (k : List B8) (p : Pkt) (r : Bool) (hk : k.length = 16) (hp : p.ok) (hr : goodF k p = r) : Calls Tryz.prog 42 #[.agg (barr k), .agg (pv p)] w fun e w' => e = .returned (.bool r) ∧ Below w.heap.size w w' := by
 subst hr
 exact rgood_any w k p hk hp
theorem state_l [Lim] (w : World) (b : Nat) (m : Option Nat) (c : Cl) (x : Int) (h : ClAt w b m c) (hx : c.state = x) : Calls Tryz.prog 27 #[.pointer (some ⟨b, 0, none⟩)] w fun e w' => e = .returned (.int .i64 x) ∧ Below w.heap.size w w' := by
 subst hx
 exact state_any w b m c h
theorem sess_l [Lim] (w : World) (b : Nat) (m : Option Nat) (c : Cl) (x : Int) (h : ClAt w b m c) (hx : sessF c = x) : Calls Tryz.prog 29 #[.pointer (some ⟨b, 0, none⟩)] w fun e w' => e = .returned (.int .i64 x) ∧ Below w.heap.size w w' := by
 subst hx
 exact session_any w b m c h
theorem waits_l [Lim] (w : World) (b : Nat) (m : Option Nat) (c : Cl) (x : Int) (h : ClAt w b m c) (hx : ((c.os.length : Nat) : Int) = x) : Calls Tryz.prog 31 #[.pointer (some ⟨b, 0, none⟩)] w fun e w' => e = .returned (.int .i64 x) ∧ Below w.heap.size w w' := by
 subst hx
 exact waits_any w b m c h
theorem last_l [Lim] (w : World) (b : Nat) (m : Option Nat) (c : Cl) (x : Int) (h : ClAt w b m c) (hx : c.code = x) : Calls Tryz.prog 33 #[.pointer (some ⟨b, 0, none⟩)] w fun e w' => e = .returned (.int .i64 x) ∧ Below w.heap.size w w' := by
 subst hx
 exact last_any w b m c h
theorem view_l [Lim] (w : World) (b : Nat) (m : Option Nat) (c : Cl) (u : Int) (n : Nt) (r : Bool) (h : ClAt w b m c) (hwf : -9223372036854775808 ≤ u ∧ u ≤ 9223372036854775807) (hn : (c.vw u).getD note0 = n) (hr : (c.vw u).isSome = r) : Calls Tryz.prog 35 #[.pointer (some ⟨b, 0, none⟩), .int .i64 u] w fun e w' => e = .returned (.tuple #[.agg (cN n), .bool r]) ∧ Below w.heap.size w w' := by
 subst hn hr
 refine view_any w b m c h u ?_
 simp [Lit.wf, IntKind.min, IntKind.max, IntKind.signed, IntKind.bits]
 omega
theorem input_l (w : World) (x : Ac) (vb : Value) (bs : List B8) (hok : AcOk x) (hvb : BRow w vb x.b) (h : inputF x = bs) : Calls Tryz.prog 24 #[.agg (acV x vb)] w fun e w' => (∃ v, e = .returned v ∧ BRow w' v bs) ∧ Below w.heap.size w w' := by
 subst h
 exact input_any w x vb hok hvb
theorem ClAt.down [Lim] {w w1 w2 : World} {b B : Nat} {m : Option Nat} {c : Cl} (h : ClAt w1 b m c) (hW : Below B w w1) (hb : B ≤ b) (hB : B ≤ w1.heap.size) (ho : Only b m w1 w2) : Below B w w2 := ho.down hW hb hB h.mb
def n0 : Nt := (0, 0, 0, 0)
abbrev actP (d : Int) (k : List B8) (p : Pkt) : Ac := ⟨d, 0, [], n0, p, k⟩
theorem actP_ok {d : Int} {k : List B8} {p : Pkt} (hp : p.ok) (hk : k.length = 16) : AcOk (actP d k p) := ⟨by unfold i64; show (_ : Int) ≤ 0 ∧ (0 : Int) ≤ _; omega, hp, hk⟩
section
variable {d : Option Tmp} {tt : TypeId} {ps : String} {af : Array Edge} {gd : Option (Nat × Bool)} {a : Act} {w : World} {x1 x3 x4 x5 x10 x11 x12 : Operand}
set_option maxRecDepth 100000 in
theorem r_act5 {p : Pkt} (hp : p.ok) (h4 : a.eval x4 = .agg (pv p)) :
  (execOp a.eval ⟨d, .build 38 #[(0, .const (.int .i64 5)), (4, x4)], tt, ps, af, gd⟩).run Tryz.prog w = .ok (.value (.agg (acV (actP 5 Z16 p) (.slice none 0 0)))) w := by
 obtain ⟨n, s, t⟩ := p
 obtain ⟨a0, a1, a2, a3, a4, a5, a6, a7, a8, a9, a10, a11, rfl⟩ := len12 hp.1
 obtain ⟨s0, s1, s2, s3, s4, s5, s6, s7, s8, s9, s10, s11, s12, s13, s14, s15, rfl⟩ := len16 hp.2.1
 obtain ⟨t0, t1, t2, t3, t4, t5, t6, t7, rfl⟩ := len8 hp.2.2.1
 exact r_build #[(0, .int .i64 5), (4, .agg (pv ⟨[a0, a1, a2, a3, a4, a5, a6, a7, a8, a9, a10, a11], [s0, s1, s2, s3, s4, s5, s6, s7, s8, s9, s10, s11, s12, s13, s14, s15], [t0, t1, t2, t3, t4, t5, t6, t7]⟩))] _ (by rw [← h4]; simp [evc]) (fun w => by kernel_rfl)
set_option maxRecDepth 100000 in
theorem r_act6 {p : Pkt} {k : List B8} (hp : p.ok) (hk : k.length = 16) (h5 : a.eval x5 = .agg (barr k)) (h4 : a.eval x4 = .agg (pv p)) :
  (execOp a.eval ⟨d, .build 38 #[(0, .const (.int .i64 6)), (5, x5), (4, x4)], tt, ps, af, gd⟩).run Tryz.prog w = .ok (.value (.agg (acV (actP 6 k p) (.slice none 0 0)))) w := by
 obtain ⟨n, s, t⟩ := p
 obtain ⟨a0, a1, a2, a3, a4, a5, a6, a7, a8, a9, a10, a11, rfl⟩ := len12 hp.1
 obtain ⟨s0, s1, s2, s3, s4, s5, s6, s7, s8, s9, s10, s11, s12, s13, s14, s15, rfl⟩ := len16 hp.2.1
 obtain ⟨t0, t1, t2, t3, t4, t5, t6, t7, rfl⟩ := len8 hp.2.2.1
 obtain ⟨k0, k1, k2, k3, k4, k5, k6, k7, k8, k9, k10, k11, k12, k13, k14, k15, rfl⟩ := len16 hk
 exact r_build #[(0, .int .i64 6), (5, .agg (barr [k0, k1, k2, k3, k4, k5, k6, k7, k8, k9, k10, k11, k12, k13, k14, k15])), (4, .agg (pv ⟨[a0, a1, a2, a3, a4, a5, a6, a7, a8, a9, a10, a11], [s0, s1, s2, s3, s4, s5, s6, s7, s8, s9, s10, s11, s12, s13, s14, s15], [t0, t1, t2, t3, t4, t5, t6, t7]⟩))] _ (by rw [← h4, ← h5]; simp [evc]) (fun w => by kernel_rfl)
def cookP (n e : Int) (k : List B8) : Pkt := ⟨[2, 0, 0, 0, 0, 0, 0, 0, 0, 0, n, e], k, Z8⟩
def accP (i n : Int) (k : List B8) : Pkt := ⟨[4, i, 0, 0, 0, 0, 0, 0, 0, 0, n, 0], k, Z8⟩
def noteP (i q : Int) (n : Nt) : Pkt := ⟨[8, i, q, n.1, 0, n.2.2.1, n.2.2.2, n.2.1, 0, 0, 0, 0], Z16, Z8⟩
def replP (i q c : Int) : Pkt := ⟨[11, i, q, 0, c, 0, 0, 0, 0, 0, 0, 0], Z16, Z8⟩
set_option maxRecDepth 100000 in
theorem r_cook {n e : Int} {k : List B8} (hk : k.length = 16) (h10 : a.eval x10 = .int .i64 n) (h11 : a.eval x11 = .int .i64 e) (h12 : a.eval x12 = .agg (barr k)) :
  (execOp a.eval ⟨d, .build 36 #[(0, .const (.int .i64 2)), (10, x10), (11, x11), (12, x12)], tt, ps, af, gd⟩).run Tryz.prog w = .ok (.value (.agg (pv (cookP n e k)))) w := by
 obtain ⟨s0, s1, s2, s3, s4, s5, s6, s7, s8, s9, s10, s11, s12, s13, s14, s15, rfl⟩ := len16 hk
 exact r_build #[(0, .int .i64 2), (10, .int .i64 n), (11, .int .i64 e), (12, .agg (barr [s0, s1, s2, s3, s4, s5, s6, s7, s8, s9, s10, s11, s12, s13, s14, s15]))] _ (by simp [evc, h10, h11, h12]) (fun w => by kernel_rfl)
set_option maxRecDepth 100000 in
theorem r_acc {i n : Int} {k : List B8} (hk : k.length = 16) (h1 : a.eval x1 = .int .i64 i) (h10 : a.eval x10 = .int .i64 n) (h12 : a.eval x12 = .agg (barr k)) :
  (execOp a.eval ⟨d, .build 36 #[(0, .const (.int .i64 4)), (1, x1), (10, x10), (12, x12)], tt, ps, af, gd⟩).run Tryz.prog w = .ok (.value (.agg (pv (accP i n k)))) w := by
 obtain ⟨s0, s1, s2, s3, s4, s5, s6, s7, s8, s9, s10, s11, s12, s13, s14, s15, rfl⟩ := len16 hk
 exact r_build #[(0, .int .i64 4), (1, .int .i64 i), (10, .int .i64 n), (12, .agg (barr [s0, s1, s2, s3, s4, s5, s6, s7, s8, s9, s10, s11, s12, s13, s14, s15]))] _ (by simp [evc, h1, h10, h12]) (fun w => by kernel_rfl)
end
theorem r_eqpnil {d : Option Tmp} {tt t2 : TypeId} {ps : String} {af : Array Edge} {gd : Option (Nat × Bool)} {a : Act} {w : World} {x : Operand} {A : Option Addr} {r : Bool} (hx : a.eval x = .pointer A) (hr : A.isNone = r) :
  (execOp a.eval ⟨d, .binOp .eql 25 x (.const (.pointer none)) t2, tt, ps, af, gd⟩).run Tryz.prog w = .ok (.value (.bool r)) w := by
 subst hr
 have h := run_eql_pointer_nil (P := Tryz.prog) w 25 A (by kernel_rfl)
 unfold execOp
 simp only [hx]
 go_simp
theorem hh49 : Tryz.prog.stoodInHeld 49 = false := by kernel_rfl
theorem g49 : Tryz.prog.eqGuardType Tryz.prog.depth 49 = false := by kernel_rfl
theorem eq49 (x y : Nt) (w : World) : (Op.equalIn 10000 49 (.agg #[.int .i64 x.1, .int .i64 x.2.1, .int .i64 x.2.2.1, .int .i64 x.2.2.2]) (.agg #[.int .i64 y.1, .int .i64 y.2.1, .int .i64 y.2.2.1, .int .i64 y.2.2.2])).run Tryz.prog w = .ok (decide (x = y)) w := by
 have h0 := hh49
 have u32 := U49
 have u3 := U3
 obtain ⟨a1, a2, a3, a4⟩ := x
 obtain ⟨b1, b2, b3, b4⟩ := y
 go_simp
 by_cases e0 : a1 = b1 <;> by_cases e1 : a2 = b2 <;> by_cases e2 : a3 = b3 <;> by_cases e3 : a4 = b4 <;> simp [e0, e1, e2, e3]
theorem r_eq49 {a : Act} {w : World} {d : Option Tmp} {tt t2 : TypeId} {ps : String} {af : Array Edge} {gd : Option (Nat × Bool)} {p q : Operand} {x y : Nt} {r : Bool} (hx : a.eval p = .agg (cN x)) (hy : a.eval q = .agg (cN y)) (hr : decide (x = y) = r) :
  (execOp a.eval ⟨d, .binOp .eql 49 p q t2, tt, ps, af, gd⟩).run Tryz.prog w = .ok (.value (.bool r)) w := by
 subst hr
 have hg := g49
 have heq := fun w => eq49 x y w
 unfold execOp
 simp only [hx, hy]
 go_simp
theorem z33 : (Tryz.prog.info? 33).map (·.zero) = some (some (.agg (barr (List.replicate 16 0)))) := by kernel_rfl
theorem lit_ok {a0 a1 a2 a3 a4 a5 a6 a7 a8 a9 a10 a11 : Int} {k t : List B8} (hk : k.length = 16) (ht : t.length = 8) (h : (i64 a0 ∧ i64 a1 ∧ i64 a2 ∧ i64 a3 ∧ i64 a4 ∧ i64 a5) ∧ i64 a6 ∧ i64 a7 ∧ i64 a8 ∧ i64 a9 ∧ i64 a10 ∧ i64 a11) : (⟨[a0, a1, a2, a3, a4, a5, a6, a7, a8, a9, a10, a11], k, t⟩ : Pkt).ok := by
 refine ⟨rfl, hk, ht, fun x hx => ?_⟩
 simp only [i64] at h
 simp only [List.mem_cons, List.not_mem_nil, or_false] at hx
 omega
theorem cook_pok {n e : Int} {k : List B8} (hk : k.length = 16) (hn : i64 n) (he : i64 e) : (cookP n e k).ok := lit_ok hk rfl (by unfold i64 at *; omega)
theorem acc_pok {i n : Int} {k : List B8} (hk : k.length = 16) (hi : i64 i) (hn : i64 n) : (accP i n k).ok := lit_ok hk rfl (by unfold i64 at *; omega)
end
theorem step_enc {c : Cl} {p : Pkt} (hp : p.ok) (hr : rightF p = true) : stepC c (encF p) = gotC c p ∧ stepO c (encF p) = gotO c p := by
 obtain ⟨h1, h2⟩ := dec_enc hp hr
 exact ⟨by rw [stepC, if_pos h2, h1], by rw [stepO, if_pos h2, h1]⟩
theorem step_sign {c : Cl} {k : List B8} {p : Pkt} (hp : p.ok) (h : signOk p = true) : stepC c (encF (signF k p)) = gotC c (signF k p) ∧ stepO c (encF (signF k p)) = gotO c (signF k p) := step_enc (signF_ok hp) (right_tag h)
theorem own_sign {c : Cl} {p : Pkt} (h : signOk p = true) (hs : c.state = 3) (hi : p.fld 1 = c.id) : ownF c (signF c.key p) = true := by
 rw [ownF, sign_good h, Bool.and_true]
 exact decide_eq_true ⟨hs, hi⟩
def sk : List B8 := [9#8, 0#8, 0#8, 0#8, 0#8, 0#8, 0#8, 0#8, 0#8, 0#8, 0#8, 0#8, 0#8, 0#8, 0#8, 0#8]
theorem sk_len : sk.length = 16 := rfl
def S0 : Cl := clZ 4
def S1 : Cl := { S0 with nonce := 7, state := 1 }
def S2 : Cl := { S1 with now := 1, ask := 5 }
def S3 : Cl := { S2 with now := 2 }
def S4 : Cl := { S3 with epoch := 2, ck := sk, state := 2, ask := 6 }
def S5 : Cl := { S4 with state := 3, id := 3, key := sk, beats := 0, seq := 0, beat := 2, say := 2, next := 1, items := [] }
def S6 : Cl := { S5 with os := [(6, 2, 0, 0)] }
def S7 : Cl := { S6 with now := 3, beats := 1, beat := 7, say := 7 }
def S8 : Cl := { S7 with next := 2, vw := updV (fun _ => none) (5, 8, 1, 1) }
def S9 : Cl := { S8 with os := [], seq := 1, say := 3, code := 8 }
def pBt : Pkt := ⟨[5, 3, 1, 0, 0, 0, 0, 0, 0, 0, 0, 0], Z16, Z8⟩
def pSt : Pkt := ⟨[6, 3, 1, 0, 0, 2, 0, 0, 0, 0, 0, 0], Z16, Z8⟩
def pAk : Pkt := ⟨[9, 3, 0, 0, 0, 0, 0, 0, 1, 0, 0, 0], Z16, Z8⟩
def pNo : Pkt := noteP 3 1 (5, 8, 1, 1)
def pRe : Pkt := replP 3 1 8
theorem so_Bt : signOk pBt = true := sok_of (fun t => right_beat (by omega) (by omega)) (by decide)
theorem so_St : signOk pSt = true := sok_of (fun t => right_status (by omega) (by omega) (by omega)) (by decide)
theorem so_Ak : signOk pAk = true := sok_of (fun t => right_ack (by omega) (by omega) (by omega)) (by decide)
theorem so_No : signOk pNo = true := sok_of (fun t => right_note (by decide) (by decide) (by decide) (by decide) (by decide) (by decide)) (by decide)
theorem so_Re : signOk pRe = true := sok_of (fun t => right_reply (by decide) (by decide) (by decide)) (by decide)
theorem ok_Bt : pBt.ok := lit_ok rfl rfl (by unfold i64; omega)
theorem ok_St : pSt.ok := lit_ok rfl rfl (by unfold i64; omega)
theorem ok_Ak : pAk.ok := lit_ok rfl rfl (by unfold i64; omega)
theorem ok_No : pNo.ok := lit_ok rfl rfl (by unfold i64; decide)
theorem ok_Re : pRe.ok := lit_ok rfl rfl (by unfold i64; decide)
theorem ok_Ck : (cookP 7 2 sk).ok := cook_pok sk_len (by unfold i64; omega) (by unfold i64; omega)
theorem ok_Ac : (accP 3 7 sk).ok := acc_pok sk_len (by unfold i64; omega) (by unfold i64; omega)
theorem ok_He : (helloP 7).ok := lit_ok rfl rfl (by unfold i64; omega)
theorem ok_Co : (connP 4 7 2 sk).ok := lit_ok rfl rfl (by unfold i64; omega)
theorem ri_Ck : rightF (cookP 7 2 sk) = true := right_cookie (by omega) (by omega)
theorem ri_Ac : rightF (accP 3 7 sk) = true := right_acc (by omega) (by omega)
theorem ri_He : rightF (helloP 7) = true := right_hello (by omega)
theorem ri_Co : rightF (connP 4 7 2 sk) = true := right_conn (by omega) (by omega) (by omega)
theorem sc0 : clZ (clampU 4) = S0 := rfl
theorem sc1 : startF S0 7 = S1 := rfl
theorem sc2 : tickC S1 = S2 := rfl
theorem st2 : tickO S1 = [encF (helloP 7)] := by
 rw [← raw_yes ri_He]
 rfl
theorem sc3 : tickC S2 = S3 := rfl
theorem st3 : tickO S2 = [] := rfl
theorem sc4 : stepC S3 (encF (cookP 7 2 sk)) = S4 := by
 rw [(step_enc ok_Ck ri_Ck).1]
 rfl
theorem st4 : stepO S3 (encF (cookP 7 2 sk)) = [encF (connP 4 7 2 sk)] := by
 rw [(step_enc ok_Ck ri_Ck).2, ← raw_yes ri_Co]
 rfl
theorem sc5 : stepC S4 (encF (accP 3 7 sk)) = S5 := by
 rw [(step_enc ok_Ac ri_Ac).1]
 rfl
theorem st5 : stepO S4 (encF (accP 3 7 sk)) = [] := by
 rw [(step_enc ok_Ac ri_Ac).2]
 rfl
theorem sc6 : orderF S5 (6, 2, 0, 0) = S6 := if_neg (by decide)
theorem st6 : decide (¬ orderNo S5 (6, 2, 0, 0)) = true := by decide
theorem sc7 : tickC S6 = S7 := rfl
theorem st7 : tickO S6 = [encF (signF sk pBt), encF (signF sk pSt)] := by
 have h1 : sgnF (timeC S6) (beatP 1) = [encF (signF sk pBt)] := sgn_yes (c := timeC S6) (p := beatP 1) so_Bt
 have h2 : sgnF (beatC (timeC S6)) (ordP (6, 2, 0, 0) 1) = [encF (signF sk pSt)] := sgn_yes (c := beatC (timeC S6)) (p := ordP (6, 2, 0, 0) 1) so_St
 show sgnF (timeC S6) (beatP 1) ++ sgnF (beatC (timeC S6)) (ordP (6, 2, 0, 0) 1) = _
 rw [h1, h2]
 rfl
theorem own8 : ownF S7 (signF sk pNo) = true := own_sign (c := S7) so_No rfl rfl
theorem sc8 : stepC S7 (encF (signF sk pNo)) = S8 := by
 rw [(step_sign ok_No so_No).1]
 show notC S7 (signF sk pNo) = S8
 rw [notC, if_pos own8]
 show toldC S7 (signF sk pNo) = S8
 have h : takeF 1 [] (1, 5, 8, 1, 1) = ((2, []), [(5, 8, 1, 1)]) := by
  rw [take_open (by decide) (by decide) (by decide) (by decide) (by decide)]
  rfl
 show ({ S7 with next := (takeF 1 [] (1, 5, 8, 1, 1)).1.1, items := (takeF 1 [] (1, 5, 8, 1, 1)).1.2, vw := (takeF 1 [] (1, 5, 8, 1, 1)).2.foldl belF S7.vw } : Cl) = S8
 rw [h]
 rfl
theorem st8 : stepO S7 (encF (signF sk pNo)) = [encF (signF sk pAk)] := by
 have h8 := sc8
 rw [(step_sign ok_No so_No).1] at h8
 have h8' : toldC S7 (signF sk pNo) = S8 := by
  have : notC S7 (signF sk pNo) = S8 := h8
  rwa [notC, if_pos own8] at this
 rw [(step_sign ok_No so_No).2]
 show notO S7 (signF sk pNo) = _
 rw [notO, if_pos own8, h8']
 have h : ackF S8.next S8.items = (1, 0) := by decide
 rw [h]
 exact sgn_yes (c := S8) (p := ackP 1 0) so_Ak
theorem own9 : ownF S8 (signF sk pRe) = true := own_sign (c := S8) so_Re rfl rfl
theorem sc9 : stepC S8 (encF (signF sk pRe)) = S9 := by
 rw [(step_sign ok_Re so_Re).1]
 show repC S8 (signF sk pRe) = S9
 show (if ownF S8 (signF sk pRe) = true ∧ (signF sk pRe).fld 2 = S8.seq + 1 then repC1 S8 (signF sk pRe) (6, 2, 0, 0) [] else S8) = S9
 rw [if_pos ⟨own9, rfl⟩]
 rfl
theorem st9 : stepO S8 (encF (signF sk pRe)) = [] := by
 rw [(step_sign ok_Re so_Re).2]
 rfl
theorem enc_of {p : Pkt} (h : rightF p = true) : encB p = encF p := if_pos h
theorem inp5 {p : Pkt} (h : rightF p = true) : inputF (actP 5 Z16 p) = encF p := by
 rw [inputF, if_neg (show ¬ (5 : Int) = 1 by decide), if_neg (show ¬ (5 : Int) = 6 by decide)]
 exact enc_of h
theorem inp6 {p : Pkt} {k : List B8} (h : signOk p = true) : inputF (actP 6 k p) = encF (signF k p) := by
 rw [inputF, if_neg (show ¬ (6 : Int) = 1 by decide), if_pos (show (6 : Int) = 6 by decide)]
 show encB (sigP k p) = _
 rw [sigP, if_pos h]
 exact enc_of (right_tag h)
set_option maxRecDepth 100000 in
set_option maxHeartbeats 4000000 in
theorem small_any (w : World) : Calls Tryz.prog 11 #[] w fun e w' => e = .returned (.bool true) ∧ Below w.heap.size w w' := by
 have hall := Below.refl w.heap.size w
 refine K_enter 207 Tryz.func11 rfl rfl fun a H => ?_
 replace H := H.pick []
 refine zC (zD ?_)
 refine kR 1 H rfl fun a H => ?_
 refine zA (zB (zC (zD ?_)))
 refine wl_call _ _ _ (new_l _ 4 S0 sc0) (r_call1 cf13 evc) ?_; rintro e w9 ⟨⟨bcl, rfl, hge, hcl⟩, hb⟩; refine ⟨_, rfl, ?_⟩; have ghcl : _ ≤ bcl := Nat.le_trans hall.size hge; replace hall := hall.tr hb; clear hb; clear hge; refine kl H rfl fun a H => ?_
 refine kR 1 H rfl fun a H => ?_
 refine zA (zB (zC (zC (zD ?_))))
 refine kR 1 H rfl fun a H => ?_
 refine kV H (r_eqpnil (H.ev rfl) rfl) rfl fun a H => ?_
 refine zA (zB (zG H rfl (zE (zB (zC (zD ?_))))))
 refine kR 1 H rfl fun a H => ?_
 refine wl_call _ _ _ (start_l _ _ _ S0 S1 7 true hcl rfl sc1) (r_call2 cf17 (H.ev rfl) evc) ?_; rintro e w9 ⟨rfl, ⟨m9, hc9⟩, hon⟩; refine ⟨_, rfl, ?_⟩; replace hall := ClAt.down hcl hall ghcl hall.size hon; clear hcl; have hcl := hc9; clear hc9 hon; refine kl H rfl fun a H => ?_
 refine kR 1 H rfl fun a H => ?_
 refine zA (zB (zC (zD ?_)))
 refine kR 1 H rfl fun a H => ?_
 refine wl_call _ _ _ (tick_l _ _ _ S1 S2 [encF (helloP 7)] 1 hcl rfl st2 sc2) (r_call1 cf15 (H.ev rfl)) ?_; rintro e w9 ⟨⟨A0, q0, rfl, B0, hB0, ho0⟩, hc9, hon⟩; refine ⟨_, rfl, ?_⟩; replace hall := ClAt.down hcl hall ghcl hall.size hon; clear hcl; have hcl := hc9; clear hc9 hon; obtain ⟨o0, ho9⟩ := Outs.head ho0 (by omega); subst ho9; refine kl H rfl fun a H => ?_
 refine kR 1 H rfl fun a H => ?_
 refine zA (zB (zC (zD ?_)))
 refine kR 1 H rfl fun a H => ?_
 refine wl_call _ _ _ (tick_l _ _ _ S2 S3 [] 0 hcl rfl st3 sc3) (r_call1 cf15 (H.ev rfl)) ?_; rintro e w9 ⟨⟨A1, q1, rfl, B1, hB1, ho1⟩, hc9, hon⟩; refine ⟨_, rfl, ?_⟩; replace ho0 := Outs.onlym ho0 hB0 hcl.mp hon; replace hall := ClAt.down hcl hall ghcl hall.size hon; clear hcl; have hcl := hc9; clear hc9 hon; clear ho1 hB1; refine kl H rfl fun a H => ?_
 refine kR 1 H rfl fun a H => ?_
 refine zA (zB (zC (zD ?_)))
 refine kV (v := .agg (barr sk)) H (r_build #[(0, .int .u8 9)] (.agg (barr sk)) (by simp [evc]) (fun w => by kernel_rfl)) rfl fun a H => ?_
 refine op_new 33 5 (.tmp 31) (barr sk) _ z33 (by rw [barr_size, sk_len]; exact s33a) (by rw [barr_size, barr_size, sk_len]; rfl) (barr_one _) (fun p => (H.put 5 p rfl).ev rfl) (fun p => (H.put 5 p rfl).ev rfl) fun w0 b0 hge hb k0 => ?_; have g0 := Nat.le_trans hall.size hge; have dhcl_0 : bcl < b0 := Nat.lt_of_lt_of_le hcl.lt hge; replace hcl := ClAt.up hcl hb; replace ho0 := Outs.up ho0 hb; replace hall := hall.tr hb; clear hb; clear hge; refine kl H rfl fun a H => ?_
 refine zA (zB (zC (zD ?_)))
 refine kR 1 H rfl fun a H => ?_
 refine kV H (run_load_row b0 33 _ _ (H.ev rfl) k0 U33 rfl (by rw [barr_size, sk_len]; exact s33a)) rfl fun a H => ?_
 refine kV (v := .agg (pv (cookP 7 2 sk))) H (r_cook sk_len evc evc (H.ev rfl)) rfl fun a H => ?_
 refine wl_v (.agg (acV (actP 5 Z16 (cookP 7 2 sk)) (.slice none 0 0))) (r_act5 ok_Ck (H.ev rfl)) ?_; refine kl H rfl fun a H => ?_
 refine wl_call _ _ _ (input_l _ (actP 5 Z16 (cookP 7 2 sk)) _ (encF (cookP 7 2 sk)) (actP_ok ok_Ck rfl) (brow_nil _) (inp5 ri_Ck)) (r_call1 cf24 (H.ev rfl)) ?_; rintro e w9 ⟨⟨v9, rfl, hv⟩, hb⟩; refine ⟨_, rfl, ?_⟩; replace hcl := ClAt.up hcl hb; replace ho0 := Outs.up ho0 hb; replace k0 := Block.ups k0 hb; replace hall := hall.tr hb; clear hb; refine kl H rfl fun a H => ?_
 refine wl_call _ _ _ (step_l _ _ _ S3 S4 [encF (connP 4 7 2 sk)] 1 hcl (Nat.succ_le_of_lt hcl.lt) rfl _ (encF (cookP 7 2 sk)) hv (Nat.le_trans (encF_len _ ok_Ck) (by omega)) st4 sc4) (r_call2 cf23 (H.ev rfl) (H.ev rfl)) ?_; rintro e w9 ⟨⟨A2, q2, rfl, B2, hB2, ho2⟩, ⟨m9, hc9⟩, hon⟩; refine ⟨_, rfl, ?_⟩; replace ho0 := Outs.onlym ho0 hB0 hcl.mp hon; replace k0 := Block.onlym k0 (by omega) hcl.mp hon; clear hv; replace hall := ClAt.down hcl hall ghcl hall.size hon; clear hcl; have hcl := hc9; clear hc9 hon; obtain ⟨o2, ho9⟩ := Outs.head ho2 (by omega); subst ho9; refine kl H rfl fun a H => ?_
 refine kR 1 H rfl fun a H => ?_
 refine zA (zB (zC (zD ?_)))
 refine kR 1 H rfl fun a H => ?_
 refine kV H (run_load_row b0 33 _ _ (H.ev rfl) k0 U33 rfl (by rw [barr_size, sk_len]; exact s33a)) rfl fun a H => ?_
 refine kV (v := .agg (pv (accP 3 7 sk))) H (r_acc sk_len evc evc (H.ev rfl)) rfl fun a H => ?_
 refine wl_v (.agg (acV (actP 5 Z16 (accP 3 7 sk)) (.slice none 0 0))) (r_act5 ok_Ac (H.ev rfl)) ?_; refine kl H rfl fun a H => ?_
 refine wl_call _ _ _ (input_l _ (actP 5 Z16 (accP 3 7 sk)) _ (encF (accP 3 7 sk)) (actP_ok ok_Ac rfl) (brow_nil _) (inp5 ri_Ac)) (r_call1 cf24 (H.ev rfl)) ?_; rintro e w9 ⟨⟨v9, rfl, hv⟩, hb⟩; refine ⟨_, rfl, ?_⟩; replace hcl := ClAt.up hcl hb; replace ho0 := Outs.up ho0 hb; replace k0 := Block.ups k0 hb; replace ho2 := Outs.up ho2 hb; replace hall := hall.tr hb; clear hb; refine kl H rfl fun a H => ?_
 refine wl_call _ _ _ (step_l _ _ _ S4 S5 [] 0 hcl (Nat.succ_le_of_lt hcl.lt) rfl _ (encF (accP 3 7 sk)) hv (Nat.le_trans (encF_len _ ok_Ac) (by omega)) st5 sc5) (r_call2 cf23 (H.ev rfl) (H.ev rfl)) ?_; rintro e w9 ⟨⟨A3, q3, rfl, B3, hB3, ho3⟩, ⟨m9, hc9⟩, hon⟩; refine ⟨_, rfl, ?_⟩; replace ho0 := Outs.onlym ho0 hB0 hcl.mp hon; replace k0 := Block.onlym k0 (by omega) hcl.mp hon; replace ho2 := Outs.onlym ho2 hB2 hcl.mp hon; clear hv; replace hall := ClAt.down hcl hall ghcl hall.size hon; clear hcl; have hcl := hc9; clear hc9 hon; clear ho3 hB3; refine kl H rfl fun a H => ?_
 refine zA (zB (zC (zD ?_)))
 refine kR 1 H rfl fun a H => ?_
 refine kV H (r_build #[(0, .int .i64 6), (1, .int .i64 2)] (.agg #[.int .i64 6, .int .i64 2, .int .i64 0, .int .i64 0]) (by simp [evc]) (fun w => by kernel_rfl)) rfl fun a H => ?_
 refine wl_call _ _ _ (order_l _ _ _ S5 S6 (6, 2, 0, 0) true hcl (Nat.succ_le_of_lt hcl.lt) st6 sc6) (r_call2 cf21 (H.ev rfl) (H.ev rfl)) ?_; rintro e w9 ⟨rfl, hc9, hon⟩; refine ⟨_, rfl, ?_⟩; replace ho0 := Outs.onlym ho0 hB0 hcl.mp hon; replace k0 := Block.onlym k0 (by omega) hcl.mp hon; replace ho2 := Outs.onlym ho2 hB2 hcl.mp hon; replace hall := ClAt.down hcl hall ghcl hall.size hon; clear hcl; have hcl := hc9; clear hc9 hon; refine kl H rfl fun a H => ?_
 refine kR 1 H rfl fun a H => ?_
 refine zA (zB (zC (zD ?_)))
 refine kR 1 H rfl fun a H => ?_
 refine wl_call _ _ _ (tick_l _ _ _ S6 S7 [encF (signF sk pBt), encF (signF sk pSt)] 2 hcl rfl st7 sc7) (r_call1 cf15 (H.ev rfl)) ?_; rintro e w9 ⟨⟨A4, q4, rfl, B4, hB4, ho4⟩, hc9, hon⟩; refine ⟨_, rfl, ?_⟩; replace ho0 := Outs.onlym ho0 hB0 hcl.mp hon; replace k0 := Block.onlym k0 (by omega) hcl.mp hon; replace ho2 := Outs.onlym ho2 hB2 hcl.mp hon; replace hall := ClAt.down hcl hall ghcl hall.size hon; clear hcl; have hcl := hc9; clear hc9 hon; obtain ⟨o4, ho9⟩ := Outs.head ho4 (by omega); subst ho9; refine kl H rfl fun a H => ?_
 refine kR 1 H rfl fun a H => ?_
 refine zA (zB (zC (zD ?_)))
 refine kR 1 H rfl fun a H => ?_
 refine kV H (run_load_row b0 33 _ _ (H.ev rfl) k0 U33 rfl (by rw [barr_size, sk_len]; exact s33a)) rfl fun a H => ?_
 refine kV (v := .agg (pv pNo)) H (r_build #[(0, .int .i64 8), (1, .int .i64 3), (2, .int .i64 1), (3, .int .i64 5), (7, .int .i64 8), (5, .int .i64 1), (6, .int .i64 1)] (.agg (pv pNo)) (by simp [evc]) (fun w => by kernel_rfl)) rfl fun a H => ?_
 refine wl_v (.agg (acV (actP 6 sk pNo) (.slice none 0 0))) (r_act6 ok_No sk_len (H.ev rfl) (H.ev rfl)) ?_; refine kl H rfl fun a H => ?_
 refine wl_call _ _ _ (input_l _ (actP 6 sk pNo) _ (encF (signF sk pNo)) (actP_ok ok_No rfl) (brow_nil _) (inp6 so_No)) (r_call1 cf24 (H.ev rfl)) ?_; rintro e w9 ⟨⟨v9, rfl, hv⟩, hb⟩; refine ⟨_, rfl, ?_⟩; replace hcl := ClAt.up hcl hb; replace ho0 := Outs.up ho0 hb; replace k0 := Block.ups k0 hb; replace ho2 := Outs.up ho2 hb; replace ho4 := Outs.up ho4 hb; replace hall := hall.tr hb; clear hb; refine kl H rfl fun a H => ?_
 refine wl_call _ _ _ (step_l _ _ _ S7 S8 [encF (signF sk pAk)] 1 hcl (Nat.succ_le_of_lt hcl.lt) rfl _ (encF (signF sk pNo)) hv (Nat.le_trans (encF_len _ (signF_ok ok_No)) (by omega)) st8 sc8) (r_call2 cf23 (H.ev rfl) (H.ev rfl)) ?_; rintro e w9 ⟨⟨A5, q5, rfl, B5, hB5, ho5⟩, ⟨m9, hc9⟩, hon⟩; refine ⟨_, rfl, ?_⟩; replace ho0 := Outs.onlym ho0 hB0 hcl.mp hon; replace k0 := Block.onlym k0 (by omega) hcl.mp hon; replace ho2 := Outs.onlym ho2 hB2 hcl.mp hon; replace ho4 := Outs.onlym ho4 hB4 hcl.mp hon; clear hv; replace hall := ClAt.down hcl hall ghcl hall.size hon; clear hcl; have hcl := hc9; clear hc9 hon; obtain ⟨o5, ho9⟩ := Outs.head ho5 (by omega); subst ho9; refine kl H rfl fun a H => ?_
 refine kR 1 H rfl fun a H => ?_
 refine zA (zB (zC (zC (zD ?_))))
 refine kR 1 H rfl fun a H => ?_
 refine kV H (r_len U29 (H.ev rfl)) rfl fun a H => ?_
 refine kV H (r_ne U3 (H.ev rfl) evc (dec_f (by omega))) rfl fun a H => ?_
 refine kR 2 H rfl fun a H => ?_
 refine kW H rfl (r_len U29 (H.ev rfl)) rfl fun a H => ?_
 refine kW H rfl (r_ne U3 (H.ev rfl) evc (dec_f (by omega))) rfl fun a H => ?_
 refine kR 3 H rfl fun a H => ?_
 refine kW H rfl (r_len U29 (H.ev rfl)) rfl fun a H => ?_
 refine kW H rfl (r_ne U3 (H.ev rfl) evc (dec_f (by omega))) rfl fun a H => ?_
 refine kR 3 H rfl fun a H => ?_
 refine kW H rfl (r_len U29 (H.ev rfl)) rfl fun a H => ?_
 refine kW H rfl (r_ne U3 (H.ev rfl) evc (dec_f (by omega))) rfl fun a H => ?_
 refine kR 1 H rfl fun a H => ?_
 refine zA (zB (zG H rfl (zE (zB (zC ?_)))))
 obtain ⟨x0_0, hx0_0, hr0_0⟩ := Outs.at ho0 (i := 0) rfl
 refine zD ?_
 refine kR 1 H rfl fun a H => ?_
 refine kV H (r_idx (j := 0) (q := 0) U29 s30 (H.ev rfl) evc (by omega) rfl) rfl fun a H => ?_
 refine kV H (r_ld U30 rfl (H.ev rfl) hx0_0) rfl fun a H => ?_
 refine wl_call _ _ _ (rdec_l _ _ (encF (helloP 7)) (helloP 7) 0 hr0_0 (Nat.le_trans (encF_len _ ok_He) (by omega)) (dec_enc ok_He ri_He)) (r_call1 cf41 (H.ev rfl)) ?_; rintro e w9 ⟨rfl, hb⟩; refine ⟨_, rfl, ?_⟩; replace hcl := ClAt.up hcl hb; replace ho0 := Outs.up ho0 hb; replace k0 := Block.ups k0 hb; replace ho2 := Outs.up ho2 hb; replace ho4 := Outs.up ho4 hb; replace ho5 := Outs.up ho5 hb; replace hall := hall.tr hb; clear hb; refine kl H rfl fun a H => ?_
 refine kR 3 H rfl fun a H => ?_
 refine op_new 36 10 (.tmp 78) (pv (helloP 7)) _ z36 (s36p ok_He) (by rw [pv_size pk0_ok, pv_size ok_He]) (pv_one _) (fun p => (H.put 10 p rfl).ev rfl) (fun p => (H.put 10 p rfl).ev rfl) fun w10 b10 hge hb k10 => ?_; have g10 := Nat.le_trans hall.size hge; have d0_10 : b0 < b10 := Nat.lt_of_lt_of_le k0.lt hge; have dhcl_10 : bcl < b10 := Nat.lt_of_lt_of_le hcl.lt hge; replace hcl := ClAt.up hcl hb; replace ho0 := Outs.up ho0 hb; replace k0 := Block.ups k0 hb; replace ho2 := Outs.up ho2 hb; replace ho4 := Outs.up ho4 hb; replace ho5 := Outs.up ho5 hb; replace hall := hall.tr hb; clear hb; clear hge; refine kl H rfl fun a H => ?_
 refine kR 1 H rfl fun a H => ?_
 refine zA (zB (zC ?_))
 obtain ⟨x2_0, hx2_0, hr2_0⟩ := Outs.at ho2 (i := 0) rfl
 refine zD ?_
 refine kR 1 H rfl fun a H => ?_
 refine kV H (r_idx (j := 0) (q := 0) U29 s30 (H.ev rfl) evc (by omega) rfl) rfl fun a H => ?_
 refine kV H (r_ld U30 rfl (H.ev rfl) hx2_0) rfl fun a H => ?_
 refine wl_call _ _ _ (rdec_l _ _ (encF (connP 4 7 2 sk)) (connP 4 7 2 sk) 0 hr2_0 (Nat.le_trans (encF_len _ ok_Co) (by omega)) (dec_enc ok_Co ri_Co)) (r_call1 cf41 (H.ev rfl)) ?_; rintro e w9 ⟨rfl, hb⟩; refine ⟨_, rfl, ?_⟩; replace hcl := ClAt.up hcl hb; replace ho0 := Outs.up ho0 hb; replace k0 := Block.ups k0 hb; replace ho2 := Outs.up ho2 hb; replace ho4 := Outs.up ho4 hb; replace ho5 := Outs.up ho5 hb; replace k10 := Block.ups k10 hb; replace hall := hall.tr hb; clear hb; refine kl H rfl fun a H => ?_
 refine kR 3 H rfl fun a H => ?_
 refine op_new 36 12 (.tmp 85) (pv (connP 4 7 2 sk)) _ z36 (s36p ok_Co) (by rw [pv_size pk0_ok, pv_size ok_Co]) (pv_one _) (fun p => (H.put 12 p rfl).ev rfl) (fun p => (H.put 12 p rfl).ev rfl) fun w12 b12 hge hb k12 => ?_; have g12 := Nat.le_trans hall.size hge; have d0_12 : b0 < b12 := Nat.lt_of_lt_of_le k0.lt hge; have d10_12 : b10 < b12 := Nat.lt_of_lt_of_le k10.lt hge; have dhcl_12 : bcl < b12 := Nat.lt_of_lt_of_le hcl.lt hge; replace hcl := ClAt.up hcl hb; replace ho0 := Outs.up ho0 hb; replace k0 := Block.ups k0 hb; replace ho2 := Outs.up ho2 hb; replace ho4 := Outs.up ho4 hb; replace ho5 := Outs.up ho5 hb; replace k10 := Block.ups k10 hb; replace hall := hall.tr hb; clear hb; clear hge; refine kl H rfl fun a H => ?_
 refine kR 1 H rfl fun a H => ?_
 refine zA (zB (zC ?_))
 obtain ⟨x4_0, hx4_0, hr4_0⟩ := Outs.at ho4 (i := 0) rfl
 obtain ⟨x4_1, hx4_1, hr4_1⟩ := Outs.at ho4 (i := 1) rfl
 refine zD ?_
 refine kR 1 H rfl fun a H => ?_
 refine kV H (r_idx (j := 0) (q := 0) U29 s30 (H.ev rfl) evc (by omega) rfl) rfl fun a H => ?_
 refine kV H (r_ld U30 rfl (H.ev rfl) hx4_0) rfl fun a H => ?_
 refine wl_call _ _ _ (rdec_l _ _ (encF (signF sk pBt)) (signF sk pBt) 0 hr4_0 (Nat.le_trans (encF_len _ (signF_ok ok_Bt)) (by omega)) (dec_sign ok_Bt so_Bt)) (r_call1 cf41 (H.ev rfl)) ?_; rintro e w9 ⟨rfl, hb⟩; refine ⟨_, rfl, ?_⟩; replace hcl := ClAt.up hcl hb; replace ho0 := Outs.up ho0 hb; replace k0 := Block.ups k0 hb; replace ho2 := Outs.up ho2 hb; replace ho4 := Outs.up ho4 hb; replace ho5 := Outs.up ho5 hb; replace k10 := Block.ups k10 hb; replace k12 := Block.ups k12 hb; replace hall := hall.tr hb; clear hb; refine kl H rfl fun a H => ?_
 refine kR 3 H rfl fun a H => ?_
 refine op_new 36 14 (.tmp 92) (pv (signF sk pBt)) _ z36 (s36p (signF_ok ok_Bt)) (by rw [pv_size pk0_ok, pv_size (signF_ok ok_Bt)]) (pv_one _) (fun p => (H.put 14 p rfl).ev rfl) (fun p => (H.put 14 p rfl).ev rfl) fun w14 b14 hge hb k14 => ?_; have g14 := Nat.le_trans hall.size hge; have d0_14 : b0 < b14 := Nat.lt_of_lt_of_le k0.lt hge; have d10_14 : b10 < b14 := Nat.lt_of_lt_of_le k10.lt hge; have d12_14 : b12 < b14 := Nat.lt_of_lt_of_le k12.lt hge; have dhcl_14 : bcl < b14 := Nat.lt_of_lt_of_le hcl.lt hge; replace hcl := ClAt.up hcl hb; replace ho0 := Outs.up ho0 hb; replace k0 := Block.ups k0 hb; replace ho2 := Outs.up ho2 hb; replace ho4 := Outs.up ho4 hb; replace ho5 := Outs.up ho5 hb; replace k10 := Block.ups k10 hb; replace k12 := Block.ups k12 hb; replace hall := hall.tr hb; clear hb; clear hge; refine kl H rfl fun a H => ?_
 refine kR 1 H rfl fun a H => ?_
 refine zA (zB (zC ?_))
 obtain ⟨x4_0, hx4_0, hr4_0⟩ := Outs.at ho4 (i := 0) rfl
 obtain ⟨x4_1, hx4_1, hr4_1⟩ := Outs.at ho4 (i := 1) rfl
 refine zD ?_
 refine kR 1 H rfl fun a H => ?_
 refine kV H (r_idx (j := 1) (q := 1) U29 s30 (H.ev rfl) evc (by omega) rfl) rfl fun a H => ?_
 refine kV H (r_ld U30 rfl (H.ev rfl) hx4_1) rfl fun a H => ?_
 refine wl_call _ _ _ (rdec_l _ _ (encF (signF sk pSt)) (signF sk pSt) 0 hr4_1 (Nat.le_trans (encF_len _ (signF_ok ok_St)) (by omega)) (dec_sign ok_St so_St)) (r_call1 cf41 (H.ev rfl)) ?_; rintro e w9 ⟨rfl, hb⟩; refine ⟨_, rfl, ?_⟩; replace hcl := ClAt.up hcl hb; replace ho0 := Outs.up ho0 hb; replace k0 := Block.ups k0 hb; replace ho2 := Outs.up ho2 hb; replace ho4 := Outs.up ho4 hb; replace ho5 := Outs.up ho5 hb; replace k10 := Block.ups k10 hb; replace k12 := Block.ups k12 hb; replace k14 := Block.ups k14 hb; replace hall := hall.tr hb; clear hb; refine kl H rfl fun a H => ?_
 refine kR 3 H rfl fun a H => ?_
 refine op_new 36 16 (.tmp 99) (pv (signF sk pSt)) _ z36 (s36p (signF_ok ok_St)) (by rw [pv_size pk0_ok, pv_size (signF_ok ok_St)]) (pv_one _) (fun p => (H.put 16 p rfl).ev rfl) (fun p => (H.put 16 p rfl).ev rfl) fun w16 b16 hge hb k16 => ?_; have g16 := Nat.le_trans hall.size hge; have d0_16 : b0 < b16 := Nat.lt_of_lt_of_le k0.lt hge; have d10_16 : b10 < b16 := Nat.lt_of_lt_of_le k10.lt hge; have d12_16 : b12 < b16 := Nat.lt_of_lt_of_le k12.lt hge; have d14_16 : b14 < b16 := Nat.lt_of_lt_of_le k14.lt hge; have dhcl_16 : bcl < b16 := Nat.lt_of_lt_of_le hcl.lt hge; replace hcl := ClAt.up hcl hb; replace ho0 := Outs.up ho0 hb; replace k0 := Block.ups k0 hb; replace ho2 := Outs.up ho2 hb; replace ho4 := Outs.up ho4 hb; replace ho5 := Outs.up ho5 hb; replace k10 := Block.ups k10 hb; replace k12 := Block.ups k12 hb; replace k14 := Block.ups k14 hb; replace hall := hall.tr hb; clear hb; clear hge; refine kl H rfl fun a H => ?_
 refine kR 1 H rfl fun a H => ?_
 refine zA (zB (zC ?_))
 obtain ⟨x5_0, hx5_0, hr5_0⟩ := Outs.at ho5 (i := 0) rfl
 refine zD ?_
 refine kR 1 H rfl fun a H => ?_
 refine kV H (r_idx (j := 0) (q := 0) U29 s30 (H.ev rfl) evc (by omega) rfl) rfl fun a H => ?_
 refine kV H (r_ld U30 rfl (H.ev rfl) hx5_0) rfl fun a H => ?_
 refine wl_call _ _ _ (rdec_l _ _ (encF (signF sk pAk)) (signF sk pAk) 0 hr5_0 (Nat.le_trans (encF_len _ (signF_ok ok_Ak)) (by omega)) (dec_sign ok_Ak so_Ak)) (r_call1 cf41 (H.ev rfl)) ?_; rintro e w9 ⟨rfl, hb⟩; refine ⟨_, rfl, ?_⟩; replace hcl := ClAt.up hcl hb; replace ho0 := Outs.up ho0 hb; replace k0 := Block.ups k0 hb; replace ho2 := Outs.up ho2 hb; replace ho4 := Outs.up ho4 hb; replace ho5 := Outs.up ho5 hb; replace k10 := Block.ups k10 hb; replace k12 := Block.ups k12 hb; replace k14 := Block.ups k14 hb; replace k16 := Block.ups k16 hb; replace hall := hall.tr hb; clear hb; refine kl H rfl fun a H => ?_
 refine kR 3 H rfl fun a H => ?_
 refine op_new 36 18 (.tmp 106) (pv (signF sk pAk)) _ z36 (s36p (signF_ok ok_Ak)) (by rw [pv_size pk0_ok, pv_size (signF_ok ok_Ak)]) (pv_one _) (fun p => (H.put 18 p rfl).ev rfl) (fun p => (H.put 18 p rfl).ev rfl) fun w18 b18 hge hb k18 => ?_; have g18 := Nat.le_trans hall.size hge; have d0_18 : b0 < b18 := Nat.lt_of_lt_of_le k0.lt hge; have d10_18 : b10 < b18 := Nat.lt_of_lt_of_le k10.lt hge; have d12_18 : b12 < b18 := Nat.lt_of_lt_of_le k12.lt hge; have d14_18 : b14 < b18 := Nat.lt_of_lt_of_le k14.lt hge; have d16_18 : b16 < b18 := Nat.lt_of_lt_of_le k16.lt hge; have dhcl_18 : bcl < b18 := Nat.lt_of_lt_of_le hcl.lt hge; replace hcl := ClAt.up hcl hb; replace ho0 := Outs.up ho0 hb; replace k0 := Block.ups k0 hb; replace ho2 := Outs.up ho2 hb; replace ho4 := Outs.up ho4 hb; replace ho5 := Outs.up ho5 hb; replace k10 := Block.ups k10 hb; replace k12 := Block.ups k12 hb; replace k14 := Block.ups k14 hb; replace k16 := Block.ups k16 hb; replace hall := hall.tr hb; clear hb; clear hge; refine kl H rfl fun a H => ?_
 refine kR 1 H rfl fun a H => ?_
 refine zA (zB (zC (zD ?_)))
 refine kR 1 H rfl fun a H => ?_
 refine wl_call _ _ _ (view_l _ _ _ S8 5 (5, 8, 1, 1) true hcl (by omega) rfl rfl) (r_call2 cf35 (H.ev rfl) evc) ?_; rintro e w9 ⟨rfl, hb⟩; refine ⟨_, rfl, ?_⟩; replace hcl := ClAt.up hcl hb; replace ho0 := Outs.up ho0 hb; replace k0 := Block.ups k0 hb; replace ho2 := Outs.up ho2 hb; replace ho4 := Outs.up ho4 hb; replace ho5 := Outs.up ho5 hb; replace k10 := Block.ups k10 hb; replace k12 := Block.ups k12 hb; replace k14 := Block.ups k14 hb; replace k16 := Block.ups k16 hb; replace k18 := Block.ups k18 hb; replace hall := hall.tr hb; clear hb; refine kl H rfl fun a H => ?_
 refine kR 3 H rfl fun a H => ?_
 refine op_new 49 20 (.tmp 111) (cN (5, 8, 1, 1)) _ z49 s49 rfl (by simp [Value.oneCell']) (fun p => (H.put 20 p rfl).ev rfl) (fun p => (H.put 20 p rfl).ev rfl) fun w20 b20 hge hb k20 => ?_; have g20 := Nat.le_trans hall.size hge; have d0_20 : b0 < b20 := Nat.lt_of_lt_of_le k0.lt hge; have d10_20 : b10 < b20 := Nat.lt_of_lt_of_le k10.lt hge; have d12_20 : b12 < b20 := Nat.lt_of_lt_of_le k12.lt hge; have d14_20 : b14 < b20 := Nat.lt_of_lt_of_le k14.lt hge; have d16_20 : b16 < b20 := Nat.lt_of_lt_of_le k16.lt hge; have d18_20 : b18 < b20 := Nat.lt_of_lt_of_le k18.lt hge; have dhcl_20 : bcl < b20 := Nat.lt_of_lt_of_le hcl.lt hge; replace hcl := ClAt.up hcl hb; replace ho0 := Outs.up ho0 hb; replace k0 := Block.ups k0 hb; replace ho2 := Outs.up ho2 hb; replace ho4 := Outs.up ho4 hb; replace ho5 := Outs.up ho5 hb; replace k10 := Block.ups k10 hb; replace k12 := Block.ups k12 hb; replace k14 := Block.ups k14 hb; replace k16 := Block.ups k16 hb; replace k18 := Block.ups k18 hb; replace hall := hall.tr hb; clear hb; clear hge; refine kl H rfl fun a H => ?_
 refine kR 1 H rfl fun a H => ?_
 refine zA (zB (zC (zD ?_)))
 refine kR 1 H rfl fun a H => ?_
 refine kV H (run_load_row b0 33 _ _ (H.ev rfl) k0 U33 rfl (by rw [barr_size, sk_len]; exact s33a)) rfl fun a H => ?_
 refine kV (v := .agg (pv pRe)) H (r_build #[(0, .int .i64 11), (1, .int .i64 3), (2, .int .i64 1), (4, .int .i64 8)] (.agg (pv pRe)) (by simp [evc]) (fun w => by kernel_rfl)) rfl fun a H => ?_
 refine wl_v (.agg (acV (actP 6 sk pRe) (.slice none 0 0))) (r_act6 ok_Re sk_len (H.ev rfl) (H.ev rfl)) ?_; refine kl H rfl fun a H => ?_
 refine wl_call _ _ _ (input_l _ (actP 6 sk pRe) _ (encF (signF sk pRe)) (actP_ok ok_Re rfl) (brow_nil _) (inp6 so_Re)) (r_call1 cf24 (H.ev rfl)) ?_; rintro e w9 ⟨⟨v9, rfl, hv⟩, hb⟩; refine ⟨_, rfl, ?_⟩; replace hcl := ClAt.up hcl hb; replace ho0 := Outs.up ho0 hb; replace k0 := Block.ups k0 hb; replace ho2 := Outs.up ho2 hb; replace ho4 := Outs.up ho4 hb; replace ho5 := Outs.up ho5 hb; replace k10 := Block.ups k10 hb; replace k12 := Block.ups k12 hb; replace k14 := Block.ups k14 hb; replace k16 := Block.ups k16 hb; replace k18 := Block.ups k18 hb; replace k20 := Block.ups k20 hb; replace hall := hall.tr hb; clear hb; refine kl H rfl fun a H => ?_
 refine wl_call _ _ _ (step_l _ _ _ S8 S9 [] 0 hcl (Nat.succ_le_of_lt hcl.lt) rfl _ (encF (signF sk pRe)) hv (Nat.le_trans (encF_len _ (signF_ok ok_Re)) (by omega)) st9 sc9) (r_call2 cf23 (H.ev rfl) (H.ev rfl)) ?_; rintro e w9 ⟨⟨A6, q6, rfl, B6, hB6, ho6⟩, ⟨m9, hc9⟩, hon⟩; refine ⟨_, rfl, ?_⟩; replace ho0 := Outs.onlym ho0 hB0 hcl.mp hon; replace k0 := Block.onlym k0 (by omega) hcl.mp hon; replace ho2 := Outs.onlym ho2 hB2 hcl.mp hon; replace ho4 := Outs.onlym ho4 hB4 hcl.mp hon; replace ho5 := Outs.onlym ho5 hB5 hcl.mp hon; replace k10 := Block.onlym k10 (by omega) hcl.mp hon; replace k12 := Block.onlym k12 (by omega) hcl.mp hon; replace k14 := Block.onlym k14 (by omega) hcl.mp hon; replace k16 := Block.onlym k16 (by omega) hcl.mp hon; replace k18 := Block.onlym k18 (by omega) hcl.mp hon; replace k20 := Block.onlym k20 (by omega) hcl.mp hon; clear hv; replace hall := ClAt.down hcl hall ghcl hall.size hon; clear hcl; have hcl := hc9; clear hc9 hon; clear ho6 hB6; refine kl H rfl fun a H => ?_
 refine zA (zB (zC (zD ?_)))
 refine kR 2 H rfl fun a H => ?_
 refine kW H rfl (run_load_row b10 36 _ _ (H.ev rfl) k10 U36 rfl (s36p ok_He)) rfl fun a H => ?_
 refine kG H rfl ?_; refine kV (v := .agg (pv (helloP 7))) H (r_build #[(0, .int .i64 1), (10, .int .i64 7)] (.agg (pv (helloP 7))) (by simp [evc]) (fun w => by kernel_rfl)) rfl fun a H => ?_
 refine kW H rfl (r_eqpk_b (p := helloP 7) (q := helloP 7) ok_He ok_He (H.ev rfl) (H.ev rfl) (decide_eq_true rfl)) rfl fun a H => ?_
 refine kR 3 H rfl fun a H => ?_
 refine kW H rfl (r_len U29 (H.ev rfl)) rfl fun a H => ?_
 refine kW H rfl (r_eq U3 (H.ev rfl) evc (dec_t (by omega))) rfl fun a H => ?_
 refine kR 2 H rfl fun a H => ?_
 refine kW H rfl (run_load_row b12 36 _ _ (H.ev rfl) k12 U36 rfl (s36p ok_Co)) rfl fun a H => ?_
 refine kW H rfl (run_load_row b0 33 _ _ (H.ev rfl) k0 U33 rfl (by rw [barr_size, sk_len]; exact s33a)) rfl fun a H => ?_
 refine kG H rfl ?_; refine kV (v := .agg (pv (connP 4 7 2 sk))) H (r_conn sk_len evc evc evc (H.ev rfl)) rfl fun a H => ?_
 refine kW H rfl (r_eqpk_b (p := connP 4 7 2 sk) (q := connP 4 7 2 sk) ok_Co ok_Co (H.ev rfl) (H.ev rfl) (decide_eq_true rfl)) rfl fun a H => ?_
 refine kR 6 H rfl fun a H => ?_
 refine kW H rfl (r_ld U3 rfl (H.ev rfl) (pv_cell k14 (x := 5) rfl)) rfl fun a H => ?_
 refine kW H rfl (r_eq U3 (H.ev rfl) evc (dec_t (by omega))) rfl fun a H => ?_
 refine kR 3 H rfl fun a H => ?_
 refine kW H rfl (r_ld U3 rfl (H.ev rfl) (pv_cell k14 (x := 1) rfl)) rfl fun a H => ?_
 refine kW H rfl (r_eq U3 (H.ev rfl) evc (dec_t (by omega))) rfl fun a H => ?_
 refine kR 2 H rfl fun a H => ?_
 refine kW H rfl (run_load_row b0 33 _ _ (H.ev rfl) k0 U33 rfl (by rw [barr_size, sk_len]; exact s33a)) rfl fun a H => ?_
 refine kW H rfl (run_load_row b14 36 _ _ (H.ev rfl) k14 U36 rfl (s36p (signF_ok ok_Bt))) rfl fun a H => ?_
 refine kG H rfl ?_; refine wl_call _ _ _ (good_l _ sk (signF sk pBt) true sk_len (signF_ok ok_Bt) (sign_good so_Bt)) (r_call2 cf42 (H.ev rfl) (H.ev rfl)) ?_; rintro e w9 ⟨rfl, hb⟩; refine ⟨_, rfl, ?_⟩; replace hcl := ClAt.up hcl hb; replace ho0 := Outs.up ho0 hb; replace k0 := Block.ups k0 hb; replace ho2 := Outs.up ho2 hb; replace ho4 := Outs.up ho4 hb; replace ho5 := Outs.up ho5 hb; replace k10 := Block.ups k10 hb; replace k12 := Block.ups k12 hb; replace k14 := Block.ups k14 hb; replace k16 := Block.ups k16 hb; replace k18 := Block.ups k18 hb; replace k20 := Block.ups k20 hb; replace hall := hall.tr hb; clear hb; refine kl H rfl fun a H => ?_
 refine kR 3 H rfl fun a H => ?_
 refine kW H rfl (r_ld U3 rfl (H.ev rfl) (pv_cell k16 (x := 6) rfl)) rfl fun a H => ?_
 refine kW H rfl (r_eq U3 (H.ev rfl) evc (dec_t (by omega))) rfl fun a H => ?_
 refine kR 3 H rfl fun a H => ?_
 refine kW H rfl (r_ld U3 rfl (H.ev rfl) (pv_cell k16 (x := 1) rfl)) rfl fun a H => ?_
 refine kW H rfl (r_eq U3 (H.ev rfl) evc (dec_t (by omega))) rfl fun a H => ?_
 refine kR 3 H rfl fun a H => ?_
 refine kW H rfl (r_ld U3 rfl (H.ev rfl) (pv_cell k16 (x := 2) rfl)) rfl fun a H => ?_
 refine kW H rfl (r_eq U3 (H.ev rfl) evc (dec_t (by omega))) rfl fun a H => ?_
 refine kR 3 H rfl fun a H => ?_
 refine kW H rfl (r_ld U3 rfl (H.ev rfl) (pv_cell k18 (x := 9) rfl)) rfl fun a H => ?_
 refine kW H rfl (r_eq U3 (H.ev rfl) evc (dec_t (by omega))) rfl fun a H => ?_
 refine kR 3 H rfl fun a H => ?_
 refine kW H rfl (r_ld U3 rfl (H.ev rfl) (pv_cell k18 (x := 1) rfl)) rfl fun a H => ?_
 refine kW H rfl (r_eq U3 (H.ev rfl) evc (dec_t (by omega))) rfl fun a H => ?_
 refine kR 5 H rfl fun a H => ?_
 refine kG H rfl ?_; refine kV (v := .agg (cN (5, 8, 1, 1))) H (run_load_row b20 49 _ _ (H.ev rfl) k20 U49 rfl s49) rfl fun a H => ?_
 refine kG H rfl ?_; refine kV (v := .agg (cN (5, 8, 1, 1))) H (r_build #[(0, .int .i64 5), (1, .int .i64 8), (2, .int .i64 1), (3, .int .i64 1)] (.agg (cN (5, 8, 1, 1))) (by simp [evc]) (fun w => by kernel_rfl)) rfl fun a H => ?_
 refine kG H rfl ?_; refine kV (v := .bool true) H (r_eq49 (H.ev rfl) (H.ev rfl) (decide_eq_true rfl)) rfl fun a H => ?_
 refine kR 3 H rfl fun a H => ?_
 refine kG H rfl ?_; refine wl_call _ _ _ (state_l _ _ _ S9 3 hcl rfl) (r_call1 cf27 (H.ev rfl)) ?_; rintro e w9 ⟨rfl, hb⟩; refine ⟨_, rfl, ?_⟩; replace hcl := ClAt.up hcl hb; replace ho0 := Outs.up ho0 hb; replace k0 := Block.ups k0 hb; replace ho2 := Outs.up ho2 hb; replace ho4 := Outs.up ho4 hb; replace ho5 := Outs.up ho5 hb; replace k10 := Block.ups k10 hb; replace k12 := Block.ups k12 hb; replace k14 := Block.ups k14 hb; replace k16 := Block.ups k16 hb; replace k18 := Block.ups k18 hb; replace k20 := Block.ups k20 hb; replace hall := hall.tr hb; clear hb; refine kl H rfl fun a H => ?_
 refine kW H rfl (r_eq U3 (H.ev rfl) evc (dec_t (by omega))) rfl fun a H => ?_
 refine kR 3 H rfl fun a H => ?_
 refine kG H rfl ?_; refine wl_call _ _ _ (sess_l _ _ _ S9 3 hcl rfl) (r_call1 cf29 (H.ev rfl)) ?_; rintro e w9 ⟨rfl, hb⟩; refine ⟨_, rfl, ?_⟩; replace hcl := ClAt.up hcl hb; replace ho0 := Outs.up ho0 hb; replace k0 := Block.ups k0 hb; replace ho2 := Outs.up ho2 hb; replace ho4 := Outs.up ho4 hb; replace ho5 := Outs.up ho5 hb; replace k10 := Block.ups k10 hb; replace k12 := Block.ups k12 hb; replace k14 := Block.ups k14 hb; replace k16 := Block.ups k16 hb; replace k18 := Block.ups k18 hb; replace k20 := Block.ups k20 hb; replace hall := hall.tr hb; clear hb; refine kl H rfl fun a H => ?_
 refine kW H rfl (r_eq U3 (H.ev rfl) evc (dec_t (by omega))) rfl fun a H => ?_
 refine kR 3 H rfl fun a H => ?_
 refine kG H rfl ?_; refine wl_call _ _ _ (waits_l _ _ _ S9 0 hcl rfl) (r_call1 cf31 (H.ev rfl)) ?_; rintro e w9 ⟨rfl, hb⟩; refine ⟨_, rfl, ?_⟩; replace hcl := ClAt.up hcl hb; replace ho0 := Outs.up ho0 hb; replace k0 := Block.ups k0 hb; replace ho2 := Outs.up ho2 hb; replace ho4 := Outs.up ho4 hb; replace ho5 := Outs.up ho5 hb; replace k10 := Block.ups k10 hb; replace k12 := Block.ups k12 hb; replace k14 := Block.ups k14 hb; replace k16 := Block.ups k16 hb; replace k18 := Block.ups k18 hb; replace k20 := Block.ups k20 hb; replace hall := hall.tr hb; clear hb; refine kl H rfl fun a H => ?_
 refine kW H rfl (r_eq U3 (H.ev rfl) evc (dec_t (by omega))) rfl fun a H => ?_
 refine kR 3 H rfl fun a H => ?_
 refine kG H rfl ?_; refine wl_call _ _ _ (last_l _ _ _ S9 8 hcl rfl) (r_call1 cf33 (H.ev rfl)) ?_; rintro e w9 ⟨rfl, hb⟩; refine ⟨_, rfl, ?_⟩; replace hcl := ClAt.up hcl hb; replace ho0 := Outs.up ho0 hb; replace k0 := Block.ups k0 hb; replace ho2 := Outs.up ho2 hb; replace ho4 := Outs.up ho4 hb; replace ho5 := Outs.up ho5 hb; replace k10 := Block.ups k10 hb; replace k12 := Block.ups k12 hb; replace k14 := Block.ups k14 hb; replace k16 := Block.ups k16 hb; replace k18 := Block.ups k18 hb; replace k20 := Block.ups k20 hb; replace hall := hall.tr hb; clear hb; refine kl H rfl fun a H => ?_
 refine kW H rfl (r_eq U46 (H.ev rfl) evc (dec_t (by omega))) rfl fun a H => ?_
 refine kR 2 H rfl fun a H => ?_
 refine zA (zB (zF ?_))
 exact k_ret1 H rfl rfl ⟨rfl, hall⟩
section
def J0 (v : Int) : Cl := clZ v
def J1 (v n : Int) : Cl := { J0 v with nonce := n, state := 1 }
def J2 (v n e : Int) (k : List B8) : Cl := { J1 v n with epoch := e, ck := k, state := 2, ask := 4 }
def J3 (v n e : Int) (k : List B8) (i : Int) : Cl := { J2 v n e k with state := 3, id := i, key := k, beats := 0, seq := 0, beat := 0, say := 0, next := 1, items := [] }
section
variable {v n e i o : Int} {k : List B8}
/-- behind t ticks of a client that greets -/
def stp (t : Nat) : Int := if t = 0 then 0 else 4 * ((t + 3) / 4 : Nat) + 1
/-- behind t ticks of a client that is let in -/
def B3 (v n e : Int) (k : List B8) (i : Int) (t : Nat) : Cl := { J3 v n e k i with now := (t : Nat), beats := ((t + 3) / 4 : Nat), beat := stp t }
end
end
section
theorem kinds38 : (List.range 59).map (cellKind Tryz.prog 4 38) = (List.range 59).map (fun i => some (if i = 2 then .s else if i < 19 then .i else .u)) := by kernel_rfl
theorem kind38 (i : Nat) (hi : i < 59) : cellKind Tryz.prog 4 38 i = some (if i = 2 then .s else if i < 19 then .i else .u) := by
 have h := congrArg (fun l => l[i]?) kinds38
 simp only [List.getElem?_map, List.getElem?_range hi, Option.map_some] at h
 exact Option.some.inj h
section
variable {H : Type} {enc : TypeId × Value → H} {w : World} {base : Nat} {spare : Nat → Bool} {held : Bool}
end
theorem own : ownKnob Tryz.prog.godebug = none := by kernel_rfl
theorem laidOut : laidOutB Tryz.prog = true := by kernel_rfl
end
section
def strB (L : List B8) : ByteArray := strOfNums (L.map fun x => (x.toNat : Int))
section
variable {d : Option Tmp} {tt t2 : TypeId} {ps : String} {af : Array Edge} {gd : Option (Nat × Bool)} {a : Act} {w : World} {x y : Operand}
theorem r_str {v : Value} {L : List B8} (hx : a.eval x = v) (h : BRow w v L) :
  (execOp a.eval ⟨d, .convert 30 9 x, tt, ps, af, gd⟩).run Tryz.prog w = .ok (.value (.string (strB L))) w := by
 obtain ⟨A, c, rfl, h1, h2, h3, hh⟩ := h
 have hc : (convert 30 9 (.slice A L.length c)).run Tryz.prog w = .ok (.string (strB L)) w := by
  cases L with
  | nil =>
   cases A with
   | none => exact (run_convert_bytes_nil w 30 5 U30 U5 0 c 9 U9)
   | some A =>
    obtain ⟨b, o, s⟩ := A
    rw [run_convert_bytes_string w 30 9 5 _ _ c U30 U5 U9]
    exact run_bytesToString w _ 0 c [] (run_loadCells_list (P := Tryz.prog) w _ [] (fun j v hj => by simp at hj))
  | cons z L =>
   obtain ⟨b, o, rfl, _⟩ := hh 0 (by simp)
   refine run_convert_bytes_arg w 30 5 U30 U5 b o (z :: L).length c ((z :: L).map fun x => (x.toNat : Int)) (by simp) (fun i hi => ?_) 9 U9
   obtain ⟨b', o', e, hcell⟩ := hh i (by simpa using hi)
   injection e with e
   injection e with e1 e2
   subst e1 e2
   rw [hcell]
   rw [List.getElem?_map, List.getElem?_eq_getElem hi, List.getD_eq_getElem?_getD, List.getElem?_map, List.getElem?_eq_getElem hi]
   rfl
 unfold execOp
 simp only [hx, hc, Sem.run_bind, Sem.run_pure, Result.andThen_ok]
theorem r_nestr {s : ByteArray} (hx : a.eval x = .string s) (hy : a.eval y = .string s) :
  (execOp a.eval ⟨d, .binOp .neq 9 x y t2, tt, ps, af, gd⟩).run Tryz.prog w = .ok (.value (.bool false)) w := by
 unfold execOp
 simp only [hx, hy]
 have u9 := U9
 have hg : Tryz.prog.eqGuardType Tryz.prog.depth 9 = false := by kernel_rfl
 go_simp
end
end
end Go.Proofs.YtbnmpoonkjlkjaaGreat
