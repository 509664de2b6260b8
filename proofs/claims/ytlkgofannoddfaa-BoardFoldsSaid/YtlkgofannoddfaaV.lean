/- BoardFolds: order does not matter, what is no status counts for nothing, one more is never less. -/
import Derived.Test.YtlkgofannoddfaaU
import Derived.Deep.Cut
namespace Go.Proofs.Ytlkgofannoddfaa
open Go.ChangeShapes Go.WideShapes Go.ChangeAt Go.RowKit
set_option linter.unusedVariables false
set_option linter.unusedSimpArgs false

/-! ### two rows of one's own that lie apart -/
def Apart (v v' : Value) : Prop := v.ownBlock = none ∨ v'.ownBlock = none ∨ v.ownBlock ≠ v'.ownBlock
theorem Apart.symm {v v' : Value} (h : Apart v v') : Apart v' v := by
  rcases h with h | h | h
  · exact .inr (.inl h)
  · exact .inl h
  · exact .inr (.inr fun e => h e.symm)
theorem own_apart {w w' : World} {base e size n : Nat} {v u u' : Value} {xs : List Value} (h : w.ownsRow base e size v n xs) (ha : Apart u v) (hg : w.grownBy w' u.ownBlock)
    (hu : u'.ownBlock = u.ownBlock ∨ u'.ownBlock = some w.heap.size) : w'.ownsRow base e size v n xs ∧ Apart u' v := by
  have hlt := h.lt
  constructor
  · refine h.kept hg ?_
    rcases ha with ha | ha | ha
    · cases hv : v.ownBlock with
      | none => exact .inl rfl
      | some k => exact .inr (by rw [ha]; simp)
    · exact .inl ha
    · exact .inr fun e => ha e.symm
  · rcases hu with hu | hu
    · unfold Apart
      rw [hu]
      exact ha
    · cases hv : v.ownBlock with
      | none => exact .inr (.inl hv)
      | some k =>
        have := (hlt k hv).2
        exact .inr (.inr (by rw [hu, hv]; simp; omega))

/-! ### the plain law -/
def rv (L : List Int) (m : Nat) : List Int := (L.drop m).reverse
def okS (x : Int) : Bool := decide (1 ≤ x) && decide (x ≤ 3)
def sm (L : List Int) (m : Nat) : List Int := (rv L m).filter okS
theorem rv_all (L : List Int) : rv L L.length = [] := by simp [rv]
theorem sm_all (L : List Int) : sm L L.length = [] := by simp [sm, rv_all]
theorem rv_step {L : List Int} {j : Nat} (h : j < L.length) : rv L j = rv L (j + 1) ++ [L[j]] := by
  unfold rv
  rw [List.drop_eq_getElem_cons h, List.reverse_cons]
theorem sm_yes {L : List Int} {j : Nat} (h : j < L.length) (h1 : 1 ≤ L[j]) (h2 : L[j] ≤ 3) : sm L j = sm L (j + 1) ++ [L[j]] := by
  unfold sm
  rw [rv_step h, List.filter_append]
  simp [okS, h1, h2]
theorem sm_no {L : List Int} {j : Nat} (h : j < L.length) (h1 : L[j] < 1 ∨ 3 < L[j]) : sm L j = sm L (j + 1) := by
  unfold sm
  rw [rv_step h, List.filter_append]
  have : okS L[j] = false := by unfold okS; simp; omega
  simp [this]
theorem rv_len (L : List Int) (m : Nat) : (rv L m).length ≤ L.length := by simp [rv]
theorem sm_len (L : List Int) (m : Nat) : (sm L m).length ≤ L.length := Nat.le_trans (List.length_filter_le _ _) (rv_len L m)
theorem fold_rev (L : List Int) : fold L.reverse = fold L := by
  induction L with
  | nil => rfl
  | cons x l ih => rw [List.reverse_cons, fold_snoc, ih, fold_cons]
theorem fold_rv (L : List Int) : fold (rv L 0) = fold L := by unfold rv; rw [List.drop_zero, fold_rev]
theorem fold_filter (l : List Int) : fold (l.filter okS) = fold l := by
  induction l with
  | nil => rfl
  | cons x l ih =>
    rw [fold_cons]
    by_cases h : 1 ≤ x ∧ x ≤ 3
    · rw [List.filter_cons_of_pos (by simp [okS, h]), fold_cons, ih]
    · rw [List.filter_cons_of_neg (by simp [okS]; omega), ih, stp_no (by omega)]
theorem fold_sm (L : List Int) : fold (sm L 0) = fold L := by unfold sm; rw [fold_filter, fold_rv]
/-- how many count: at most four -/
theorem fold_count (l : List Int) (h : ∀ x ∈ l, 1 ≤ x ∧ x ≤ 3) : (fold l).2 = if l.length ≤ 4 then (l.length : Int) else 4 := by
  induction l with
  | nil => rfl
  | cons x l ih =>
    have hx := h x (by simp)
    rw [fold_cons, stp_yes hx.1 hx.2, ih fun y hy => h y (by simp [hy])]
    simp only [List.length_cons]
    split <;> split <;> split <;> omega
theorem sm_ok (L : List Int) : ∀ x ∈ sm L 0, 1 ≤ x ∧ x ≤ 3 := by
  intro x hx
  have := (List.mem_filter.1 hx).2
  simpa [okS] using this
theorem fold_pos (l : List Int) : 0 < (fold l).2 ↔ 0 < (fold l).1 := by
  induction l with
  | nil => decide
  | cons x l ih =>
    have hb := fold_bd l
    rw [fold_cons]
    unfold stp
    split
    · simp only []
      constructor <;> intro _ <;> split <;> omega
    · exact ih
theorem stp_more (p : Int × Int) (x : Int) (h : 0 ≤ p.2 ∧ p.2 ≤ 4) : p.1 ≤ (stp p x).1 ∧ p.2 ≤ (stp p x).2 ∧ (stp p x).2 ≤ p.2 + 1 := by
  unfold stp
  split
  · simp only []
    refine ⟨?_, ?_, ?_⟩ <;> split <;> omega
  · omega

def FoldsRel (wa : World) (base : Nat) (L : List Int) (v6 v7 i : Value) (w : World) : Prop :=
  ∃ m : Nat, m ≤ L.length ∧ i = .int .i64 ((m : Int) - 1) ∧ w.ownsRow base 3 1 v6 (rv L m).length ((rv L m).map (Value.int .i64)) ∧ w.ownsRow base 3 1 v7 (sm L m).length ((sm L m).map (Value.int .i64)) ∧ Apart v6 v7 ∧ Below base wa w

theorem row_step {w : World} {base : Nat} {K K' : List Int} {v : Value} {x : Int} (e : K' = K ++ [x]) (h : w.ownsRow base 3 1 v (K.length + 1) (K.map (Value.int .i64) ++ [.int .i64 x])) :
    w.ownsRow base 3 1 v K'.length (K'.map (Value.int .i64)) := by
  rw [e]
  simpa using h

set_option maxHeartbeats 1000000 in
set_option maxRecDepth 100000 in
theorem folds_short (L : List Int) (A : Option Addr) (c : Nat) (x0 : Int) (w : World) (hL : L.length ≤ 200) (h : Holds w A (L.map (Value.int .i64)))
    (s k v i : Int) (hf : fold L = (s, k)) (hf6 : fold (rv L 0) = (s, k)) (hf7 : fold (sm L 0) = (s, k)) (hf8 : fold (rv L 0 ++ [x0]) = (v, i))
    (hk : (k = ((sm L 0).length : Nat) ∧ (sm L 0).length ≤ 4) ∨ (k = 4 ∧ 4 < (sm L 0).length)) (hks : decide (0 < s) = decide (0 < k)) (hs0 : 0 ≤ s) (hs3 : s ≤ 3) (hk0 : 0 ≤ k) (hk4 : k ≤ 4) (hv : s ≤ v) (hi : k ≤ i) (hi2 : i ≤ k + 1) :
    Calls Try.prog 5 #[.slice A L.length c, .int .i64 x0] w fun e w' => e = .returned (.bool true) ∧ Below w.heap.size w w' := by
  have hall := Below.refl w.heap.size w
  have HF := Lib.hid hf
  have HF6 := Lib.hid hf6
  have HF7 := Lib.hid hf7
  have HF8 := Lib.hid hf8
  have HK := Lib.hid hk
  clear hf hf6 hf7 hf8 hk
  go_enter Try.func5, Try.ntmps5
  go_wp2_with (first
    | (go_at_call 8; refine (small_any _).mono ?_; rintro e w1 ⟨rfl, hb⟩; replace hall := hall.trans (hb.mono hall.size); (try replace h := h.up hb); clear hb))
  go_loopw [6, 7, 8] (FoldsRel w1 w1.heap.size L) (fun _ _ i _ => (intOf i + 1).toNat)
  case atStart => exact ⟨L.length, Nat.le_refl _, by go_num, by rw [rv_all]; exact World.ownsRow_nil _ _ _ _, by rw [sm_all]; exact World.ownsRow_nil _ _ _ _, .inl rfl, Below.refl _ _⟩
  case round =>
    obtain ⟨m, hm, rfl, own6, own7, hap, hbel⟩ := hrel
    have hs := hbel.size
    match m, hm with
    | 0, _ =>
      obtain ⟨A6, c6, rfl, h6, hc6, hc6m⟩ := own_slice own6
      obtain ⟨A7, c7, rfl, h7, hc7, hc7m⟩ := own_slice own7
      replace h6 := Lib.hid h6
      replace h7 := Lib.hid h7
      replace own6 := Lib.hid own6
      replace h := h.up hbel
      have hle := hall.size
      replace hall := hall.trans (hbel.mono hall.size)
      have l6 := rv_len L 0
      have l7 := sm_len L 0
      clear own7 hbel hap
      go_upto_region 16 with (first
        | ((with_reducible refine op_unguard _ _ ?_ ?_); rfl)
        | ((with_reducible refine op_lit 26 1 #[(0, .tmp 72)] 3 (ints [x0]) ?_ ?_); (intro wl; kernel_rfl); intro w2 b1 hge hb kl; replace hall := hall.trans (hb.mono hall.size); replace hs := Nat.le_trans hs hb.size; replace own6 := own_ups own6.out hb; clear hb hge h h6 h7)
        | ((with_reducible refine op_append 26 3 (.tmp 71) (.tmp 73) w1.heap.size (.int .i64 0) 1 8 (.slice A6 (rv L 0).length c6) (rv L 0).length ((rv L 0).map (Value.int .i64)) (some ⟨b1, 0, none⟩) 1 1 [.int .i64 x0] ?_ ?_ ?_ ?_ ?_ ?_ ?_ ?_ ?_ ?_ ?_ ?_ ?_ ?_); rfl; rfl; exact Try.underlying26; exact i3; rfl; omega; exact own6; rfl; exact Block.holds kl; (simp [Value.oneCell']); (unfold maxLen; omega); omega; omega; intro v6 w3 own6' _ _ hb; replace hall := hall.trans (hb.mono hle); clear kl hb own6; obtain ⟨A8, c8, rfl, h8, _, _⟩ := own_slice own6'; replace h8 := Lib.hid (show Holds w3 A8 ((rv L 0 ++ [x0]).map (Value.int .i64)) by simpa using h8); clear own6')
        | (go_at_call 9; ((with_reducible refine (fold_at L A _ c s k _ ?_ ?_ ?_ ?_).mono ?_); exact HF.out; rfl; omega; exact h; rintro e w2 ⟨rfl, rfl⟩))
        | (go_at_call 9; ((with_reducible refine (fold_at (rv L 0) A6 _ c6 s k _ ?_ ?_ ?_ ?_).mono ?_); exact HF6.out; rfl; omega; exact h6.out; rintro e w2 ⟨rfl, rfl⟩))
        | (go_at_call 9; ((with_reducible refine (fold_at (sm L 0) A7 _ c7 s k _ ?_ ?_ ?_ ?_).mono ?_); exact HF7.out; rfl; omega; exact h7.out; rintro e w2 ⟨rfl, rfl⟩))
        | (go_at_call 9; ((with_reducible refine (fold_at (rv L 0 ++ [x0]) A8 _ c8 v i _ ?_ ?_ ?_ ?_).mono ?_); exact HF8.out; (simp); (simp; omega); exact h8.out; rintro e w2 ⟨rfl, rfl⟩)))
      have HK' := HK.out
      clear HK HF HF6 HF7 HF8
      rcases HK' with ⟨hk1, hk2⟩ | ⟨hk1, hk2⟩ <;> subst hk1
      all_goals go_wp2
      all_goals go_ret
      all_goals exact ⟨rfl, hall⟩
    | j + 1, hm =>
      obtain ⟨b, o, rfl, hc⟩ := h j (by simp; omega)
      rw [List.getElem?_map, List.getElem?_eq_getElem (by omega)] at hc
      simp only [Option.map_some] at hc
      have hlt := (h.lt rfl (by simp; omega))
      rw [← hbel.cell (p := ⟨b, o + j, none⟩) hlt] at hc
      have l6 := rv_len L (j + 1)
      have l7 := sm_len L (j + 1)
      have HX := Lib.hid (rv_step (L := L) (j := j) (by omega))
      have HY := Lib.hid (sm_yes (L := L) (j := j) (by omega))
      have HZ := Lib.hid (sm_no (L := L) (j := j) (by omega))
      generalize hx : L[j] = x at *
      clear hx h hall HF HF6 HF7 HF8 HK hks hs0 hs3 hk0 hk4 hv hi hi2
      by_cases hx1 : 1 ≤ x
      · by_cases hx3 : x ≤ 3
        · go_wp2_with (first
            | ((with_reducible refine op_lit 26 1 #[(0, .tmp 33)] 3 (ints [x]) ?_ ?_); (intro wl; kernel_rfl); intro w2 b1 hge hb kl; replace hbel := hbel.trans (hb.mono hs); replace hc := ((hb.mono hs).cell (p := ⟨b, o + j, none⟩) hlt).trans hc; replace hs := Nat.le_trans hs hb.size; replace own6 := own_ups own6 hb; replace own7 := own_ups own7 hb; clear hb hge)
            | ((with_reducible refine op_lit 26 1 #[(0, .tmp 52)] 3 (ints [x]) ?_ ?_); (intro wl; kernel_rfl); intro w2 b2 hge hb kl; replace hbel := hbel.trans (hb.mono hs); replace hc := ((hb.mono hs).cell (p := ⟨b, o + j, none⟩) hlt).trans hc; replace hs := Nat.le_trans hs hb.size; replace own6 := own_ups own6 hb; replace own7 := own_ups own7 hb; clear hb hge)
            | ((with_reducible refine op_append 26 3 (.tmp 29) (.tmp 34) w1.heap.size (.int .i64 0) 1 8 u6 (rv L (j+1)).length ((rv L (j+1)).map (Value.int .i64)) (some ⟨b1, 0, none⟩) 1 1 [.int .i64 x] ?_ ?_ ?_ ?_ ?_ ?_ ?_ ?_ ?_ ?_ ?_ ?_ ?_ ?_); rfl; rfl; exact Try.underlying26; exact i3; rfl; omega; exact own6; rfl; exact Block.holds kl; (simp [Value.oneCell']); (unfold maxLen; omega); omega; omega; intro v6 w3 own6' hg hu hb; replace hbel := hbel.trans hb; replace hc := (hb.cell (p := ⟨b, o + j, none⟩) hlt).trans hc; replace hs := Nat.le_trans hs hb.size; obtain ⟨own7', hap'⟩ := own_apart own7 hap hg hu; replace own6 := row_step HX.out own6'; replace own7 := own7'; clear own7' own6' kl hb hg hu hap)
            | ((with_reducible refine op_append 26 3 (.tmp 48) (.tmp 53) w1.heap.size (.int .i64 0) 1 8 u7 (sm L (j+1)).length ((sm L (j+1)).map (Value.int .i64)) (some ⟨b2, 0, none⟩) 1 1 [.int .i64 x] ?_ ?_ ?_ ?_ ?_ ?_ ?_ ?_ ?_ ?_ ?_ ?_ ?_ ?_); rfl; rfl; exact Try.underlying26; exact i3; rfl; omega; exact own7; rfl; exact Block.holds kl; (simp [Value.oneCell']); (unfold maxLen; omega); omega; omega; intro v7 w4 own7' hg hu hb; replace hbel := hbel.trans hb; obtain ⟨own6', hap⟩ := own_apart own6 hap'.symm hg hu; replace own7 := row_step (HY.out hx1 hx3) own7'; replace own6 := own6'; clear own7' own6' hb hg hu hap' kl))
          exact ⟨⟨j, by omega, rfl, own6, own7, hap.symm, hbel⟩, by simp [intOf]⟩
        · go_wp2_with (first
            | ((with_reducible refine op_lit 26 1 #[(0, .tmp 33)] 3 (ints [x]) ?_ ?_); (intro wl; kernel_rfl); intro w2 b1 hge hb kl; replace hbel := hbel.trans (hb.mono hs); replace hc := ((hb.mono hs).cell (p := ⟨b, o + j, none⟩) hlt).trans hc; replace hs := Nat.le_trans hs hb.size; replace own6 := own_ups own6 hb; replace own7 := own_ups own7 hb; clear hb hge)
            | ((with_reducible refine op_append 26 3 (.tmp 29) (.tmp 34) w1.heap.size (.int .i64 0) 1 8 u6 (rv L (j+1)).length ((rv L (j+1)).map (Value.int .i64)) (some ⟨b1, 0, none⟩) 1 1 [.int .i64 x] ?_ ?_ ?_ ?_ ?_ ?_ ?_ ?_ ?_ ?_ ?_ ?_ ?_ ?_); rfl; rfl; exact Try.underlying26; exact i3; rfl; omega; exact own6; rfl; exact Block.holds kl; (simp [Value.oneCell']); (unfold maxLen; omega); omega; omega; intro v6 w3 own6' hg hu hb; replace hbel := hbel.trans hb; replace hc := (hb.cell (p := ⟨b, o + j, none⟩) hlt).trans hc; replace hs := Nat.le_trans hs hb.size; obtain ⟨own7', hap'⟩ := own_apart own7 hap hg hu; replace own6 := row_step HX.out own6'; replace own7 := own7'; clear own7' own6' kl hb hg hu hap))
          rw [← HZ.out (Or.inr (by omega))] at own7
          exact ⟨⟨j, by omega, rfl, own6, own7, hap', hbel⟩, by simp [intOf]⟩
      · go_wp2_with (first
            | ((with_reducible refine op_lit 26 1 #[(0, .tmp 33)] 3 (ints [x]) ?_ ?_); (intro wl; kernel_rfl); intro w2 b1 hge hb kl; replace hbel := hbel.trans (hb.mono hs); replace hc := ((hb.mono hs).cell (p := ⟨b, o + j, none⟩) hlt).trans hc; replace hs := Nat.le_trans hs hb.size; replace own6 := own_ups own6 hb; replace own7 := own_ups own7 hb; clear hb hge)
            | ((with_reducible refine op_append 26 3 (.tmp 29) (.tmp 34) w1.heap.size (.int .i64 0) 1 8 u6 (rv L (j+1)).length ((rv L (j+1)).map (Value.int .i64)) (some ⟨b1, 0, none⟩) 1 1 [.int .i64 x] ?_ ?_ ?_ ?_ ?_ ?_ ?_ ?_ ?_ ?_ ?_ ?_ ?_ ?_); rfl; rfl; exact Try.underlying26; exact i3; rfl; omega; exact own6; rfl; exact Block.holds kl; (simp [Value.oneCell']); (unfold maxLen; omega); omega; omega; intro v6 w3 own6' hg hu hb; replace hbel := hbel.trans hb; replace hc := (hb.cell (p := ⟨b, o + j, none⟩) hlt).trans hc; replace hs := Nat.le_trans hs hb.size; obtain ⟨own7', hap'⟩ := own_apart own7 hap hg hu; replace own6 := row_step HX.out own6'; replace own7 := own7'; clear own7' own6' kl hb hg hu hap))
        rw [← HZ.out (Or.inl (by omega))] at own7
        exact ⟨⟨j, by omega, rfl, own6, own7, hap', hbel⟩, by simp [intOf]⟩

set_option maxHeartbeats 1000000 in
set_option maxRecDepth 100000 in
theorem folds_long (L : List Int) (A : Option Addr) (c : Nat) (x0 : Int) (w : World) (hL : ¬ L.length ≤ 200) (hL2 : L.length ≤ 9223372036854775807) :
    Calls Try.prog 5 #[.slice A L.length c, .int .i64 x0] w fun e w' => e = .returned (.bool true) ∧ Below w.heap.size w w' := by
  go_enter Try.func5, Try.ntmps5
  go_wp2_with (first
    | (go_at_call 8; refine (small_any _).mono ?_; rintro e w2 ⟨rfl, hb2⟩))
  go_ret
  exact ⟨rfl, hb2⟩

theorem folds_walk (L : List Int) (A : Option Addr) (c : Nat) (x0 : Int) (w : World) (hL2 : L.length ≤ 9223372036854775807) (h : Holds w A (L.map (Value.int .i64))) :
    Calls Try.prog 5 #[.slice A L.length c, .int .i64 x0] w fun e w' => e = .returned (.bool true) ∧ Below w.heap.size w w' := by
  by_cases hL : L.length ≤ 200
  · have hb := fold_bd L
    have hm := stp_more (fold L) x0 ⟨hb.2.2.1, hb.2.2.2⟩
    have hc := fold_count (sm L 0) (sm_ok L)
    rw [fold_sm] at hc
    refine folds_short L A c x0 w hL h (fold L).1 (fold L).2 (stp (fold L) x0).1 (stp (fold L) x0).2 rfl (fold_rv L) (fold_sm L) (by rw [fold_snoc, fold_rv]) ?_ ?_ hb.1 hb.2.1 hb.2.2.1 hb.2.2.2 hm.1 hm.2.1 hm.2.2
    · split at hc
      · rename_i h4
        exact .inl ⟨hc, h4⟩
      · rename_i h4
        exact .inr ⟨hc, by omega⟩
    · exact decide_eq_decide.2 (fold_pos L).symm
  · exact folds_long L A c x0 w hL hL2

set_option maxRecDepth 100000 in
theorem folds_lifted (os : Os) (started : os.Started) (H : Type) (enc : TypeId × Value → H) :
    ReturnsInHanded {} Try.checked os 5 .any (Rows.boardFoldsSpec.pre6 enc Try.prog Try.f5 Rows.boardFoldsRow.domain false) (Rows.boardFoldsSpec.post enc Try.prog Try.f5 false true false false) := by
  refine returnsInHanded_of_change (C := Try.checked) own started (by kernel_rfl) Try.func5
    (ChangeSpec.witness6 (enc := enc) (C := Try.checked) false ⟨#[], #[.slice none 0 0, .int .i64 0], []⟩ 8 (by kernel_rfl) (by kernel_rfl) (by kernel_rfl) (by kernel_rfl)) ?_
  intro W base args ds gs before hval0 hW hcnd _
  have hval : ∀ (j : Nat) t v, Try.f5.params[j]? = some t → args[j]? = some v → Value.okWide Try.prog W .any base t v := hval0
  have hW' := hW
  obtain ⟨p, q, hA0, hV, rfl, hfz, hnd⟩ := hW
  have hA : DataW.TrodAll enc Try.prog W 0 (fun _ => true) true Try.f5.params.toList args.toList ds p := hA0
  rw [Try.params5] at hA hval
  obtain ⟨v2, vs2, d2, ds2, p2, q2, hargs, rfl, rfl, h2, r2⟩ := trodAll_cons hA
  obtain ⟨v1, vs1, d1, ds1, p1, q1, rfl, rfl, rfl, h1, r1⟩ := trodAll_cons r2
  obtain ⟨rfl, rfl, rfl⟩ := trodAll_nil r1
  obtain rfl : args = #[v2, v1] := by cases args; simp_all
  obtain ⟨rfl, rfl⟩ := trodVars_none hV
  have k2 := h2
  have lt2 : ∀ x ∈ p2, x.block < W.heap.size := by obtain ⟨m, hm⟩ := k2; exact DataW.trod_lt m _ _ _ hm
  obtain ⟨u, rfl, rfl, rfl, wu⟩ := open_int Try.underlying3 (hval 1 3 v1 rfl rfl) h1
  obtain ⟨A, n, c, L, rfl, hn, hLw, hnc, hcm, hh⟩ := open_slice_ints 2 1 Try.underlying26 it3 c3 (by omega) (hval 0 26 v2 rfl rfl) h2
  obtain rfl : n = L.length := by omega
  clear hA0 hval0
  refine (folds_walk L A c u W (by unfold maxLen at hcm; omega) hh).mono fun e W' ⟨he, bel⟩ => ?_
  subst he
  exact ⟨_, rfl, _, _, _, [], _, [], hW', trodAll_mk1 (shut_bool Try.underlying4 _), (trodAll_cons_mk (Below.trod laidOut (by kernel_rfl) (of_decide_eq_true (by kernel_rfl)) k2 bel lt2) (trodAll_cons_mk (shut_int Try.underlying3 wu) trodAll_mk0)), rfl, bel.frame _, fun h => by cases h⟩

theorem boardFolds_holds : Rows.BoardFoldsSaid :=
  OpenClaim.holds_of_wide 5 Try.f5 rfl rfl rfl rfl rfl rfl rfl ⟨rfl, rfl, rfl, rfl, rfl⟩ rfl rfl rfl rfl rfl (by kernel_rfl) Try.func5 (by kernel_rfl)
    (of_decide_eq_true (by kernel_rfl)) (by unfold Func.isWrapper; first | (rw [if_pos (by decide +kernel)]; kernel_rfl) | (rw [if_neg (by decide +kernel)]; exact ⟨rfl, rfl⟩))
    (fun os started H enc _ => folds_lifted os started H enc)
#print axioms boardFolds_holds
end Go.Proofs.Ytlkgofannoddfaa
