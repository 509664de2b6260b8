/- Timer: Clear, At, Next, Set. -/
import Derived.Test.YtndpbciefijjcaaJ
namespace Go.Proofs.Ytndpbciefijjcaa
open Go.RowKit
set_option linter.unusedVariables false
set_option linter.unusedSimpArgs false

def hasF (L : List Tm) (id : Int) : Bool := L.any fun x => x.1 == id
def atF (L : List Tm) (id : Int) : Int := match L.find? (fun x => x.1 == id) with | some x => x.2 | none => 0
def clrF (L : List Tm) (id : Int) : List Tm := L.eraseP fun x => x.1 == id
def nextF (L : List Tm) : Int := (L.head?.map (·.2)).getD 0
def insF (M : List Tm) (x : Tm) : List Tm := M.takeWhile (fun y => decide (ordF y x < 0)) ++ x :: M.dropWhile (fun y => decide (ordF y x < 0))
def setF (L : List Tm) (id at' : Int) : List Tm := if 64 ≤ (clrF L id).length then clrF L id else insF (clrF L id) (id, at')
def setOk (L : List Tm) (id : Int) : Bool := decide ((clrF L id).length < 64)
theorem pl_cases (L : List Tm) (id : Int) : (plF L id = -1 ∧ hasF L id = false ∧ atF L id = 0 ∧ clrF L id = L) ∨
    ∃ k y, k < L.length ∧ L[k]? = some y ∧ plF L id = (k : Nat) ∧ hasF L id = true ∧ atF L id = y.2 ∧ clrF L id = L.eraseIdx k := by
  cases h : L.findIdx? (fun x => x.1 == id) with
  | none =>
    left
    have hn := List.findIdx?_eq_none_iff.1 h
    refine ⟨by simp [plF, h], ?_, ?_, ?_⟩
    · unfold hasF
      rw [List.any_eq_false]
      intro x hx
      simp [hn x hx]
    · unfold atF
      have : L.find? (fun x => x.1 == id) = none := by rw [List.find?_eq_none]; intro x hx; simp [hn x hx]
      rw [this]
    · exact List.eraseP_of_forall_not (fun x hx => by simp [hn x hx])
  | some k =>
    right
    obtain ⟨hk, hp, hlt⟩ := List.findIdx?_eq_some_iff_getElem.1 h
    refine ⟨k, L[k], hk, List.getElem?_eq_getElem hk, by simp [plF, h], ?_, ?_, ?_⟩
    · exact List.any_eq_true.2 ⟨L[k], List.getElem_mem _, hp⟩
    · unfold atF
      have : L.find? (fun x => x.1 == id) = some L[k] := by
        rw [List.find?_eq_some_iff_getElem]
        exact ⟨hp, k, hk, rfl, fun j hj => by have := hlt j hj; simpa using this⟩
      rw [this]
    · have hfi : L.findIdx (fun x => x.1 == id) = k := by
        rw [List.findIdx_eq hk]
        exact ⟨hp, fun j hj => by have := hlt j hj; simpa using this⟩
      unfold clrF
      rw [List.eraseP_eq_eraseIdx, h]
theorem ins_of {M : List Tm} {x : Tm} : ∀ {k : Nat}, k ≤ M.length → Ahead M x k → Behind M x k → M.take k ++ x :: M.drop k = insF M x := by
  induction M with
  | nil => intro k hk _ _; have : k = 0 := by simpa using hk
           subst this; simp [insF]
  | cons y M ih =>
    intro k hk ha hb
    cases k with
    | zero =>
      have := hb 0 (Nat.le_refl _) y rfl
      simp [insF, List.takeWhile_cons, List.dropWhile_cons, this]
    | succ k =>
      have h0 := ha 0 (by omega) y rfl
      have := ih (k := k) (by simpa using hk) (fun q hq z hz => ha (q + 1) (by omega) z (by simpa using hz)) (fun q hq z hz => hb (q + 1) (by omega) z (by simpa using hz))
      simp only [insF, List.takeWhile_cons, List.dropWhile_cons, h0, decide_true, if_true, List.take_succ_cons, List.drop_succ_cons, List.cons_append] at this ⊢
      rw [this]
theorem clr_len (L : List Tm) (id : Int) : (clrF L id).length ≤ L.length := List.length_eraseP_le

theorem z40 : (Try.prog.info? 40).map (·.zero) = some (some (.agg #[.int .i64 0, .int .i64 0])) := by kernel_rfl
theorem insert_any (w : World) (base : Nat) (v : Value) (L : List Tm) (i : Nat) (x : Tm) (bx : Nat) (hown : TOwn w base v L) (hbase : base ≤ w.heap.size) (hi : i ≤ L.length) (hx : Block w bx 40 #[.int .i64 x.1, .int .i64 x.2]) (hne : v.ownBlock ≠ some bx) (hn : L.length ≤ 100000) :
    Calls Try.prog 25 #[v, .int .i64 i, .slice (some ⟨bx, 0, none⟩) 1 1] w fun e w' => (∃ v', e = .returned v' ∧ TOwn w' base v' (L.take i ++ x :: L.drop i)) ∧ Below base w w' := by
  by_cases hlast : i = L.length
  · subst hlast
    have := ins_last w base v L x bx hown hbase hx hn
    rwa [List.take_length, List.drop_length]
  · obtain ⟨hl, ⟨rfl, h0⟩ | ⟨g, cap, cur, rfl, hbg, hg, hc, hcm, hcs, htk⟩⟩ := hown
    · omega
    · by_cases hroom : L.length + 1 ≤ cap
      · exact ins_room w base g cap L.length cur L i x bx rfl hbg hg hcs hcm htk hbase (by omega) hx (fun e => hne (by rw [e]; rfl)) hn hroom
      · exact ins_grow w base g cap L.length cur L i x bx rfl hg hcs htk hc hbase (by omega) hx hn (by omega)
set_option maxHeartbeats 1000000 in
theorem clear_any (w : World) (v : Value) (L : List Tm) (id : Int) (h : TRow w v L) (hn : L.length ≤ 100000) :
    Calls Try.prog 12 #[v, .int .i64 id] w fun e w' => (∃ v', e = .returned (.tuple #[v', .bool (hasF L id)]) ∧ TOwn w' w.heap.size v' (clrF L id)) ∧ Below w.heap.size w w' := by
  have hall := Below.refl w.heap.size w
  rcases pl_cases L id with ⟨hp, hh, _, hc⟩ | ⟨k, y, hk, hy, hp, hh, _, hc⟩
  · have HP := Lib.hid hp
    have HH := Lib.hid hh
    have HC := Lib.hid hc
    clear hp hh hc
    go_enter Try.func12, Try.ntmps12
    go_upto_region 0 with (fail)
    refine wp_region_lit ?_
    refine wl_v ?_ ?_ ?_; rotate_left; (focus (go_simp; (try with_reducible rfl); done)); try simp only [Act.put, List.setIfInBounds_toArray, List.set_cons_zero, List.set_cons_succ]
    refine wl_v ?_ ?_ ?_; rotate_left; (focus (go_simp; (try with_reducible rfl); done)); try simp only [Act.put, List.setIfInBounds_toArray, List.set_cons_zero, List.set_cons_succ]
    go_upto_region 1 with (fail)
    refine wp_region_lit ?_
    refine wl_v ?_ ?_ ?_; rotate_left; (focus (go_simp; (try with_reducible rfl); done)); try simp only [Act.put, List.setIfInBounds_toArray, List.set_cons_zero, List.set_cons_succ]
    refine wl_call _ _ _ (clone_any _ v L h hn) (by go_simp) ?_; rintro e w1 ⟨⟨v1, rfl, hown⟩, hb⟩; refine ⟨_, rfl, ?_⟩; replace hall := hall.trans (hb.mono hall.size); replace h := h.up hb; clear hb; try simp only [Act.put, List.setIfInBounds_toArray, List.set_cons_zero, List.set_cons_succ]
    refine wl_v ?_ ?_ ?_; rotate_left; (focus (go_simp; (try with_reducible rfl); done)); try simp only [Act.put, List.setIfInBounds_toArray, List.set_cons_zero, List.set_cons_succ]
    go_upto_region 2 with (fail)
    refine wp_region_lit ?_
    refine wl_v ?_ ?_ ?_; rotate_left; (focus (go_simp; (try with_reducible rfl); done)); try simp only [Act.put, List.setIfInBounds_toArray, List.set_cons_zero, List.set_cons_succ]
    refine wl_v ?_ ?_ ?_; rotate_left; (focus (go_simp; (try with_reducible rfl); done)); try simp only [Act.put, List.setIfInBounds_toArray, List.set_cons_zero, List.set_cons_succ]
    refine wl_call _ _ _ (place_any _ v L id h (by omega)) (by go_simp) ?_; rintro e w2 ⟨rfl, hb⟩; refine ⟨_, rfl, ?_⟩; rw [HP.out]; replace hall := hall.trans (hb.mono hall.size); replace hown := own_ups hown hb; clear hb h; try simp only [Act.put, List.setIfInBounds_toArray, List.set_cons_zero, List.set_cons_succ]
    refine wl_v ?_ ?_ ?_; rotate_left; (focus (go_simp; (try with_reducible rfl); done)); try simp only [Act.put, List.setIfInBounds_toArray, List.set_cons_zero, List.set_cons_succ]
    go_upto_region 3 with (fail)
    refine wp_region_lit ?_
    refine wl_v ?_ ?_ ?_; rotate_left; (focus (go_simp; (try with_reducible rfl); done)); try simp only [Act.put, List.setIfInBounds_toArray, List.set_cons_zero, List.set_cons_succ]
    refine wl_v (.bool true) (by go_simp <;> omega) ?_; try simp only [Act.put, List.setIfInBounds_toArray, List.set_cons_zero, List.set_cons_succ]
    go_wp2_with fail
    go_ret2
    exact ⟨⟨_, by rw [HH.out]; rfl, by rw [HC.out]; exact hown⟩, hall⟩
  · have HP := Lib.hid hp
    have HH := Lib.hid hh
    have HC := Lib.hid hc
    clear hp hh hc hy
    go_enter Try.func12, Try.ntmps12
    go_upto_region 0 with (fail)
    refine wp_region_lit ?_
    refine wl_v ?_ ?_ ?_; rotate_left; (focus (go_simp; (try with_reducible rfl); done)); try simp only [Act.put, List.setIfInBounds_toArray, List.set_cons_zero, List.set_cons_succ]
    refine wl_v ?_ ?_ ?_; rotate_left; (focus (go_simp; (try with_reducible rfl); done)); try simp only [Act.put, List.setIfInBounds_toArray, List.set_cons_zero, List.set_cons_succ]
    go_upto_region 1 with (fail)
    refine wp_region_lit ?_
    refine wl_v ?_ ?_ ?_; rotate_left; (focus (go_simp; (try with_reducible rfl); done)); try simp only [Act.put, List.setIfInBounds_toArray, List.set_cons_zero, List.set_cons_succ]
    refine wl_call _ _ _ (clone_any _ v L h hn) (by go_simp) ?_; rintro e w1 ⟨⟨v1, rfl, hown⟩, hb⟩; refine ⟨_, rfl, ?_⟩; replace hall := hall.trans (hb.mono hall.size); replace h := h.up hb; clear hb; try simp only [Act.put, List.setIfInBounds_toArray, List.set_cons_zero, List.set_cons_succ]
    refine wl_v ?_ ?_ ?_; rotate_left; (focus (go_simp; (try with_reducible rfl); done)); try simp only [Act.put, List.setIfInBounds_toArray, List.set_cons_zero, List.set_cons_succ]
    go_upto_region 2 with (fail)
    refine wp_region_lit ?_
    refine wl_v ?_ ?_ ?_; rotate_left; (focus (go_simp; (try with_reducible rfl); done)); try simp only [Act.put, List.setIfInBounds_toArray, List.set_cons_zero, List.set_cons_succ]
    refine wl_v ?_ ?_ ?_; rotate_left; (focus (go_simp; (try with_reducible rfl); done)); try simp only [Act.put, List.setIfInBounds_toArray, List.set_cons_zero, List.set_cons_succ]
    refine wl_call _ _ _ (place_any _ v L id h (by omega)) (by go_simp) ?_; rintro e w2 ⟨rfl, hb⟩; refine ⟨_, rfl, ?_⟩; rw [HP.out]; replace hall := hall.trans (hb.mono hall.size); replace hown := own_ups hown hb; clear hb h; try simp only [Act.put, List.setIfInBounds_toArray, List.set_cons_zero, List.set_cons_succ]
    refine wl_v ?_ ?_ ?_; rotate_left; (focus (go_simp; (try with_reducible rfl); done)); try simp only [Act.put, List.setIfInBounds_toArray, List.set_cons_zero, List.set_cons_succ]
    go_upto_region 3 with (fail)
    refine wp_region_lit ?_
    refine wl_v ?_ ?_ ?_; rotate_left; (focus (go_simp; (try with_reducible rfl); done)); try simp only [Act.put, List.setIfInBounds_toArray, List.set_cons_zero, List.set_cons_succ]
    refine wl_v (.bool false) (by go_simp <;> omega) ?_; try simp only [Act.put, List.setIfInBounds_toArray, List.set_cons_zero, List.set_cons_succ]
    go_upto_region 5 with (fail)
    refine wp_region_lit ?_
    refine wl_v ?_ ?_ ?_; rotate_left; (focus (go_simp; (try with_reducible rfl); done)); try simp only [Act.put, List.setIfInBounds_toArray, List.set_cons_zero, List.set_cons_succ]
    refine wl_v ?_ ?_ ?_; rotate_left; (focus (go_simp; (try with_reducible rfl); done)); try simp only [Act.put, List.setIfInBounds_toArray, List.set_cons_zero, List.set_cons_succ]
    refine wl_v ?_ ?_ ?_; rotate_left; (focus (go_simp; (try with_reducible rfl); done)); try simp only [Act.put, List.setIfInBounds_toArray, List.set_cons_zero, List.set_cons_succ]
    refine wl_v (.int .i64 (k + 1 : Nat)) (by go_simp <;> exact IntWalk.i64_in _ (by omega)) ?_; try simp only [Act.put, List.setIfInBounds_toArray, List.set_cons_zero, List.set_cons_succ]
    refine wl_call _ _ _ (delete_any _ w.heap.size v1 L hown k hk hn) (by go_simp) ?_; rintro e w3 ⟨⟨v2, rfl, hown2⟩, hb⟩; refine ⟨_, rfl, ?_⟩; replace hall := hall.trans hb; clear hb hown; try simp only [Act.put, List.setIfInBounds_toArray, List.set_cons_zero, List.set_cons_succ]
    refine wl_v ?_ ?_ ?_; rotate_left; (focus (go_simp; (try with_reducible rfl); done)); try simp only [Act.put, List.setIfInBounds_toArray, List.set_cons_zero, List.set_cons_succ]
    refine wl_v ?_ ?_ ?_; rotate_left; (focus (go_simp; (try with_reducible rfl); done)); try simp only [Act.put, List.setIfInBounds_toArray, List.set_cons_zero, List.set_cons_succ]
    go_wp2_with fail
    go_ret2
    exact ⟨⟨_, by rw [HH.out]; rfl, by rw [HC.out]; exact hown2⟩, hall⟩
set_option maxHeartbeats 1000000 in
theorem at_any (w : World) (v : Value) (L : List Tm) (id : Int) (h : TRow w v L) (hn : L.length ≤ 9223372036854775807) :
    Calls Try.prog 17 #[v, .int .i64 id] w fun e w' => e = .returned (.tuple #[.int .i64 (atF L id), .bool (hasF L id)]) ∧ Below w.heap.size w w' := by
  have hall := Below.refl w.heap.size w
  rcases pl_cases L id with ⟨hp, hh, ha, _⟩ | ⟨k, y, hk, hy, hp, hh, ha, _⟩
  · have HP := Lib.hid hp
    have HH := Lib.hid hh
    have HA := Lib.hid ha
    clear hp hh ha
    go_enter Try.func17, Try.ntmps17
    go_upto_region 0 with (fail)
    refine wp_region_lit ?_
    refine wl_v ?_ ?_ ?_; rotate_left; (focus (go_simp; (try with_reducible rfl); done)); try simp only [Act.put, List.setIfInBounds_toArray, List.set_cons_zero, List.set_cons_succ]
    refine wl_v ?_ ?_ ?_; rotate_left; (focus (go_simp; (try with_reducible rfl); done)); try simp only [Act.put, List.setIfInBounds_toArray, List.set_cons_zero, List.set_cons_succ]
    go_upto_region 1 with (fail)
    refine wp_region_lit ?_
    refine wl_v ?_ ?_ ?_; rotate_left; (focus (go_simp; (try with_reducible rfl); done)); try simp only [Act.put, List.setIfInBounds_toArray, List.set_cons_zero, List.set_cons_succ]
    refine wl_v ?_ ?_ ?_; rotate_left; (focus (go_simp; (try with_reducible rfl); done)); try simp only [Act.put, List.setIfInBounds_toArray, List.set_cons_zero, List.set_cons_succ]
    refine wl_call _ _ _ (place_any _ v L id h hn) (by go_simp) ?_; rintro e w2 ⟨rfl, hb⟩; refine ⟨_, rfl, ?_⟩; rw [HP.out]; replace hall := hall.trans (hb.mono hall.size); replace h := h.up hb; clear hb; try simp only [Act.put, List.setIfInBounds_toArray, List.set_cons_zero, List.set_cons_succ]
    refine wl_v ?_ ?_ ?_; rotate_left; (focus (go_simp; (try with_reducible rfl); done)); try simp only [Act.put, List.setIfInBounds_toArray, List.set_cons_zero, List.set_cons_succ]
    go_upto_region 2 with (fail)
    refine wp_region_lit ?_
    refine wl_v ?_ ?_ ?_; rotate_left; (focus (go_simp; (try with_reducible rfl); done)); try simp only [Act.put, List.setIfInBounds_toArray, List.set_cons_zero, List.set_cons_succ]
    refine wl_v (.bool false) (by go_simp <;> omega) ?_; try simp only [Act.put, List.setIfInBounds_toArray, List.set_cons_zero, List.set_cons_succ]
    go_wp2_with fail
    go_ret2
    exact ⟨by rw [HH.out, HA.out]; rfl, hall⟩
  · have HP := Lib.hid hp
    have HH := Lib.hid hh
    have HA := Lib.hid ha
    have HY : Hid (L[k] = y) := Lib.hid (by have := List.getElem?_eq_getElem hk; rw [hy] at this; injection this with this; exact this.symm)
    clear hp hh ha hy
    go_enter Try.func17, Try.ntmps17
    go_upto_region 0 with (fail)
    refine wp_region_lit ?_
    refine wl_v ?_ ?_ ?_; rotate_left; (focus (go_simp; (try with_reducible rfl); done)); try simp only [Act.put, List.setIfInBounds_toArray, List.set_cons_zero, List.set_cons_succ]
    refine wl_v ?_ ?_ ?_; rotate_left; (focus (go_simp; (try with_reducible rfl); done)); try simp only [Act.put, List.setIfInBounds_toArray, List.set_cons_zero, List.set_cons_succ]
    go_upto_region 1 with (fail)
    refine wp_region_lit ?_
    refine wl_v ?_ ?_ ?_; rotate_left; (focus (go_simp; (try with_reducible rfl); done)); try simp only [Act.put, List.setIfInBounds_toArray, List.set_cons_zero, List.set_cons_succ]
    refine wl_v ?_ ?_ ?_; rotate_left; (focus (go_simp; (try with_reducible rfl); done)); try simp only [Act.put, List.setIfInBounds_toArray, List.set_cons_zero, List.set_cons_succ]
    refine wl_call _ _ _ (place_any _ v L id h hn) (by go_simp) ?_; rintro e w2 ⟨rfl, hb⟩; refine ⟨_, rfl, ?_⟩; rw [HP.out]; replace hall := hall.trans (hb.mono hall.size); replace h := h.up hb; clear hb; try simp only [Act.put, List.setIfInBounds_toArray, List.set_cons_zero, List.set_cons_succ]
    refine wl_v ?_ ?_ ?_; rotate_left; (focus (go_simp; (try with_reducible rfl); done)); try simp only [Act.put, List.setIfInBounds_toArray, List.set_cons_zero, List.set_cons_succ]
    go_upto_region 2 with (fail)
    refine wp_region_lit ?_
    refine wl_v ?_ ?_ ?_; rotate_left; (focus (go_simp; (try with_reducible rfl); done)); try simp only [Act.put, List.setIfInBounds_toArray, List.set_cons_zero, List.set_cons_succ]
    refine wl_v (.bool true) (by go_simp <;> omega) ?_; try simp only [Act.put, List.setIfInBounds_toArray, List.set_cons_zero, List.set_cons_succ]
    obtain ⟨A, c, rfl, h1, h2, h3, hh⟩ := h
    obtain ⟨b, o, rfl, hrg⟩ := flat_some encT_len hh (by omega) hk
    rw [HY.out] at hrg
    have hc1 := range_cell hrg 1 (v := .int .i64 y.2) rfl
    have hkI : (k : Int) < L.length := by omega
    clear hrg hh
    go_upto_region 3 with (fail)
    refine wp_region_lit ?_
    refine wl_v ?_ ?_ ?_; rotate_left; (focus (go_simp; (try with_reducible rfl); done)); try simp only [Act.put, List.setIfInBounds_toArray, List.set_cons_zero, List.set_cons_succ]
    refine wl_v ?_ ?_ ?_; rotate_left; (focus (go_simp; (try with_reducible rfl); done)); try simp only [Act.put, List.setIfInBounds_toArray, List.set_cons_zero, List.set_cons_succ]
    refine wl_v ?_ ?_ ?_; rotate_left; (focus (go_simp; (try with_reducible rfl); done)); try simp only [Act.put, List.setIfInBounds_toArray, List.set_cons_zero, List.set_cons_succ]
    refine wl_v ?_ ?_ ?_; rotate_left; (focus (go_simp; (try with_reducible rfl); done)); try simp only [Act.put, List.setIfInBounds_toArray, List.set_cons_zero, List.set_cons_succ]
    refine wl_v ?_ ?_ ?_; rotate_left; (focus (go_simp; (try with_reducible rfl); done)); try simp only [Act.put, List.setIfInBounds_toArray, List.set_cons_zero, List.set_cons_succ]
    refine wl_v ?_ ?_ ?_; rotate_left; (focus (go_simp; (try with_reducible rfl); done)); try simp only [Act.put, List.setIfInBounds_toArray, List.set_cons_zero, List.set_cons_succ]
    refine wl_v ?_ ?_ ?_; rotate_left; (focus (go_simp; (try with_reducible rfl); done)); try simp only [Act.put, List.setIfInBounds_toArray, List.set_cons_zero, List.set_cons_succ]
    go_wp2_with fail
    go_ret2
    exact ⟨by rw [HH.out, HA.out]; rfl, hall⟩
set_option maxHeartbeats 1000000 in
theorem next19_any (w : World) (v : Value) (L : List Tm) (h : TRow w v L) (hn : L.length ≤ 9223372036854775807) :
    Calls Try.prog 19 #[v] w fun e w' => e = .returned (.tuple #[.int .i64 (nextF L), .bool (!L.isEmpty)]) ∧ w = w' := by
  obtain ⟨A, c, rfl, h1, h2, h3, hh⟩ := h
  cases L with
  | nil =>
    simp only [List.length_nil, nextF, List.isEmpty_nil, List.head?_nil, Option.map_none, Option.getD_none, Bool.not_true]
    go_enter Try.func19, Try.ntmps19
    go_upto_region 0 with (fail)
    refine wp_region_lit ?_
    refine wl_v ?_ ?_ ?_; rotate_left; (focus (go_simp; (try with_reducible rfl); done)); try simp only [Act.put, List.setIfInBounds_toArray, List.set_cons_zero, List.set_cons_succ]
    refine wl_v ?_ ?_ ?_; rotate_left; (focus (go_simp; (try with_reducible rfl); done)); try simp only [Act.put, List.setIfInBounds_toArray, List.set_cons_zero, List.set_cons_succ]
    go_upto_region 1 with (fail)
    refine wp_region_lit ?_
    refine wl_v ?_ ?_ ?_; rotate_left; (focus (go_simp; (try with_reducible rfl); done)); try simp only [Act.put, List.setIfInBounds_toArray, List.set_cons_zero, List.set_cons_succ]
    refine wl_v ?_ ?_ ?_; rotate_left; (focus (go_simp; (try with_reducible rfl); done)); try simp only [Act.put, List.setIfInBounds_toArray, List.set_cons_zero, List.set_cons_succ]
    refine wl_v (.bool true) (by go_simp <;> omega) ?_; try simp only [Act.put, List.setIfInBounds_toArray, List.set_cons_zero, List.set_cons_succ]
    go_wp2_with fail
    go_ret2
    exact ⟨rfl, rfl⟩
  | cons y L =>
    obtain ⟨b, o, rfl, hrg⟩ := flat_some encT_len hh (by omega) (j := 0) (by simp)
    simp only [Nat.zero_mul, Nat.add_zero, List.getElem_cons_zero] at hrg
    have hc1 := range_cell hrg 1 (v := .int .i64 y.2) rfl
    simp only [List.length_cons, nextF, List.isEmpty_cons, List.head?_cons, Option.map_some, Option.getD_some, Bool.not_false] at hn ⊢
    generalize L.length = m at *
    clear hrg hh
    go_enter Try.func19, Try.ntmps19
    go_upto_region 0 with (fail)
    refine wp_region_lit ?_
    refine wl_v ?_ ?_ ?_; rotate_left; (focus (go_simp; (try with_reducible rfl); done)); try simp only [Act.put, List.setIfInBounds_toArray, List.set_cons_zero, List.set_cons_succ]
    refine wl_v ?_ ?_ ?_; rotate_left; (focus (go_simp; (try with_reducible rfl); done)); try simp only [Act.put, List.setIfInBounds_toArray, List.set_cons_zero, List.set_cons_succ]
    go_upto_region 1 with (fail)
    refine wp_region_lit ?_
    refine wl_v ?_ ?_ ?_; rotate_left; (focus (go_simp; (try with_reducible rfl); done)); try simp only [Act.put, List.setIfInBounds_toArray, List.set_cons_zero, List.set_cons_succ]
    refine wl_v ?_ ?_ ?_; rotate_left; (focus (go_simp; (try with_reducible rfl); done)); try simp only [Act.put, List.setIfInBounds_toArray, List.set_cons_zero, List.set_cons_succ]
    refine wl_v (.bool false) (by go_simp <;> omega) ?_; try simp only [Act.put, List.setIfInBounds_toArray, List.set_cons_zero, List.set_cons_succ]
    go_upto_region 3 with (fail)
    refine wp_region_lit ?_
    refine wl_v ?_ ?_ ?_; rotate_left; (focus (go_simp; (try with_reducible rfl); done)); try simp only [Act.put, List.setIfInBounds_toArray, List.set_cons_zero, List.set_cons_succ]
    refine wl_v ?_ ?_ ?_; rotate_left; (focus (go_simp; (try with_reducible rfl); done)); try simp only [Act.put, List.setIfInBounds_toArray, List.set_cons_zero, List.set_cons_succ]
    refine wl_v ?_ ?_ ?_; rotate_left; (focus (go_simp; (try with_reducible rfl); done)); try simp only [Act.put, List.setIfInBounds_toArray, List.set_cons_zero, List.set_cons_succ]
    refine wl_v ?_ ?_ ?_; rotate_left; (focus (go_simp; (try with_reducible rfl); done)); try simp only [Act.put, List.setIfInBounds_toArray, List.set_cons_zero, List.set_cons_succ]
    refine wl_v ?_ ?_ ?_; rotate_left; (focus (go_simp; (try with_reducible rfl); done)); try simp only [Act.put, List.setIfInBounds_toArray, List.set_cons_zero, List.set_cons_succ]
    refine wl_v ?_ ?_ ?_; rotate_left; (focus (go_simp; (try with_reducible rfl); done)); try simp only [Act.put, List.setIfInBounds_toArray, List.set_cons_zero, List.set_cons_succ]
    go_wp2_with fail
    go_ret2
    exact ⟨rfl, rfl⟩
set_option maxHeartbeats 1000000 in
theorem next20_any (w : World) (v : Value) (L : List Tm) (h : TRow w v L) (hn : L.length ≤ 9223372036854775807) :
    Calls Try.prog 20 #[v] w fun e w' => e = .returned (.tuple #[.int .i64 (nextF L), .bool (!L.isEmpty)]) ∧ w = w' := by
  obtain ⟨A, c, rfl, h1, h2, h3, hh⟩ := h
  cases L with
  | nil =>
    simp only [List.length_nil, nextF, List.isEmpty_nil, List.head?_nil, Option.map_none, Option.getD_none, Bool.not_true]
    go_enter Try.func20, Try.ntmps20
    go_upto_region 0 with (fail)
    refine wp_region_lit ?_
    refine wl_v ?_ ?_ ?_; rotate_left; (focus (go_simp; (try with_reducible rfl); done)); try simp only [Act.put, List.setIfInBounds_toArray, List.set_cons_zero, List.set_cons_succ]
    refine wl_v ?_ ?_ ?_; rotate_left; (focus (go_simp; (try with_reducible rfl); done)); try simp only [Act.put, List.setIfInBounds_toArray, List.set_cons_zero, List.set_cons_succ]
    go_upto_region 1 with (fail)
    refine wp_region_lit ?_
    refine wl_v ?_ ?_ ?_; rotate_left; (focus (go_simp; (try with_reducible rfl); done)); try simp only [Act.put, List.setIfInBounds_toArray, List.set_cons_zero, List.set_cons_succ]
    refine wl_v ?_ ?_ ?_; rotate_left; (focus (go_simp; (try with_reducible rfl); done)); try simp only [Act.put, List.setIfInBounds_toArray, List.set_cons_zero, List.set_cons_succ]
    refine wl_v (.bool true) (by go_simp <;> omega) ?_; try simp only [Act.put, List.setIfInBounds_toArray, List.set_cons_zero, List.set_cons_succ]
    go_wp2_with fail
    go_ret2
    exact ⟨rfl, rfl⟩
  | cons y L =>
    obtain ⟨b, o, rfl, hrg⟩ := flat_some encT_len hh (by omega) (j := 0) (by simp)
    simp only [Nat.zero_mul, Nat.add_zero, List.getElem_cons_zero] at hrg
    have hc1 := range_cell hrg 1 (v := .int .i64 y.2) rfl
    simp only [List.length_cons, nextF, List.isEmpty_cons, List.head?_cons, Option.map_some, Option.getD_some, Bool.not_false] at hn ⊢
    generalize L.length = m at *
    clear hrg hh
    go_enter Try.func20, Try.ntmps20
    go_upto_region 0 with (fail)
    refine wp_region_lit ?_
    refine wl_v ?_ ?_ ?_; rotate_left; (focus (go_simp; (try with_reducible rfl); done)); try simp only [Act.put, List.setIfInBounds_toArray, List.set_cons_zero, List.set_cons_succ]
    refine wl_v ?_ ?_ ?_; rotate_left; (focus (go_simp; (try with_reducible rfl); done)); try simp only [Act.put, List.setIfInBounds_toArray, List.set_cons_zero, List.set_cons_succ]
    go_upto_region 1 with (fail)
    refine wp_region_lit ?_
    refine wl_v ?_ ?_ ?_; rotate_left; (focus (go_simp; (try with_reducible rfl); done)); try simp only [Act.put, List.setIfInBounds_toArray, List.set_cons_zero, List.set_cons_succ]
    refine wl_v ?_ ?_ ?_; rotate_left; (focus (go_simp; (try with_reducible rfl); done)); try simp only [Act.put, List.setIfInBounds_toArray, List.set_cons_zero, List.set_cons_succ]
    refine wl_v (.bool false) (by go_simp <;> omega) ?_; try simp only [Act.put, List.setIfInBounds_toArray, List.set_cons_zero, List.set_cons_succ]
    go_upto_region 3 with (fail)
    refine wp_region_lit ?_
    refine wl_v ?_ ?_ ?_; rotate_left; (focus (go_simp; (try with_reducible rfl); done)); try simp only [Act.put, List.setIfInBounds_toArray, List.set_cons_zero, List.set_cons_succ]
    refine wl_v ?_ ?_ ?_; rotate_left; (focus (go_simp; (try with_reducible rfl); done)); try simp only [Act.put, List.setIfInBounds_toArray, List.set_cons_zero, List.set_cons_succ]
    refine wl_v ?_ ?_ ?_; rotate_left; (focus (go_simp; (try with_reducible rfl); done)); try simp only [Act.put, List.setIfInBounds_toArray, List.set_cons_zero, List.set_cons_succ]
    refine wl_v ?_ ?_ ?_; rotate_left; (focus (go_simp; (try with_reducible rfl); done)); try simp only [Act.put, List.setIfInBounds_toArray, List.set_cons_zero, List.set_cons_succ]
    refine wl_v ?_ ?_ ?_; rotate_left; (focus (go_simp; (try with_reducible rfl); done)); try simp only [Act.put, List.setIfInBounds_toArray, List.set_cons_zero, List.set_cons_succ]
    refine wl_v ?_ ?_ ?_; rotate_left; (focus (go_simp; (try with_reducible rfl); done)); try simp only [Act.put, List.setIfInBounds_toArray, List.set_cons_zero, List.set_cons_succ]
    go_wp2_with fail
    go_ret2
    exact ⟨rfl, rfl⟩
set_option maxHeartbeats 1000000 in
theorem set_any (w : World) (v : Value) (L : List Tm) (id at' : Int) (h : TRow w v L) (hn : L.length ≤ 90000) (hmo : Mono (clrF L id) (id, at')) :
    Calls Try.prog 10 #[v, .int .i64 id, .int .i64 at'] w fun e w' => (∃ v', e = .returned (.tuple #[v', .bool (setOk L id)]) ∧ TOwn w' w.heap.size v' (setF L id at')) ∧ Below w.heap.size w w' := by
  have hall := Below.refl w.heap.size w
  have hcl := clr_len L id
  replace hn : L.length ≤ 100000 := by omega
  have HMO0 := Lib.hid hmo
  clear hmo
  by_cases h64 : 64 ≤ (clrF L id).length
  · have HS : Hid (setF L id at' = clrF L id) := Lib.hid (by unfold setF; rw [if_pos h64])
    have HF : Hid (setOk L id = false) := Lib.hid (by simp [setOk]; omega)
    obtain ⟨M, hM⟩ : ∃ M, clrF L id = M := ⟨_, rfl⟩
    rw [hM] at h64 hcl HS
    have HM := Lib.hid hM
    clear hM HMO0
    go_enter Try.func10, Try.ntmps10
    go_upto_region 0 with (fail)
    refine wp_region_lit ?_
    refine wl_v ?_ ?_ ?_; rotate_left; (focus (go_simp; (try with_reducible rfl); done)); try simp only [Act.put, List.setIfInBounds_toArray, List.set_cons_zero, List.set_cons_succ]
    refine wl_v ?_ ?_ ?_; rotate_left; (focus (go_simp; (try with_reducible rfl); done)); try simp only [Act.put, List.setIfInBounds_toArray, List.set_cons_zero, List.set_cons_succ]
    go_upto_region 1 with (fail)
    refine wp_region_lit ?_
    refine wl_v ?_ ?_ ?_; rotate_left; (focus (go_simp; (try with_reducible rfl); done)); try simp only [Act.put, List.setIfInBounds_toArray, List.set_cons_zero, List.set_cons_succ]
    refine wl_v ?_ ?_ ?_; rotate_left; (focus (go_simp; (try with_reducible rfl); done)); try simp only [Act.put, List.setIfInBounds_toArray, List.set_cons_zero, List.set_cons_succ]
    refine wl_call _ _ _ (clear_any _ v L id h hn) (by go_simp) ?_; rintro e w1 ⟨⟨v1, rfl, hown⟩, hb⟩; refine ⟨_, rfl, ?_⟩; rw [HM.out] at hown; replace hall := hall.trans (hb.mono hall.size); clear hb h; obtain ⟨A, c, rfl, hh, hmc, hcm⟩ := own_slice hown; try simp only [Act.put, List.setIfInBounds_toArray, List.set_cons_zero, List.set_cons_succ]
    refine wl_v ?_ ?_ ?_; rotate_left; (focus (go_simp; (try with_reducible rfl); done)); try simp only [Act.put, List.setIfInBounds_toArray, List.set_cons_zero, List.set_cons_succ]
    refine wl_v ?_ ?_ ?_; rotate_left; (focus (go_simp; (try with_reducible rfl); done)); try simp only [Act.put, List.setIfInBounds_toArray, List.set_cons_zero, List.set_cons_succ]
    refine wl_v ?_ ?_ ?_; rotate_left; (focus (go_simp; (try with_reducible rfl); done)); try simp only [Act.put, List.setIfInBounds_toArray, List.set_cons_zero, List.set_cons_succ]
    refine wl_v ?_ ?_ ?_; rotate_left; (focus (go_simp; (try with_reducible rfl); done)); try simp only [Act.put, List.setIfInBounds_toArray, List.set_cons_zero, List.set_cons_succ]
    refine wl_v ?_ ?_ ?_; rotate_left; (focus (go_simp; (try with_reducible rfl); done)); try simp only [Act.put, List.setIfInBounds_toArray, List.set_cons_zero, List.set_cons_succ]
    go_upto_region 2 with (fail)
    refine wp_region_lit ?_
    refine wl_v ?_ ?_ ?_; rotate_left; (focus (go_simp; (try with_reducible rfl); done)); try simp only [Act.put, List.setIfInBounds_toArray, List.set_cons_zero, List.set_cons_succ]
    refine wl_v ?_ ?_ ?_; rotate_left; (focus (go_simp; (try with_reducible rfl); done)); try simp only [Act.put, List.setIfInBounds_toArray, List.set_cons_zero, List.set_cons_succ]
    refine wl_v (.bool true) (by go_simp <;> omega) ?_; try simp only [Act.put, List.setIfInBounds_toArray, List.set_cons_zero, List.set_cons_succ]
    go_wp2_with fail
    go_ret2
    exact ⟨⟨_, by rw [HF.out]; rfl, by rw [HS.out]; exact hown⟩, hall⟩
  · have HS : Hid (setF L id at' = insF (clrF L id) (id, at')) := Lib.hid (by unfold setF; rw [if_neg h64])
    have HF : Hid (setOk L id = true) := Lib.hid (by simp [setOk]; omega)
    obtain ⟨M, hM⟩ : ∃ M, clrF L id = M := ⟨_, rfl⟩
    rw [hM] at h64 hcl HS
    have HM := Lib.hid hM
    have HMO : Hid (Mono M (id, at')) := Lib.hid (by rw [← hM]; exact HMO0.out)
    clear hM HMO0
    go_enter Try.func10, Try.ntmps10
    go_upto_region 0 with (fail)
    refine wp_region_lit ?_
    refine wl_v ?_ ?_ ?_; rotate_left; (focus (go_simp; (try with_reducible rfl); done)); try simp only [Act.put, List.setIfInBounds_toArray, List.set_cons_zero, List.set_cons_succ]
    refine wl_v ?_ ?_ ?_; rotate_left; (focus (go_simp; (try with_reducible rfl); done)); try simp only [Act.put, List.setIfInBounds_toArray, List.set_cons_zero, List.set_cons_succ]
    go_upto_region 1 with (fail)
    refine wp_region_lit ?_
    refine wl_v ?_ ?_ ?_; rotate_left; (focus (go_simp; (try with_reducible rfl); done)); try simp only [Act.put, List.setIfInBounds_toArray, List.set_cons_zero, List.set_cons_succ]
    refine wl_v ?_ ?_ ?_; rotate_left; (focus (go_simp; (try with_reducible rfl); done)); try simp only [Act.put, List.setIfInBounds_toArray, List.set_cons_zero, List.set_cons_succ]
    refine wl_call _ _ _ (clear_any _ v L id h hn) (by go_simp) ?_; rintro e w1 ⟨⟨v1, rfl, hown⟩, hb⟩; refine ⟨_, rfl, ?_⟩; rw [HM.out] at hown; replace hall := hall.trans (hb.mono hall.size); clear hb h; obtain ⟨A, c, rfl, hh, hmc, hcm⟩ := own_slice hown; try simp only [Act.put, List.setIfInBounds_toArray, List.set_cons_zero, List.set_cons_succ]
    refine wl_v ?_ ?_ ?_; rotate_left; (focus (go_simp; (try with_reducible rfl); done)); try simp only [Act.put, List.setIfInBounds_toArray, List.set_cons_zero, List.set_cons_succ]
    refine wl_v ?_ ?_ ?_; rotate_left; (focus (go_simp; (try with_reducible rfl); done)); try simp only [Act.put, List.setIfInBounds_toArray, List.set_cons_zero, List.set_cons_succ]
    refine wl_v ?_ ?_ ?_; rotate_left; (focus (go_simp; (try with_reducible rfl); done)); try simp only [Act.put, List.setIfInBounds_toArray, List.set_cons_zero, List.set_cons_succ]
    refine wl_v ?_ ?_ ?_; rotate_left; (focus (go_simp; (try with_reducible rfl); done)); try simp only [Act.put, List.setIfInBounds_toArray, List.set_cons_zero, List.set_cons_succ]
    refine wl_v ?_ ?_ ?_; rotate_left; (focus (go_simp; (try with_reducible rfl); done)); try simp only [Act.put, List.setIfInBounds_toArray, List.set_cons_zero, List.set_cons_succ]
    go_upto_region 2 with (fail)
    refine wp_region_lit ?_
    refine wl_v ?_ ?_ ?_; rotate_left; (focus (go_simp; (try with_reducible rfl); done)); try simp only [Act.put, List.setIfInBounds_toArray, List.set_cons_zero, List.set_cons_succ]
    refine wl_v ?_ ?_ ?_; rotate_left; (focus (go_simp; (try with_reducible rfl); done)); try simp only [Act.put, List.setIfInBounds_toArray, List.set_cons_zero, List.set_cons_succ]
    refine wl_v (.bool false) (by go_simp <;> omega) ?_; try simp only [Act.put, List.setIfInBounds_toArray, List.set_cons_zero, List.set_cons_succ]
    go_upto_region 4 with (fail)
    refine wp_region_lit ?_
    refine wl_v ?_ ?_ ?_; rotate_left; (focus (go_simp; (try with_reducible rfl); done)); try simp only [Act.put, List.setIfInBounds_toArray, List.set_cons_zero, List.set_cons_succ]
    refine wl_v ?_ ?_ ?_; rotate_left; (focus (go_simp; (try with_reducible rfl); done)); try simp only [Act.put, List.setIfInBounds_toArray, List.set_cons_zero, List.set_cons_succ]
    refine wl_v ?_ ?_ ?_; rotate_left; (focus (go_simp; (try with_reducible rfl); done)); try simp only [Act.put, List.setIfInBounds_toArray, List.set_cons_zero, List.set_cons_succ]
    refine op_new 40 10 (.tmp 25) #[.int .i64 id, .int .i64 at'] #[.int .i64 0, .int .i64 0] z40 s40 rfl (ints_one [id, at']) (fun _ => rfl) (fun _ => rfl) fun w2 bx hge hb hk => ?_; replace hown := own_ups hown hb; replace hall := hall.trans (hb.mono hall.size); clear hb hh; try simp only [Act.put, List.setIfInBounds_toArray, List.set_cons_zero, List.set_cons_succ]
    skip; try simp only [Act.put, List.setIfInBounds_toArray, List.set_cons_zero, List.set_cons_succ]
    go_upto_region 5 with (fail)
    refine wp_region_lit ?_
    refine wl_v ?_ ?_ ?_; rotate_left; (focus (go_simp; (try with_reducible rfl); done)); try simp only [Act.put, List.setIfInBounds_toArray, List.set_cons_zero, List.set_cons_succ]
    refine op_loadR 40 _ bx 40 _ rfl hk (by kernel_rfl) s40 ?_; try simp only [Act.put, List.setIfInBounds_toArray, List.set_cons_zero, List.set_cons_succ]
    refine wl_call _ _ _ (bsearch_any _ _ M (id, at') (TOwn.row hown) (by omega) HMO.out) (by go_simp) ?_; rintro e w3 ⟨⟨k, f, rfl, hkM, hA, hB⟩, hb⟩; refine ⟨_, rfl, ?_⟩; have HI := Lib.hid (ins_of hkM hA hB); replace hall := hall.trans (hb.mono hall.size); replace hown := own_ups hown hb; replace hk := hk.ups hb; clear hb hA hB; try simp only [Act.put, List.setIfInBounds_toArray, List.set_cons_zero, List.set_cons_succ]
    refine wl_v ?_ ?_ ?_; rotate_left; (focus (go_simp; (try with_reducible rfl); done)); try simp only [Act.put, List.setIfInBounds_toArray, List.set_cons_zero, List.set_cons_succ]
    refine wl_v ?_ ?_ ?_; rotate_left; (focus (go_simp; (try with_reducible rfl); done)); try simp only [Act.put, List.setIfInBounds_toArray, List.set_cons_zero, List.set_cons_succ]
    refine wl_v ?_ ?_ ?_; rotate_left; (focus (go_simp; (try with_reducible rfl); done)); try simp only [Act.put, List.setIfInBounds_toArray, List.set_cons_zero, List.set_cons_succ]
    refine wl_v ?_ ?_ ?_; rotate_left; (focus (go_simp; (try with_reducible rfl); done)); try simp only [Act.put, List.setIfInBounds_toArray, List.set_cons_zero, List.set_cons_succ]
    refine wl_v ?_ ?_ ?_; rotate_left; (focus (go_simp; (try with_reducible rfl); done)); try simp only [Act.put, List.setIfInBounds_toArray, List.set_cons_zero, List.set_cons_succ]
    go_upto_region 6 with (fail)
    refine wp_region_lit ?_
    refine wl_v ?_ ?_ ?_; rotate_left; (focus (go_simp; (try with_reducible rfl); done)); try simp only [Act.put, List.setIfInBounds_toArray, List.set_cons_zero, List.set_cons_succ]
    refine wl_v ?_ ?_ ?_; rotate_left; (focus (go_simp; (try with_reducible rfl); done)); try simp only [Act.put, List.setIfInBounds_toArray, List.set_cons_zero, List.set_cons_succ]
    refine op_loadR 40 _ bx 40 _ rfl hk (by kernel_rfl) s40 ?_; try simp only [Act.put, List.setIfInBounds_toArray, List.set_cons_zero, List.set_cons_succ]
    refine op_lit 22 1 _ 40 #[.int .i64 id, .int .i64 at'] (by intro wl; kernel_rfl) fun w4 bv hge hb hv => ?_; have hown_ := hown; replace hown := own_ups hown hb; replace hall := hall.trans (hb.mono hall.size); have hne : Value.ownBlock (.slice A M.length c) ≠ some bv := (fun e => by have := (hown_.lt bv e).2; omega); clear hb; try simp only [Act.put, List.setIfInBounds_toArray, List.set_cons_zero, List.set_cons_succ]
    refine wl_call _ _ _ (insert_any _ w.heap.size _ M k (id, at') bv hown hall.size hkM hv hne (by omega)) (by go_simp) ?_; rintro e w5 ⟨⟨v2, rfl, hown2⟩, hb⟩; refine ⟨_, rfl, ?_⟩; rw [HI.out] at hown2; replace hall := hall.trans hb; clear hb; try simp only [Act.put, List.setIfInBounds_toArray, List.set_cons_zero, List.set_cons_succ]
    refine wl_v ?_ ?_ ?_; rotate_left; (focus (go_simp; (try with_reducible rfl); done)); try simp only [Act.put, List.setIfInBounds_toArray, List.set_cons_zero, List.set_cons_succ]
    refine wl_v ?_ ?_ ?_; rotate_left; (focus (go_simp; (try with_reducible rfl); done)); try simp only [Act.put, List.setIfInBounds_toArray, List.set_cons_zero, List.set_cons_succ]
    go_wp2_with fail
    go_ret2
    exact ⟨⟨_, by rw [HF.out]; rfl, by rw [HS.out]; exact hown2⟩, hall⟩
end Go.Proofs.Ytndpbciefijjcaa
