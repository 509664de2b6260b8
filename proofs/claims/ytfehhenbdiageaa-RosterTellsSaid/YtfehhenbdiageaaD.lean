/- Roster: rows of timers; slices.Clone. -/
import Derived.Test.YtfehhenbdiageaaH
import Derived.Test.YtfehhenbdiageaaC
namespace Go.Proofs.Ytfehhenbdiageaa
open Go.RowKit
set_option linter.unusedVariables false
set_option linter.unusedSimpArgs false

section
variable {α : Type} (enc : α → List Int)
/-- a slice value that reads as the row L -/
def Row (w : World) (v : Value) (L : List α) : Prop := ∃ A c, v = .slice A L.length c ∧ L.length ≤ c ∧ c ≤ maxLen ∧ (A = none → c = 0) ∧ Holds w A (FV enc L)
variable {enc} {w w' : World} {v : Value} {L : List α}
theorem Row.up (h : Row enc w v L) (hb : Below w.heap.size w w') : Row enc w' v L := by
  obtain ⟨A, c, a1, a2, a3, a4, a5⟩ := h
  exact ⟨A, c, a1, a2, a3, a4, a5.up hb⟩
theorem Row.nil : Row enc w (.slice none 0 0) ([] : List α) := ⟨none, 0, rfl, Nat.le_refl _, by simp [maxLen], fun _ => rfl, fun j hj => by simp [FV, IV] at hj⟩
theorem Row.own {base size n : Nat} {e : TypeId} (hk : ∀ x, (enc x).length = size) (hs : 0 < size) (h : w.ownsRow base e size v n (FV enc L)) : Row enc w v L := by
  have hl := h.1
  rw [FV_len hk] at hl
  obtain rfl : L.length = n := Nat.eq_of_mul_eq_mul_right hs hl
  obtain ⟨A, c, rfl, h1, h2, h3⟩ := own_slice h
  refine ⟨A, c, rfl, h2, h3, fun e => ?_, h1⟩
  subst e
  rcases h.2 with ⟨e, _⟩ | ⟨g, cap, cur, e, _⟩
  · injection e
  · cases e
end

abbrev encT (x : Tm) : List Int := [x.1, x.2.1, x.2.2]
theorem encT_len (x : Tm) : (encT x).length = 3 := rfl
abbrev TRow (w : World) (v : Value) (L : List Tm) : Prop := Row encT w v L
abbrev TOwn (w : World) (base : Nat) (v : Value) (L : List Tm) : Prop := w.ownsRow base 37 3 v L.length (FV encT L)
theorem TOwn.row {w : World} {base : Nat} {v : Value} {L : List Tm} (h : TOwn w base v L) : TRow w v L := Row.own encT_len (by omega) h

theorem i37 : (Try.prog.info? 37).map (fun i => (i.zero, i.size, i.bytes)) = some (some (.agg #[.int .i64 0, .int .i64 0, .int .i64 0]), 3, 24) := by kernel_rfl
theorem s37 : (Try.prog.info? 37).map (·.size) = some 3 := by kernel_rfl
set_option maxHeartbeats 1000000 in
theorem clone_any (w : World) (v : Value) (L : List Tm) (h : TRow w v L) (hn : L.length ≤ 100000) :
    Calls Try.prog 30 #[v] w fun e w' => (∃ v', e = .returned v' ∧ TOwn w' w.heap.size v' L) ∧ Below w.heap.size w w' := by
  obtain ⟨A, c, rfl, hc, hm, hA, hh⟩ := h
  have hall := Below.refl w.heap.size w
  cases A with
  | none =>
    obtain rfl := hA rfl
    obtain rfl : L = [] := List.eq_nil_of_length_eq_zero (by omega)
    have heq : ∀ w, (binOp .eql 22 (.slice none 0 0) (.slice none 0 0)).run Try.prog w = .ok (.bool true) w := fun w => Lib.run_eql_slice_nil (P := Try.prog) w 22 37 none 0 0 0 0 Try.underlying22
    go_enter Try.func30, Try.ntmps30
    go_wp2
    go_ret
    exact ⟨⟨_, rfl, World.ownsRow_nil _ _ _ _⟩, hall⟩
  | some ad =>
    have heq : ∀ w, (binOp .eql 22 (.slice (some ad) L.length c) (.slice none 0 0)).run Try.prog w = .ok (.bool false) w := fun w => Lib.run_eql_slice_nil (P := Try.prog) w 22 37 (some ad) L.length c 0 0 Try.underlying22
    go_enter Try.func30, Try.ntmps30
    go_upto_region 0 with (fail)
    refine wp_region_lit ?_
    refine wl_v ?_ ?_ ?_; rotate_left; (focus (go_simp; (try with_reducible rfl); done)); try simp only [Act.put, List.setIfInBounds_toArray, List.set_cons_zero, List.set_cons_succ]
    go_upto_region 1 with (fail)
    refine wp_region_lit ?_
    refine wl_v ?_ ?_ ?_; rotate_left; (focus (go_simp; (try with_reducible rfl); done)); try simp only [Act.put, List.setIfInBounds_toArray, List.set_cons_zero, List.set_cons_succ]
    refine wl_v (.bool false) (by go_simp) ?_; try simp only [Act.put, List.setIfInBounds_toArray, List.set_cons_zero, List.set_cons_succ]
    go_upto_region 3 with (fail)
    refine wp_region_lit ?_
    refine op_lit 22 0 #[] 37 #[] (by intro wl; kernel_rfl) fun w1 b hge hb k => ?_; have hn0 := own_empty (base := w.heap.size) (size := 3) k hge; replace hh := hh.up hb; replace hall := hall.trans (hb.mono hall.size); clear hb; try simp only [Act.put, List.setIfInBounds_toArray, List.set_cons_zero, List.set_cons_succ]
    refine wl_v ?_ ?_ ?_; rotate_left; (focus (go_simp; (try with_reducible rfl); done)); try simp only [Act.put, List.setIfInBounds_toArray, List.set_cons_zero, List.set_cons_succ]
    refine op_append 22 37 (.tmp 5) (.tmp 6) w.heap.size (.agg #[.int .i64 0, .int .i64 0, .int .i64 0]) 3 24 _ 0 [] (some ad) L.length c (FV encT L) rfl rfl Try.underlying22 i37 rfl (by omega) hn0 (by rw [FV_len encT_len]) hh (FV_one _ _) (by unfold maxLen; omega) (by omega) hall.size fun v' w2 hown hg hv hb2 => ?_; replace hall := hall.trans hb2; clear hb2 hg hv hn0 hh; try simp only [Act.put, List.setIfInBounds_toArray, List.set_cons_zero, List.set_cons_succ]
    refine wl_v ?_ ?_ ?_; rotate_left; (focus (go_simp; (try with_reducible rfl); done)); try simp only [Act.put, List.setIfInBounds_toArray, List.set_cons_zero, List.set_cons_succ]
    go_wp2_with fail
    go_ret
    exact ⟨⟨_, rfl, by simpa using hown⟩, hall⟩
end Go.Proofs.Ytfehhenbdiageaa
