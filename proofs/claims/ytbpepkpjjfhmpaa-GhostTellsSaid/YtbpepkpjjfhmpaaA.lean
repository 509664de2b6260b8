import Derived.Test.YtbpepkpjjfhmpaaL
namespace Go.Proofs.Ytbpepkpjjfhmpaa
open Go.RowKit
set_option linter.unusedVariables false
set_option linter.unusedSimpArgs false

def stp (p : Int × Int) (s : Int) : Int × Int := if 1 ≤ s ∧ s ≤ 3 then (if p.1 < s then s else p.1, if 4 < p.2 + 1 then 4 else p.2 + 1) else p
def fold (l : List Int) : Int × Int := l.foldl stp (0, 0)

def FoldRel (L : List Int) (u v i : Value) : Prop := ∃ k : Nat, k ≤ L.length ∧ i = .int .i64 k ∧ u = .int .i64 (fold (L.take k)).1 ∧ v = .int .i64 (fold (L.take k)).2
theorem take_succ_of {α : Type} {L : List α} {k : Nat} (h : k < L.length) : L.take (k + 1) = L.take k ++ [L[k]] := by
  rw [List.take_succ_eq_append_getElem h]
theorem fold_snoc (l : List Int) (x : Int) : fold (l ++ [x]) = stp (fold l) x := by simp [fold]
theorem stp_no {p : Int × Int} {s : Int} (h : s < 1 ∨ 3 < s) : stp p s = p := by unfold stp; rw [if_neg (by omega)]
theorem stp_yes {p : Int × Int} {s : Int} (h : 1 ≤ s) (h2 : s ≤ 3) : stp p s = (if p.1 < s then s else p.1, if 4 < p.2 + 1 then 4 else p.2 + 1) := by unfold stp; rw [if_pos ⟨h, h2⟩]
theorem fold_bd (l : List Int) : 0 ≤ (fold l).1 ∧ (fold l).1 ≤ 3 ∧ 0 ≤ (fold l).2 ∧ (fold l).2 ≤ 4 := by
  suffices ∀ (l : List Int) (p : Int × Int), (0 ≤ p.1 ∧ p.1 ≤ 3 ∧ 0 ≤ p.2 ∧ p.2 ≤ 4) → 0 ≤ (l.foldl stp p).1 ∧ (l.foldl stp p).1 ≤ 3 ∧ 0 ≤ (l.foldl stp p).2 ∧ (l.foldl stp p).2 ≤ 4 from this l _ (by simp)
  intro l
  induction l with
  | nil => intro p h; exact h
  | cons x l ih =>
    intro p h
    refine ih _ ?_
    unfold stp
    split
    · simp only []
      refine ⟨?_, ?_, ?_, ?_⟩ <;> split <;> omega
    · exact h

theorem fold_any (L : List Int) (A : Option Addr) (c : Nat) (w : World) (hL : L.length ≤ 9223372036854775807) (h : Holds w A (L.map (Value.int .i64))) :
    Calls Try.prog 31 #[.slice A L.length c] w fun e w' => e = .returned (.tuple #[.int .i64 (fold L).1, .int .i64 (fold L).2]) ∧ w = w' := by
  go_enter Try.func31, Try.ntmps31
  go_wp2
  go_loop [2, 3, 8] (FoldRel L) (fun _ _ i => L.length - (intOf i).toNat)
  case atStart => exact ⟨0, Nat.zero_le _, rfl, by simp [fold], by simp [fold]⟩
  case round =>
    obtain ⟨k, hk, rfl, rfl, rfl⟩ := hrel
    by_cases hlt : k < L.length
    · obtain ⟨b, o, rfl, hc⟩ := h k (by simpa using hlt)
      rw [List.getElem?_map, List.getElem?_eq_getElem hlt] at hc
      simp only [Option.map_some] at hc
      have hb := fold_bd (L.take k)
      clear h
      generalize hp : fold (L.take k) = p at *
      generalize hx : L[k] = x at *
      have H1 : Hid (fold (L.take (k + 1)) = stp p x) := by rw [take_succ_of hlt, fold_snoc, hp, hx]; exact rfl
      clear hp hx
      go_wp2
      all_goals refine ⟨⟨k + 1, by omega, by go_num, ?_, ?_⟩, by simp [intOf]; omega⟩ <;> rw [H1.out]
      all_goals first
        | (rw [stp_no (by omega)])
        | (rw [stp_yes (by omega) (by omega)])
    · obtain rfl : k = L.length := by omega
      go_wp2
      go_ret2
      exact ⟨by simp, rfl⟩
end Go.Proofs.Ytbpepkpjjfhmpaa
