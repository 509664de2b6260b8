/- Client: part ZRo of the proof. -/
import Derived.Test.YtbnmpoonkjlkjaaGreatXM
import Derived.ChangeSame
import Derived.ChangeOld
namespace Go.Proofs.YtbnmpoonkjlkjaaGreat
open Go.RowKit
set_option linter.unusedVariables false
set_option linter.unusedSimpArgs false
section
open Go.ChangeShapes Go.WideShapes Go.ChangeAt Go.Maps
theorem wp_mid {P : Program} {c : Code} {Q : Exit → Act → World → Prop} {a : Act} {w : World} (M : Act → World → Prop) (h : c.wp P (fun e a w => e = .normal ∧ M a w) a w) (k : ∀ a w, M a w → Q .normal a w) : c.wp P Q a w :=
 wp_mono h fun e a w ⟨he, hm⟩ => he.symm ▸ k a w hm
theorem ac_o {w : World} {b q : Nat} {x : Ac} {vb : Value} (h : w.rangeAt b q (acL x vb)) : w.rangeAt b (q + 3) [.int .i64 x.o.1, .int .i64 x.o.2.1, .int .i64 x.o.2.2.1, .int .i64 x.o.2.2.2] := fun j v hj => by
 have := h (3 + j) v (by
  match j, hj with
  | 0, hj => exact hj
  | 1, hj => exact hj
  | 2, hj => exact hj
  | 3, hj => exact hj
  | j + 4, hj => simp at hj)
 rwa [← Nat.add_assoc] at this
theorem raw_le (p : Pkt) : (rawF p).length ≤ 1 := by unfold rawF; split <;> simp
theorem sgn_le (c : Cl) (p : Pkt) : (sgnF c p).length ≤ 1 := by
 unfold sgnF
 split
 · exact raw_le _
 · simp
theorem beat_le (c : Cl) : (beatO c).length ≤ 1 := by
 unfold beatO
 split
 · simp
 · exact sgn_le _ _
theorem say_le (c : Cl) : (sayO c).length ≤ 1 := by
 unfold sayO
 split
 · simp
 ·
  split
  · simp
  · exact sgn_le _ _
theorem say_state (c : Cl) : (sayC c).state = c.state := by
 unfold sayC
 split
 · rfl
 · split <;> rfl
theorem beat_state (c : Cl) : (beatC c).state = c.state := by
 unfold beatC
 split <;> rfl
theorem tick_facts (c : Cl) : (tickC c).os.length = c.os.length ∧ (tickC c).state = c.state ∧ (tickO c).length ≤ 2 ∧ (c.state = 0 → (tickO c).length = 0) := by
 refine ⟨by rw [(tick_same c).2.1], ?_, ?_, fun h => by rw [tickO, if_pos h]; rfl⟩
 ·
  by_cases h0 : c.state = 0
  · rw [tickC, if_pos h0]
  rw [tickC, if_neg h0]
  unfold tick1C
  split
  · rw [say_state, beat_state]; rfl
  ·
   split
   · rfl
   · split <;> rfl
 ·
  by_cases h0 : c.state = 0
  · rw [tickO, if_pos h0]; simp
  rw [tickO, if_neg h0]
  unfold tick1O
  split
  ·
   have := beat_le (timeC c)
   have := say_le (beatC (timeC c))
   rw [List.length_append]
   omega
  ·
   split
   · simp
   ·
    split
    · exact Nat.le_trans (raw_le _) (by omega)
    ·
     split
     · exact Nat.le_trans (raw_le _) (by omega)
     · simp
end
end Go.Proofs.YtbnmpoonkjlkjaaGreat
