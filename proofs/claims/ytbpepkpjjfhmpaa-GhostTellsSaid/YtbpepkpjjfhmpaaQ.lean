/- The ghost: what Fine asks of one view. -/
import Derived.Test.YtbpepkpjjfhmpaaZ
namespace Go.Proofs.Ytbpepkpjjfhmpaa
open Go.RowKit Go.Maps
set_option linter.unusedVariables false
set_option linter.unusedSimpArgs false

def oddF (had : List Nt) (x : Nt) : Bool := decide (x ≠ (0, 0, 0, 0)) && !decide (x ∈ had)
set_option maxHeartbeats 1000000 in
theorem odd_at (w : World) (g bm bc : Nat) (G : GS) (a b c d : Int) (hx : NWF (a, b, c, d)) (h : GG w g bm G) (hc : w.cell? ⟨bc, 0, none⟩ = some (.pointer (some ⟨g, 0, none⟩))) :
    Calls Try.prog 28 #[.agg #[.int .i64 a, .int .i64 b, .int .i64 c, .int .i64 d], .pointer (some ⟨bc, 0, none⟩)] w fun e w' => e = .returned (.bool (oddF G.had (a, b, c, d))) ∧ Below w.heap.size w w' := by
  have hall := Below.refl w.heap.size w
  have hg28 := g28
  have hlt := World.block_lt_of_cell? w _ hc
  have HX := Lib.hid hx
  obtain ⟨z, hz⟩ : ∃ z, decide (a = 0 ∧ b = 0 ∧ c = 0 ∧ d = 0) = z := ⟨_, rfl⟩
  have heq : ∀ w, (Op.equalIn 10000 35 (.agg #[.int .i64 a, .int .i64 b, .int .i64 c, .int .i64 d]) (.agg #[.int .i64 0, .int .i64 0, .int .i64 0, .int .i64 0])).run Try.prog w = .ok z w := fun w => by rw [eqN, hz]
  have HZ := Lib.hid hz
  clear hx hz
  obtain ⟨r, hr⟩ : ∃ r, decide ((a, b, c, d) ∈ G.had) = r := ⟨_, rfl⟩
  have ho : oddF G.had (a, b, c, d) = (!z && !r) := by rw [← HZ.out, ← hr]; simp [oddF]
  have HR := Lib.hid hr
  rw [ho]
  clear hr ho
  cases z
  all_goals
    go_enter Try.func28, Try.ntmps28
    go_wp2_with (first
      | ((with_reducible refine op_box 35 (.tmp 0) #[.int .i64 a, .int .i64 b, .int .i64 c, .int .i64 d] ?_ ?_); rfl; intro w1 b3 hge hb k3; have d0 := k3.cell 0; have d1 := k3.cell 1; have d2 := k3.cell 2; have d3 := k3.cell 3; replace hc := (hb.cell (p := ⟨bc, 0, none⟩) hlt).trans hc; replace h : GG w1 g bm G := GAt.ups h hb; replace hall := hall.trans (hb.mono hall.size); clear hb hge)
      | ((with_reducible refine op_build0 35 _ build35 ?_))
      | (go_at_call 15; refine (had_at _ g bm G.n G.last G.many G.wrong G.had (a, b, c, d) HX.out h).mono ?_; rintro e w2 ⟨rfl, hb⟩; rw [HR.out]; replace hall := hall.trans (hb.mono hall.size); clear hb))
    go_ret
    exact ⟨by simp, hall⟩
end Go.Proofs.Ytbpepkpjjfhmpaa
