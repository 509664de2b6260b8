/- The ghost: ContainsFunc at Fine's closure. -/
import Derived.Test.YtbpepkpjjfhmpaaR
namespace Go.Proofs.Ytbpepkpjjfhmpaa
open Go.RowKit Go.Maps
set_option linter.unusedVariables false
set_option linter.unusedSimpArgs false

theorem contains_at (w : World) (g bm bc : Nat) (G : GS) (V : List Nt) (hV : ∀ x ∈ V, NWF x) (A : Option Addr) (c : Nat) (hn : V.length ≤ 9223372036854775807) (hh : Holds w A ((nflat V).map (Value.int .i64))) (h : GG w g bm G) (hc : w.cell? ⟨bc, 0, none⟩ = some (.pointer (some ⟨g, 0, none⟩))) :
    Calls Try.prog 29 #[.slice A V.length c, .func (.func 28) #[] #[.pointer (some ⟨bc, 0, none⟩)]] w fun e w' => e = .returned (.bool (V.any (oddF G.had))) ∧ Below w.heap.size w w' := by
  go_enter Try.func29, Try.ntmps29
  go_wp2_with (first
    | (go_at_call 32; refine (idx_at _ g bm bc G V hV A c hn hh h hc).mono ?_; rintro e w2 ⟨⟨r, rfl, hr⟩, hb⟩; replace hr := Lib.hid hr))
  go_ret
  exact ⟨by rw [← hr.out]; rfl, hb⟩
end Go.Proofs.Ytbpepkpjjfhmpaa
