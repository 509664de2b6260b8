/- The ghost: Fine. -/
import Derived.Test.YtbpepkpjjfhmpaaT
import Derived.Outline
namespace Go.Proofs.Ytbpepkpjjfhmpaa
open Go.RowKit Go.Maps
set_option linter.unusedVariables false
set_option linter.unusedSimpArgs false

def fineF (G : GS) (V : List Nt) : Bool := !G.wrong && !V.any (oddF G.had)
theorem fine_at (w : World) (g bm : Nat) (G : GS) (V : List Nt) (hV : ∀ x ∈ V, NWF x) (A : Option Addr) (n c : Nat) (hnV : n = V.length) (hn : V.length ≤ 9223372036854775807) (hh : Holds w A ((nflat V).map (Value.int .i64))) (h : GG w g bm G) :
    Calls Try.prog 17 #[.pointer (some ⟨g, 0, none⟩), .slice A n c] w fun e w' => e = .returned (.bool (fineF G V)) ∧ Below w.heap.size w w' := by
  subst hnV
  have hmf : ∀ fn first cap w, (Instr.makeFunc fn first cap).run Try.prog w = .ok (.func fn first cap) w := fun _ _ _ _ => rfl
  have c86 := (h.1.cell 86).trans (gC_wrong h.2.2.2.1 h.2.2.2.2)
  have hb := (Below.refl w.heap.size w).alloc (Nat.le_refl _) (.cells #[Value.pointer (some ⟨g, 0, none⟩)] 25)
  replace c86 := (hb.cell (p := ⟨g, 86, none⟩) h.1.lt).trans c86
  have hh' := hh.up hb
  have h' : GG _ g bm G := GAt.ups h hb
  have hc' : (w.alloc (.cells #[Value.pointer (some ⟨g, 0, none⟩)] 25)).cell? ⟨w.heap.size, 0, none⟩ = some (.pointer (some ⟨g, 0, none⟩)) := by go_simp
  have hcon := contains_at _ g bm w.heap.size G V hV A c hn hh' h' hc'
  have hq : fineF G V = (!G.wrong && !V.any (oddF G.had)) := rfl
  rw [hq]
  clear hc' h' hh' hq hh h
  replace hb := Lib.hid hb
  generalize G.wrong = wr at *
  generalize V.any (oddF G.had) = r at *
  cases wr
  · go_enter Try.func17, Try.ntmps17
    go_wp2_with (first
      | (go_at_call 29; refine hcon.mono ?_; rintro e w2 ⟨rfl, hb2⟩; replace hb2 := Lib.hid hb2))
    go_ret
    exact ⟨rfl, hb.out.trans (hb2.out.mono hb.out.size)⟩
  · go_enter Try.func17, Try.ntmps17
    go_wp2
    go_ret
    exact ⟨rfl, hb.out⟩
end Go.Proofs.Ytbpepkpjjfhmpaa
