/- The ghost: see. -/
import Derived.Test.YtbpepkpjjfhmpaaN
namespace Go.Proofs.Ytbpepkpjjfhmpaa
open Go.RowKit Go.Maps
set_option linter.unusedVariables false
set_option linter.unusedSimpArgs false

def lastS (last : List Int) (u : Nat) (x : Nt) : List Int := (((last.set (u*4) x.1).set (u*4+1) x.2.1).set (u*4+2) x.2.2.1).set (u*4+3) x.2.2.2
theorem mixed : Try.prog.follows .mixedOrders = true := by kernel_rfl

set_option maxHeartbeats 1000000 in
set_option maxRecDepth 100000 in
theorem see_at (w : World) (g bm n : Nat) (last many : List Int) (wrong : Bool) (had : List Nt) (u : Nat) (v s k : Int) (hu : u ≤ 16) (hx : NWF ((u : Int), v, s, k)) (hn : n < maxLen) (hmu : 0 ≤ ci many u) (hmu2 : ci many u ≤ 9223372036854775806) (h : GAt w g bm n last many wrong had) :
    Calls Try.prog 23 #[.pointer (some ⟨g, 0, none⟩), .agg #[.int .i64 (u : Int), .int .i64 v, .int .i64 s, .int .i64 k]] w fun e w' => e = .returned (.tuple #[]) ∧ But g bm w w' ∧ GAt w' g bm (n + 1) (lastS last u ((u : Int), v, s, k)) (many.set u (ci many u + 1)) wrong (((u : Int), v, s, k) :: had) := by
  have hall := But.refl g bm w
  obtain ⟨kg, hs, hne, hl, hm⟩ := h
  have hmap := gC_map (bm := bm) (wrong := wrong) hl hm
  have hmany := gC_many (bm := bm) (wrong := wrong) (last := lastS last u ((u : Int), v, s, k)) (many := many) (by simpa [lastS] using hl) hm (j := u) (by omega)
  have hset := gC_set4 (bm := bm) (wrong := wrong) hl hm hu ((u : Int), v, s, k)
  have hsz := gC_size (bm := bm) (wrong := wrong) hl hm
  have HSET := Lib.hid hset
  have HSZ := Lib.hid hsz
  have HL := Lib.hid hl
  have HM := Lib.hid hm
  have HX := Lib.hid hx
  generalize hc : ci many u = cu at *
  replace hc := Lib.hid hc
  clear hset hsz hl hm hx
  go_enter Try.func23, Try.ntmps23
  go_wp2_with (first
    | ((with_reducible refine op_box 35 (.tmp 1) #[.int .i64 (u : Int), .int .i64 v, .int .i64 s, .int .i64 k] ?_ ?_); rfl; intro w1 b3 hge hb k3; have h3 : b3 ≠ g := (by have := kg.lt; omega); have h3' : b3 ≠ bm := (by have := hs.lt; omega); replace hall := hall.trans (But.of_below hb); replace kg := kg.ups hb; replace hs := hs.ups hb; clear hb hge))
  have c0 := (kg.cell 0).trans hmap
  have d0 := k3.cell 0
  have d1 := k3.cell 1
  have d2 := k3.cell 2
  have d3 := k3.cell 3
  go_still_tail 5, mixed
  replace kg : Block w1.drew g 53 (gC bm last many wrong) := kg
  replace k3 : Block w1.drew b3 35 #[.int .i64 (u : Int), .int .i64 v, .int .i64 s, .int .i64 k] := k3
  replace hs : Seen w1.drew bm n had := hs
  replace hall : But g bm w w1.drew := ⟨hall.os, hall.tape, hall.output, hall.size, hall.block⟩
  clear c0 d0 d1 d2 d3
  go_wp2_with (first
    | ((with_reducible refine op_mapset (.tmp 7) (.tmp 8) (.const (.bool true)) bm n had ((u : Int), v, s, k) ?_ ?_ ?_ ?_ ?_ ?_ ?_); rfl; rfl; rfl; exact hs; exact hn; exact HX.out; intro w2 hs' hg; replace kg := (hg.block g kg.lt (by simpa using hne)).trans kg; replace k3 := (hg.block b3 k3.lt (by simpa using h3')).trans k3; replace hall := hall.trans (But.of_grown hg); clear hg hs))
  have d0 := Block.cell k3 0
  have d1 := Block.cell k3 1
  have d2 := Block.cell k3 2
  have d3 := Block.cell k3 3
  have h17 : (u : Int) < 17 := by omega
  go_still_tail 7, mixed
  replace kg : Block w2.drew g 53 (gC bm last many wrong) := kg
  replace k3 : Block w2.drew b3 35 #[.int .i64 (u : Int), .int .i64 v, .int .i64 s, .int .i64 k] := k3
  replace hs' : Seen w2.drew bm (n + 1) (((u : Int), v, s, k) :: had) := hs'
  replace hall : But g bm w w2.drew := ⟨hall.os, hall.tape, hall.output, hall.size, hall.block⟩
  clear d0 d1 d2 d3
  go_wp2_with (first
    | ((with_reducible refine op_store_mid 35 (.tmp 15) (.tmp 12) g (1 + u * 4) 53 #[.int .i64 (u : Int), .int .i64 v, .int .i64 s, .int .i64 k] (gC bm last many wrong) ?_ ?_ ?_ ?_ ?_ ?_ ?_); rfl; rfl; exact kg; exact info28s; (rw [HSZ.out]; simp; omega); (simp [Value.oneCell']); intro w3 hb ho kg'; replace kg : Block w3 g 53 (gC bm (lastS last u ((u : Int), v, s, k)) many wrong) := (by rw [lastS, ← HSET.out]; exact kg'); clear kg'; replace k3 : Block w3 b3 35 #[.int .i64 (u : Int), .int .i64 v, .int .i64 s, .int .i64 k] := (ho b3 h3).trans k3; replace hs' := hs'.kept (row := some g) ⟨(hb 0 (Nat.zero_le _)).os, (hb 0 (Nat.zero_le _)).tape, (hb 0 (Nat.zero_le _)).output, (hb 0 (Nat.zero_le _)).size, fun k _ hk => ho k (fun e => hk (by rw [e]))⟩ (by simpa using hne.symm); replace hall := hall.trans ⟨(hb 0 (Nat.zero_le _)).os, (hb 0 (Nat.zero_le _)).tape, (hb 0 (Nat.zero_le _)).output, (hb 0 (Nat.zero_le _)).size, fun k _ hk _ => ho k hk⟩; clear hb ho))
  have d0 := Block.cell k3 0
  have cm := (Block.cell kg (69 + u)).trans hmany
  have fm := Block.frozen kg (69 + u)
  go_still_tail 11, mixed
  have hset2 := Block.set (w := w3.drew) kg (69 + u) (.int .i64 (cu + 1))
  rw [gC_setMany (by simpa [lastS] using HL.out) HM.out (by omega)] at hset2
  have HK := Lib.hid hset2
  have HS := Lib.hid (hs'.kept (w' := w3.drew.setCell ⟨g, 69 + u, none⟩ (.int .i64 (cu + 1))) (row := some g) ⟨rfl, rfl, rfl, by simp, fun k _ hk => Below.heap_setCell _ _ _ k (fun e => hk (by rw [e]))⟩ (by simpa using hne.symm))
  have HA := Lib.hid (hall.trans (c := w3.drew.setCell ⟨g, 69 + u, none⟩ (.int .i64 (cu + 1))) ⟨rfl, rfl, rfl, by simp, fun k _ hk _ => Below.heap_setCell _ _ _ k hk⟩)
  clear hset2 kg hs' hall hmap hmany
  go_wp2
  refine bodyPost_end (results_none rfl _ _ _) rfl ?_
  exact ⟨rfl, HA.out, HK.out, HS.out, hne, by simpa [lastS] using HL.out, by simpa using HM.out⟩
end Go.Proofs.Ytbpepkpjjfhmpaa
