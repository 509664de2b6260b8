/- Fanout: the sort, the search and Contains at ints: the shelf's contracts laid at this program. -/
import Derived.Test.YtpegfbdepgmbjaaE
import Derived.Shelf.Slices.In.SortNone
import Derived.Shelf.Slices.SearchI
import Derived.Shelf.Slices.Turned
namespace Go.Proofs.Ytpegfbdepgmbjaa
open Go.RowKit Go.Shelf
set_option linter.unusedVariables false
set_option linter.unusedSimpArgs false

def lay189_ren : Go.Shelf.Ren := ⟨fun | 189 => 27 | 125 => 32 | 257 => 31 | 128 => 43 | 129 => 44 | 294 => 35 | 295 => 36 | 296 => 37 | 297 => 38 | 298 => 39 | 299 => 40 | 216 => 33 | 300 => 41 | 301 => 42 | 328 => 46 | 329 => 47 | 330 => 48 | 331 => 49 | 332 => 50 | 215 => 45 | 343 => 51 | n => n, fun | 28 => 25 | 3 => 3 | 46 => 58 | 0 => 0 | 51 => 69 | 53 => 71 | 4 => 4 | 183 => 63 | 182 => 62 | 131 => 43 | 5 => 5 | 9 => 9 | 218 => 72 | 222 => 76 | 228 => 78 | 229 => 79 | n => n, fun n => n⟩
theorem lay189 : Lays.n189 Try.prog lay189_ren := {
  mixed := by kernel_rfl,
  f125 := Try.func32.trans (congrArg some (by kernel_rfl)),
  f128 := Try.func43.trans (congrArg some (by kernel_rfl)),
  f129 := Try.func44.trans (congrArg some (by kernel_rfl)),
  f189 := Try.func27.trans (congrArg some (by kernel_rfl)),
  f215 := Try.func45.trans (congrArg some (by kernel_rfl)),
  f216 := Try.func33.trans (congrArg some (by kernel_rfl)),
  f257 := Try.func31.trans (congrArg some (by kernel_rfl)),
  f294 := Try.func35.trans (congrArg some (by kernel_rfl)),
  f295 := Try.func36.trans (congrArg some (by kernel_rfl)),
  f296 := Try.func37.trans (congrArg some (by kernel_rfl)),
  f297 := Try.func38.trans (congrArg some (by kernel_rfl)),
  f298 := Try.func39.trans (congrArg some (by kernel_rfl)),
  f299 := Try.func40.trans (congrArg some (by kernel_rfl)),
  f300 := Try.func41.trans (congrArg some (by kernel_rfl)),
  f301 := Try.func42.trans (congrArg some (by kernel_rfl)),
  f328 := Try.func46.trans (congrArg some (by kernel_rfl)),
  f329 := Try.func47.trans (congrArg some (by kernel_rfl)),
  f330 := Try.func48.trans (congrArg some (by kernel_rfl)),
  f331 := Try.func49.trans (congrArg some (by kernel_rfl)),
  f332 := Try.func50.trans (congrArg some (by kernel_rfl)),
  f343 := Try.func51.trans (congrArg some (by kernel_rfl)),
  t0 := Try.underlying0,
  a0 := Try.isAgg0,
  z0 := Try.sizeOf0,
  v0 := Try.zeroValue0,
  t3 := Try.underlying3,
  a3 := Try.isAgg3,
  z3 := Try.sizeOf3,
  v3 := Try.zeroValue3,
  t4 := Try.underlying4,
  a4 := Try.isAgg4,
  z4 := Try.sizeOf4,
  v4 := Try.zeroValue4,
  t5 := Try.underlying5,
  a5 := Try.isAgg5,
  z5 := Try.sizeOf5,
  v5 := Try.zeroValue5,
  t9 := Try.underlying9,
  a9 := Try.isAgg9,
  z9 := Try.sizeOf9,
  v9 := Try.zeroValue9,
  t28 := Try.underlying25,
  a28 := Try.isAgg25,
  z28 := Try.sizeOf25,
  v28 := Try.zeroValue25,
  t46 := Try.underlying58,
  a46 := Try.isAgg58,
  z46 := Try.sizeOf58,
  v46 := Try.zeroValue58,
  t51 := Try.underlying69,
  a51 := Try.isAgg69,
  z51 := Try.sizeOf69,
  v51 := Try.zeroValue69,
  t53 := Try.underlying71,
  a53 := Try.isAgg71,
  z53 := Try.sizeOf71,
  v53 := Try.zeroValue71,
  t131 := Try.underlying43,
  a131 := Try.isAgg43,
  z131 := Try.sizeOf43,
  v131 := Try.zeroValue43,
  t182 := Try.underlying62,
  a182 := Try.isAgg62,
  z182 := Try.sizeOf62,
  v182 := Try.zeroValue62,
  t183 := Try.underlying63,
  a183 := Try.isAgg63,
  z183 := Try.sizeOf63,
  v183 := Try.zeroValue63,
  t218 := Try.underlying72,
  a218 := Try.isAgg72,
  z218 := Try.sizeOf72,
  v218 := Try.zeroValue72,
  t222 := Try.underlying76,
  a222 := Try.isAgg76,
  z222 := Try.sizeOf76,
  v222 := Try.zeroValue76,
  t228 := Try.underlying78,
  a228 := Try.isAgg78,
  z228 := Try.sizeOf78,
  v228 := Try.zeroValue78,
  t229 := Try.underlying79,
  a229 := Try.isAgg79,
  z229 := Try.sizeOf79,
  v229 := Try.zeroValue79 }
def lay107_ren : Go.Shelf.Ren := ⟨fun | 107 => 15 | 108 => 26 | n => n, fun | 28 => 25 | 3 => 3 | 4 => 4 | 0 => 0 | n => n, fun n => n⟩
theorem lay107 : Lays.n107 Try.prog lay107_ren := {
  mixed := by kernel_rfl,
  f107 := Try.func15.trans (congrArg some (by kernel_rfl)),
  f108 := Try.func26.trans (congrArg some (by kernel_rfl)),
  t0 := Try.underlying0,
  a0 := Try.isAgg0,
  z0 := Try.sizeOf0,
  v0 := Try.zeroValue0,
  t3 := Try.underlying3,
  a3 := Try.isAgg3,
  z3 := Try.sizeOf3,
  v3 := Try.zeroValue3,
  t4 := Try.underlying4,
  a4 := Try.isAgg4,
  z4 := Try.sizeOf4,
  v4 := Try.zeroValue4,
  t28 := Try.underlying25,
  a28 := Try.isAgg25,
  z28 := Try.sizeOf25,
  v28 := Try.zeroValue25 }
def lay25_ren : Go.Shelf.Ren := ⟨fun | 25 => 28 | 31 => 33 | 32 => 34 | 37 => 45 | n => n, fun | 22 => 25 | 3 => 3 | 4 => 4 | 40 => 58 | 0 => 0 | n => n, fun n => n⟩
theorem lay25 : Lays2.n25 Try.prog lay25_ren := {
  mixed := by kernel_rfl,
  f25 := Try.func28.trans (congrArg some (by kernel_rfl)),
  f31 := Try.func33.trans (congrArg some (by kernel_rfl)),
  f32 := Try.func34.trans (congrArg some (by kernel_rfl)),
  f37 := Try.func45.trans (congrArg some (by kernel_rfl)),
  t0 := Try.underlying0,
  a0 := Try.isAgg0,
  z0 := Try.sizeOf0,
  v0 := Try.zeroValue0,
  t3 := Try.underlying3,
  a3 := Try.isAgg3,
  z3 := Try.sizeOf3,
  v3 := Try.zeroValue3,
  t4 := Try.underlying4,
  a4 := Try.isAgg4,
  z4 := Try.sizeOf4,
  v4 := Try.zeroValue4,
  t22 := Try.underlying25,
  a22 := Try.isAgg25,
  z22 := Try.sizeOf25,
  v22 := Try.zeroValue25,
  t40 := Try.underlying58,
  a40 := Try.isAgg58,
  z40 := Try.sizeOf58,
  v40 := Try.zeroValue58 }
theorem holds_getD {w : World} {A : Option Addr} {b o : Nat} {L : List Int} (h : Holds w A (L.map (Value.int .i64))) (e : A = some ⟨b, o, none⟩) (j : Nat) (hj : j < L.length) : w.cell? ⟨b, o + j, none⟩ = some (.int .i64 (L.getD j 0)) := by
  obtain ⟨b', o', he, hc⟩ := h j (by simpa using hj)
  rw [e] at he
  injection he with he
  injection he with e1 e2
  subst e1; subst e2
  rw [hc]
  simp [List.getD, hj]
/-- a slice of ints as a value -/
def IRow (w : World) (v : Value) (L : List Int) : Prop := ∃ A c, v = .slice A L.length c ∧ L.length ≤ c ∧ c ≤ maxLen ∧ (A = none → c = 0) ∧ Holds w A (L.map (Value.int .i64))
theorem IRow.up {w w' : World} {v : Value} {L : List Int} (h : IRow w v L) (hb : Below w.heap.size w w') : IRow w' v L := by
  obtain ⟨A, c, a1, a2, a3, a4, a5⟩ := h
  exact ⟨A, c, a1, a2, a3, a4, a5.up hb⟩
theorem below_drawn (w : World) (q : Nat) : Below w.heap.size w (w.drewN q) := ⟨rfl, rfl, rfl, Nat.le_refl _, fun _ _ => rfl⟩
theorem containsI_any (w : World) (v : Value) (L : List Int) (x : Int) (h : IRow w v L) (hn : L.length ≤ 100000) :
    Calls Try.prog 15 #[v, .int .i64 x] w fun e w' => e = .returned (.bool (L.contains x)) ∧ Below w.heap.size w w' := by
  obtain ⟨A, c, rfl, h1, h2, h3, hh⟩ := h
  cases L with
  | nil =>
    exact (Any.slices_Contains_int_empty lay107 A c x w).mono fun e w' ⟨h, hw⟩ => ⟨by simpa using h, by subst hw; exact Below.refl _ _⟩
  | cons y L =>
    obtain ⟨b, o, rfl, _⟩ := hh 0 (by simp)
    refine (Any.slices_Contains_int lay107 b o _ c (y :: L) x w (Nat.le_refl _) (by omega) (fun j hj => holds_getD hh rfl j hj)).mono fun e w' ⟨h, hw⟩ => ⟨?_, by subst hw; exact Below.refl _ _⟩
    rw [List.take_length] at h
    exact h
theorem bsearchI_any (w : World) (v : Value) (L : List Int) (x : Int) (h : IRow w v L) (hn : L.length ≤ 100000) (h0 : L ≠ []) (hs : L.Pairwise (· ≤ ·)) :
    Calls Try.prog 28 #[v, .int .i64 x] w fun e w' => (∃ b, e = .returned (.tuple #[.int .i64 (L.countP (· < x) : Nat), .bool b])) ∧ Below w.heap.size w w' := by
  obtain ⟨A, c, rfl, h1, h2, h3, hh⟩ := h
  obtain ⟨b, o, rfl, _⟩ := hh 0 (by cases L with | nil => exact absurd rfl h0 | cons a L => simp)
  refine (Any.slices_BinarySearch_int lay25 b o _ c L x w (Nat.le_refl _) (by omega) (fun j hj => holds_getD hh rfl j hj) (by rw [List.take_length]; exact hs)).mono fun e w' ⟨h, q, hw⟩ => ⟨⟨(L.take L.length).contains x, ?_⟩, by subst hw; exact below_drawn _ _⟩
  rw [h]
  rw [List.take_length]
theorem grow_heap (w : World) (os : Array Obj) {k : Nat} (h : k < w.heap.size) : (Sort.grow w os).heap[k]? = w.heap[k]? := by
  unfold Sort.grow
  rw [Array.getElem?_append_left h]
/-- the sort of a row of the call's own -/
theorem sort_any (w : World) (v : Value) (L : List Int) (base : Nat) (h : w.ownsRow base 3 1 v L.length (L.map (Value.int .i64))) (hn : L.length ≤ 100000) :
    Calls Try.prog 27 #[v] w fun e w' => e = .returned (.tuple #[]) ∧ w'.ownsRow base 3 1 v L.length ((L.mergeSort fun x y => decide (x ≤ y)).map (Value.int .i64)) ∧ w.heap.size ≤ w'.heap.size ∧ (∀ B, B ≤ base → B ≤ w.heap.size → Below B w w') ∧ (∀ k, k < w.heap.size → some k ≠ v.ownBlock → w'.heap[k]? = w.heap[k]?) := by
  obtain ⟨hl, ⟨rfl, h0⟩ | ⟨g, cap, cur, rfl, hb, hg, hcap, hmax, hsz, htk⟩⟩ := h
  · obtain rfl : L = [] := List.eq_nil_of_length_eq_zero h0
    refine (Any.slices_Sort_int_none lay189 none 0 w).mono fun e w' ⟨he, hw⟩ => ?_
    subst hw
    refine ⟨he, ⟨by simp, .inl ⟨rfl, rfl⟩⟩, Nat.le_refl _, fun B _ _ => Below.refl _ _, fun _ _ _ => rfl⟩
  · have hgl : g < w.heap.size := (Array.getElem?_eq_some_iff.1 hg).1
    have hk : Block w g 3 cur := hg
    have hH : Sort.Holds (Value.int .i64) w g 0 L.toArray := by
      intro j hj
      have hj' : j < L.length := by simpa using hj
      refine ⟨?_, ?_⟩
      · rw [Nat.zero_add, hk.cell]
        have : (cur.toList.take (L.length * 1))[j]? = (L.map (Value.int .i64))[j]? := by rw [htk]
        rw [List.getElem?_take, if_pos (by omega)] at this
        rw [Array.getElem?_toList] at this
        rw [this]
        simp [hj']
      · rw [Nat.zero_add]; exact hk.frozen j
    refine (calls_of_every_depth fun D => AnyS.slices_Sort_int_in lay189 D g 0 cap L w hH hgl (by omega)).mono fun e w' ⟨he, n, os, hw⟩ => ?_
    have hlm : (L.mergeSort fun x y => decide (x ≤ y)).length = L.length := List.length_mergeSort _
    generalize (L.mergeSort fun x y => decide (x ≤ y)) = M at *
    have hs1 : (Sort.putRow (Value.int .i64) (Sort.ahead w n) g 0 M.toArray).heap.size = w.heap.size := by
      simp [Sort.putRow, Sort.mapBlock, Sort.ahead]
    have hfar : ∀ k, k < w.heap.size → k ≠ g → w'.heap[k]? = w.heap[k]? := by
      intro k hk hne
      rw [hw, grow_heap _ _ (by omega)]
      simp only [Sort.putRow, Sort.mapBlock, Sort.ahead, Array.getElem?_modify]
      rw [if_neg (by omega)]
    refine ⟨he, ⟨by simp [hlm], .inr ⟨g, cap, Sort.putCells (Value.int .i64) 0 M.toArray cur, rfl, hb, ?_, hcap, hmax, by simp [Sort.putCells, hsz], ?_⟩⟩, ?_, fun B hB hB2 => ⟨?_, ?_, ?_, ?_, fun k hkB => hfar k (by omega) (by omega)⟩, fun k hk1 hk2 => hfar k hk1 (fun e => hk2 (by subst e; rfl))⟩
    · rw [hw, grow_heap _ _ (by omega)]
      simp only [Sort.putRow, Sort.mapBlock, Sort.ahead, Array.getElem?_modify, if_true, hg]
      rfl
    · apply List.ext_getElem?
      intro j
      rw [List.getElem?_take]
      split
      · rename_i hj
        have hjL : j < L.length := by omega
        rw [Array.getElem?_toList]
        have hjc : j < cur.size := by omega
        simp only [Sort.putCells, Array.getElem?_mapIdx, Array.getElem?_eq_getElem hjc, Option.map_some]
        rw [if_pos ⟨Nat.zero_le _, by simp; omega⟩]
        simp [hlm, hjL]
      · rw [List.getElem?_eq_none]
        simp [hlm]; omega
    · rw [hw]; simp [Sort.grow, hs1]
    · rw [hw]; rfl
    · rw [hw]; rfl
    · rw [hw]; rfl
    · rw [hw]; simp [Sort.grow, hs1]

end Go.Proofs.Ytpegfbdepgmbjaa
