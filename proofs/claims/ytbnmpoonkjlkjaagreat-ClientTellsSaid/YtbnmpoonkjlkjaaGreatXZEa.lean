/- Client: part ZEa of the proof. -/
import Derived.Test.YtbnmpoonkjlkjaaGreatXZTw
import Derived.Test.YtbnmpoonkjlkjaaGreatXZQr
import Derived.Test.YtbnmpoonkjlkjaaGreatXZQz
namespace Go.Proofs.YtbnmpoonkjlkjaaGreat
open Go.RowKit
set_option linter.unusedVariables false
set_option linter.unusedSimpArgs false
set_option maxRecDepth 100000
set_option maxHeartbeats 8000000
/-- the views' cells: user 0 to 16 -/
def PC (vw : Int → Option Nt) : List Value := FV EM ((List.range 17).map fun u => (vw (u : Nat)).getD CH)
theorem Il {vw : Int → Option Nt} : (PC vw).length = 68 := by simp [PC, Cu Cr]
def V8 (V : Int → Option Nt) : Array Value := (PC V).toArray
def rL (c : Cl) (vi vo : Value) : List Value :=
 [J c.user, J c.now, J c.state, J c.nonce, J c.epoch] ++ (c.ck.map u8v ++ ([J c.id] ++ (c.key.map u8v ++ ([J c.beats, J c.seq, J c.ask, J c.beat, J c.say] ++ ([vo] ++ ([J c.next, vi] ++ (PC c.vw ++ [J c.code])))))))
abbrev rA (c : Cl) (vi vo : Value) : Array Value := (rL c vi vo).toArray
theorem Eb {c : Cl} {vi vo : Value} (h1 : c.ck.length = 16) (h2 : c.key.length = 16) : (rA c vi vo).size = 115 := by simp [rL, h1, h2, Il]
theorem Cv {c : Cl} {vi vo : Value} {o n : Nat} (h1 : c.ck.length = 16) (h2 : c.key.length = 16) (h : Nat.ble (o + n) 115 = true) : o + n ≤ (rA c vi vo).size := by
 rw [Eb h1 h2]
 exact Nat.le_of_ble_eq_true h
theorem Bp {α : Type} {A B : List α} {n j : Nat} (h : A.length = n) : (A ++ B)[n + j]? = B[j]? := by
 subst h
 rw [List.getElem?_append_right (by omega), show A.length + j - A.length = j by omega]
theorem BY {α : Type} {A B : List α} {n j : Nat} {v : α} (h : A.length = n) : (A ++ B).set (n + j) v = A ++ B.set j v := by
 subst h
 rw [List.set_append_right _ _ (by omega), show A.length + j - A.length = j by omega]
theorem Tk {w : World} {b : Nat} {c : Cl} {vi vo : Value} (h1 : c.ck.length = 16) (h2 : c.key.length = 16) (k : Ad w b 79 (rA c vi vo)) : w.cell? ⟨b, 0, none⟩ = some (J c.user) := by
 rw [k.cell, List.getElem?_toArray, rL, show (0 : Nat) = 0 from rfl]
 rfl
theorem Fu {w : World} {b : Nat} {c : Cl} {vi vo : Value} (h1 : c.ck.length = 16) (h2 : c.key.length = 16) (k : Ad w b 79 (rA c vi vo)) : w.cell? ⟨b, 1, none⟩ = some (J c.now) := by
 rw [k.cell, List.getElem?_toArray, rL, show (1 : Nat) = 1 from rfl]
 rfl
theorem DZ {w : World} {b : Nat} {c : Cl} {vi vo : Value} (h1 : c.ck.length = 16) (h2 : c.key.length = 16) (k : Ad w b 79 (rA c vi vo)) : w.cell? ⟨b, 2, none⟩ = some (J c.state) := by
 rw [k.cell, List.getElem?_toArray, rL, show (2 : Nat) = 2 from rfl]
 rfl
theorem FX {w : World} {b : Nat} {c : Cl} {vi vo : Value} (h1 : c.ck.length = 16) (h2 : c.key.length = 16) (k : Ad w b 79 (rA c vi vo)) : w.cell? ⟨b, 3, none⟩ = some (J c.nonce) := by
 rw [k.cell, List.getElem?_toArray, rL, show (3 : Nat) = 3 from rfl]
 rfl
theorem Qn {w : World} {b : Nat} {c : Cl} {vi vo : Value} (h1 : c.ck.length = 16) (h2 : c.key.length = 16) (k : Ad w b 79 (rA c vi vo)) : w.cell? ⟨b, 4, none⟩ = some (J c.epoch) := by
 rw [k.cell, List.getElem?_toArray, rL, show (4 : Nat) = 4 from rfl]
 rfl
theorem L8 {w : World} {b : Nat} {c : Cl} {vi vo : Value} (h1 : c.ck.length = 16) (h2 : c.key.length = 16) (k : Ad w b 79 (rA c vi vo)) : w.cell? ⟨b, 21, none⟩ = some (J c.id) := by
 rw [k.cell, List.getElem?_toArray, rL, show (21 : Nat) = 5 + (16 + (0)) from rfl, Bp (n := 5) rfl, Bp (n := 16) (by rw [List.length_map]; exact h1)]
 rfl
theorem MD {w : World} {b : Nat} {c : Cl} {vi vo : Value} (h1 : c.ck.length = 16) (h2 : c.key.length = 16) (k : Ad w b 79 (rA c vi vo)) : w.cell? ⟨b, 38, none⟩ = some (J c.beats) := by
 rw [k.cell, List.getElem?_toArray, rL, show (38 : Nat) = 5 + (16 + (1 + (16 + (0)))) from rfl, Bp (n := 5) rfl, Bp (n := 16) (by rw [List.length_map]; exact h1), Bp (n := 1) rfl, Bp (n := 16) (by rw [List.length_map]; exact h2)]
 rfl
theorem RY {w : World} {b : Nat} {c : Cl} {vi vo : Value} (h1 : c.ck.length = 16) (h2 : c.key.length = 16) (k : Ad w b 79 (rA c vi vo)) : w.cell? ⟨b, 39, none⟩ = some (J c.seq) := by
 rw [k.cell, List.getElem?_toArray, rL, show (39 : Nat) = 5 + (16 + (1 + (16 + (1)))) from rfl, Bp (n := 5) rfl, Bp (n := 16) (by rw [List.length_map]; exact h1), Bp (n := 1) rfl, Bp (n := 16) (by rw [List.length_map]; exact h2)]
 rfl
theorem W0 {w : World} {b : Nat} {c : Cl} {vi vo : Value} (h1 : c.ck.length = 16) (h2 : c.key.length = 16) (k : Ad w b 79 (rA c vi vo)) : w.cell? ⟨b, 40, none⟩ = some (J c.ask) := by
 rw [k.cell, List.getElem?_toArray, rL, show (40 : Nat) = 5 + (16 + (1 + (16 + (2)))) from rfl, Bp (n := 5) rfl, Bp (n := 16) (by rw [List.length_map]; exact h1), Bp (n := 1) rfl, Bp (n := 16) (by rw [List.length_map]; exact h2)]
 rfl
theorem Tl {w : World} {b : Nat} {c : Cl} {vi vo : Value} (h1 : c.ck.length = 16) (h2 : c.key.length = 16) (k : Ad w b 79 (rA c vi vo)) : w.cell? ⟨b, 41, none⟩ = some (J c.beat) := by
 rw [k.cell, List.getElem?_toArray, rL, show (41 : Nat) = 5 + (16 + (1 + (16 + (3)))) from rfl, Bp (n := 5) rfl, Bp (n := 16) (by rw [List.length_map]; exact h1), Bp (n := 1) rfl, Bp (n := 16) (by rw [List.length_map]; exact h2)]
 rfl
theorem RZ {w : World} {b : Nat} {c : Cl} {vi vo : Value} (h1 : c.ck.length = 16) (h2 : c.key.length = 16) (k : Ad w b 79 (rA c vi vo)) : w.cell? ⟨b, 42, none⟩ = some (J c.say) := by
 rw [k.cell, List.getElem?_toArray, rL, show (42 : Nat) = 5 + (16 + (1 + (16 + (4)))) from rfl, Bp (n := 5) rfl, Bp (n := 16) (by rw [List.length_map]; exact h1), Bp (n := 1) rfl, Bp (n := 16) (by rw [List.length_map]; exact h2)]
 rfl
theorem Yw {w : World} {b : Nat} {c : Cl} {vi vo : Value} (h1 : c.ck.length = 16) (h2 : c.key.length = 16) (k : Ad w b 79 (rA c vi vo)) : w.cell? ⟨b, 44, none⟩ = some (J c.next) := by
 rw [k.cell, List.getElem?_toArray, rL, show (44 : Nat) = 5 + (16 + (1 + (16 + (5 + (1 + (0)))))) from rfl, Bp (n := 5) rfl, Bp (n := 16) (by rw [List.length_map]; exact h1), Bp (n := 1) rfl, Bp (n := 16) (by rw [List.length_map]; exact h2), Bp (n := 5) rfl, Bp (n := 1) rfl]
 rfl
theorem OY {w : World} {b : Nat} {c : Cl} {vi vo : Value} (h1 : c.ck.length = 16) (h2 : c.key.length = 16) (k : Ad w b 79 (rA c vi vo)) : w.cell? ⟨b, 114, none⟩ = some (J c.code) := by
 rw [k.cell, List.getElem?_toArray, rL, show (114 : Nat) = 5 + (16 + (1 + (16 + (5 + (1 + (2 + (68 + (0)))))))) from rfl, Bp (n := 5) rfl, Bp (n := 16) (by rw [List.length_map]; exact h1), Bp (n := 1) rfl, Bp (n := 16) (by rw [List.length_map]; exact h2), Bp (n := 5) rfl, Bp (n := 1) rfl, Bp (n := 2) rfl, Bp (n := 68) Il]
 rfl
theorem IP {w : World} {b : Nat} {c : Cl} {vi vo : Value} (h1 : c.ck.length = 16) (h2 : c.key.length = 16) (k : Ad w b 79 (rA c vi vo)) : w.cell? ⟨b, 43, none⟩ = some vo := by
 rw [k.cell, List.getElem?_toArray, rL, show (43 : Nat) = 5 + (16 + (1 + (16 + (5 + (0))))) from rfl, Bp (n := 5) rfl, Bp (n := 16) (by rw [List.length_map]; exact h1), Bp (n := 1) rfl, Bp (n := 16) (by rw [List.length_map]; exact h2), Bp (n := 5) rfl]
 rfl
theorem Wz {w : World} {b : Nat} {c : Cl} {vi vo : Value} (h1 : c.ck.length = 16) (h2 : c.key.length = 16) (k : Ad w b 79 (rA c vi vo)) : w.cell? ⟨b, 45, none⟩ = some vi := by
 rw [k.cell, List.getElem?_toArray, rL, show (45 : Nat) = 5 + (16 + (1 + (16 + (5 + (1 + (1)))))) from rfl, Bp (n := 5) rfl, Bp (n := 16) (by rw [List.length_map]; exact h1), Bp (n := 1) rfl, Bp (n := 16) (by rw [List.length_map]; exact h2), Bp (n := 5) rfl, Bp (n := 1) rfl]
 rfl
theorem ZM {w : World} {b : Nat} {c : Cl} {vi vo : Value} (h1 : c.ck.length = 16) (h2 : c.key.length = 16) (k : Ad w b 79 (rA c vi vo)) : w.rangeAt b 5 (c.ck.map u8v) := fun j v hv => by
 rw [k.cell, List.getElem?_toArray, rL, show 5 + j = 5 + (j) by omega, Bp (n := 5) rfl, List.getElem?_append_left (List.getElem?_eq_some_iff.1 hv).1]
 exact hv
theorem Sa {w : World} {b : Nat} {c : Cl} {vi vo : Value} (h1 : c.ck.length = 16) (h2 : c.key.length = 16) (k : Ad w b 79 (rA c vi vo)) : w.rangeAt b 22 (c.key.map u8v) := fun j v hv => by
 rw [k.cell, List.getElem?_toArray, rL, show 22 + j = 5 + (16 + (1 + (j))) by omega, Bp (n := 5) rfl, Bp (n := 16) (by rw [List.length_map]; exact h1), Bp (n := 1) rfl, List.getElem?_append_left (List.getElem?_eq_some_iff.1 hv).1]
 exact hv
theorem MC {w : World} {b : Nat} {c : Cl} {vi vo : Value} (h1 : c.ck.length = 16) (h2 : c.key.length = 16) (k : Ad w b 79 (rA c vi vo)) : w.rangeAt b 46 (PC c.vw) := fun j v hv => by
 rw [k.cell, List.getElem?_toArray, rL, show 46 + j = 5 + (16 + (1 + (16 + (5 + (1 + (2 + (j))))))) by omega, Bp (n := 5) rfl, Bp (n := 16) (by rw [List.length_map]; exact h1), Bp (n := 1) rfl, Bp (n := 16) (by rw [List.length_map]; exact h2), Bp (n := 5) rfl, Bp (n := 1) rfl, Bp (n := 2) rfl, List.getElem?_append_left (List.getElem?_eq_some_iff.1 hv).1]
 exact hv
theorem OX {w : World} {b : Nat} {c : Cl} {vi vo : Value} (h1 : c.ck.length = 16) (h2 : c.key.length = 16) (k : Ad w b 79 (rA c vi vo)) : w.rangeAt b 44 [J c.next, vi] := fun j v hv => by
 match j, hv with
 | 0, hv => rw [← hv]; exact Yw h1 h2 k
 | 1, hv => rw [← hv]; exact Wz h1 h2 k
theorem Wc {c : Cl} {vi vo : Value} {x : Int} (h1 : c.ck.length = 16) (h2 : c.key.length = 16) : C3 (rA c vi vo) 1 (J x).cells.toList = rA { c with now := x } vi vo := by
 show C3 (rA c vi vo) 1 [J x] = _
 rw [FL]
 apply Array.ext'
 rw [Array.toList_setIfInBounds]
 show (rL c vi vo).set 1 (J x) = rL { c with now := x } vi vo
 rw [rL, show (1 : Nat) = 1 from rfl]
 rfl
theorem GB {c : Cl} {vi vo : Value} {x : Int} (h1 : c.ck.length = 16) (h2 : c.key.length = 16) : C3 (rA c vi vo) 2 (J x).cells.toList = rA { c with state := x } vi vo := by
 show C3 (rA c vi vo) 2 [J x] = _
 rw [FL]
 apply Array.ext'
 rw [Array.toList_setIfInBounds]
 show (rL c vi vo).set 2 (J x) = rL { c with state := x } vi vo
 rw [rL, show (2 : Nat) = 2 from rfl]
 rfl
theorem Ke {c : Cl} {vi vo : Value} {x : Int} (h1 : c.ck.length = 16) (h2 : c.key.length = 16) : C3 (rA c vi vo) 3 (J x).cells.toList = rA { c with nonce := x } vi vo := by
 show C3 (rA c vi vo) 3 [J x] = _
 rw [FL]
 apply Array.ext'
 rw [Array.toList_setIfInBounds]
 show (rL c vi vo).set 3 (J x) = rL { c with nonce := x } vi vo
 rw [rL, show (3 : Nat) = 3 from rfl]
 rfl
theorem PW {c : Cl} {vi vo : Value} {x : Int} (h1 : c.ck.length = 16) (h2 : c.key.length = 16) : C3 (rA c vi vo) 4 (J x).cells.toList = rA { c with epoch := x } vi vo := by
 show C3 (rA c vi vo) 4 [J x] = _
 rw [FL]
 apply Array.ext'
 rw [Array.toList_setIfInBounds]
 show (rL c vi vo).set 4 (J x) = rL { c with epoch := x } vi vo
 rw [rL, show (4 : Nat) = 4 from rfl]
 rfl
theorem ZG {c : Cl} {vi vo : Value} {x : Int} (h1 : c.ck.length = 16) (h2 : c.key.length = 16) : C3 (rA c vi vo) 21 (J x).cells.toList = rA { c with id := x } vi vo := by
 show C3 (rA c vi vo) 21 [J x] = _
 rw [FL]
 apply Array.ext'
 rw [Array.toList_setIfInBounds]
 show (rL c vi vo).set 21 (J x) = rL { c with id := x } vi vo
 rw [rL, show (21 : Nat) = 5 + (16 + (0)) from rfl, BY (n := 5) rfl, BY (n := 16) (by rw [List.length_map]; exact h1)]
 rfl
theorem Mx {c : Cl} {vi vo : Value} {x : Int} (h1 : c.ck.length = 16) (h2 : c.key.length = 16) : C3 (rA c vi vo) 38 (J x).cells.toList = rA { c with beats := x } vi vo := by
 show C3 (rA c vi vo) 38 [J x] = _
 rw [FL]
 apply Array.ext'
 rw [Array.toList_setIfInBounds]
 show (rL c vi vo).set 38 (J x) = rL { c with beats := x } vi vo
 rw [rL, show (38 : Nat) = 5 + (16 + (1 + (16 + (0)))) from rfl, BY (n := 5) rfl, BY (n := 16) (by rw [List.length_map]; exact h1), BY (n := 1) rfl, BY (n := 16) (by rw [List.length_map]; exact h2)]
 rfl
theorem RP {c : Cl} {vi vo : Value} {x : Int} (h1 : c.ck.length = 16) (h2 : c.key.length = 16) : C3 (rA c vi vo) 39 (J x).cells.toList = rA { c with seq := x } vi vo := by
 show C3 (rA c vi vo) 39 [J x] = _
 rw [FL]
 apply Array.ext'
 rw [Array.toList_setIfInBounds]
 show (rL c vi vo).set 39 (J x) = rL { c with seq := x } vi vo
 rw [rL, show (39 : Nat) = 5 + (16 + (1 + (16 + (1)))) from rfl, BY (n := 5) rfl, BY (n := 16) (by rw [List.length_map]; exact h1), BY (n := 1) rfl, BY (n := 16) (by rw [List.length_map]; exact h2)]
 rfl
theorem My {c : Cl} {vi vo : Value} {x : Int} (h1 : c.ck.length = 16) (h2 : c.key.length = 16) : C3 (rA c vi vo) 40 (J x).cells.toList = rA { c with ask := x } vi vo := by
 show C3 (rA c vi vo) 40 [J x] = _
 rw [FL]
 apply Array.ext'
 rw [Array.toList_setIfInBounds]
 show (rL c vi vo).set 40 (J x) = rL { c with ask := x } vi vo
 rw [rL, show (40 : Nat) = 5 + (16 + (1 + (16 + (2)))) from rfl, BY (n := 5) rfl, BY (n := 16) (by rw [List.length_map]; exact h1), BY (n := 1) rfl, BY (n := 16) (by rw [List.length_map]; exact h2)]
 rfl
theorem OQ {c : Cl} {vi vo : Value} {x : Int} (h1 : c.ck.length = 16) (h2 : c.key.length = 16) : C3 (rA c vi vo) 41 (J x).cells.toList = rA { c with beat := x } vi vo := by
 show C3 (rA c vi vo) 41 [J x] = _
 rw [FL]
 apply Array.ext'
 rw [Array.toList_setIfInBounds]
 show (rL c vi vo).set 41 (J x) = rL { c with beat := x } vi vo
 rw [rL, show (41 : Nat) = 5 + (16 + (1 + (16 + (3)))) from rfl, BY (n := 5) rfl, BY (n := 16) (by rw [List.length_map]; exact h1), BY (n := 1) rfl, BY (n := 16) (by rw [List.length_map]; exact h2)]
 rfl
theorem OP {c : Cl} {vi vo : Value} {x : Int} (h1 : c.ck.length = 16) (h2 : c.key.length = 16) : C3 (rA c vi vo) 42 (J x).cells.toList = rA { c with say := x } vi vo := by
 show C3 (rA c vi vo) 42 [J x] = _
 rw [FL]
 apply Array.ext'
 rw [Array.toList_setIfInBounds]
 show (rL c vi vo).set 42 (J x) = rL { c with say := x } vi vo
 rw [rL, show (42 : Nat) = 5 + (16 + (1 + (16 + (4)))) from rfl, BY (n := 5) rfl, BY (n := 16) (by rw [List.length_map]; exact h1), BY (n := 1) rfl, BY (n := 16) (by rw [List.length_map]; exact h2)]
 rfl
theorem Jp {c : Cl} {vi vo : Value} {x : Int} (h1 : c.ck.length = 16) (h2 : c.key.length = 16) : C3 (rA c vi vo) 114 (J x).cells.toList = rA { c with code := x } vi vo := by
 show C3 (rA c vi vo) 114 [J x] = _
 rw [FL]
 apply Array.ext'
 rw [Array.toList_setIfInBounds]
 show (rL c vi vo).set 114 (J x) = rL { c with code := x } vi vo
 rw [rL, show (114 : Nat) = 5 + (16 + (1 + (16 + (5 + (1 + (2 + (68 + (0)))))))) from rfl, BY (n := 5) rfl, BY (n := 16) (by rw [List.length_map]; exact h1), BY (n := 1) rfl, BY (n := 16) (by rw [List.length_map]; exact h2), BY (n := 5) rfl, BY (n := 1) rfl, BY (n := 2) rfl, BY (n := 68) Il]
 rfl
theorem IM {X Y Z V : List Value} {C : Array Value} {o : Nat} (hC : C.toList = X ++ (Y ++ Z)) (ho : X.length = o) (hV : V.length = Y.length) : (C3 C o V).toList = X ++ (V ++ Z) := by
 have hs : C.size = X.length + (Y.length + Z.length) := by rw [← Array.length_toList, hC]; simp
 rw [H3 _ _ _ (by omega), hC, ← ho, List.take_left' rfl, List.append_assoc]
 congr 2
 rw [← List.append_assoc, List.drop_left' (by rw [List.length_append, hV])]
theorem ZH {c : Cl} {vi vo : Value} {l : List B8} (h1 : c.ck.length = 16) (hl : l.length = 16) : C3 (rA c vi vo) 5 (BL l).toList = rA { c with ck := l } vi vo := by
 apply Array.ext'
 exact IM (X := [J c.user, J c.now, J c.state, J c.nonce, J c.epoch]) (Y := c.ck.map u8v) R R (by simp [h1, hl])
theorem Wd {c : Cl} {vi vo : Value} {l : List B8} (h1 : c.ck.length = 16) (h2 : c.key.length = 16) (hl : l.length = 16) : C3 (rA c vi vo) 22 (BL l).toList = rA { c with key := l } vi vo := by
 apply Array.ext'
 rw [IM (X := [J c.user, J c.now, J c.state, J c.nonce, J c.epoch] ++ (c.ck.map u8v ++ [J c.id])) (Y := c.key.map u8v) (C := rA c vi vo) (by simp [rL]; rfl) (by simp [h1]) (by simp [h2, hl])]
 simp [rL]
theorem PV {c : Cl} {vi vo : Value} {A : Option Addr} {n m : Nat} (h1 : c.ck.length = 16) (h2 : c.key.length = 16) : C3 (rA c vi vo) 43 (Value.slice A n m).cells.toList = rA c vi (.slice A n m) := by
 show C3 (rA c vi vo) 43 [Value.slice A n m] = _
 rw [FL]
 apply Array.ext'
 rw [Array.toList_setIfInBounds]
 show (rL c vi vo).set 43 (Value.slice A n m) = rL c vi (.slice A n m)
 rw [rL, show (43 : Nat) = 5 + (16 + (1 + (16 + (5 + (0))))) from rfl, BY (n := 5) rfl, BY (n := 16) (by rw [List.length_map]; exact h1), BY (n := 1) rfl, BY (n := 16) (by rw [List.length_map]; exact h2), BY (n := 5) rfl]
 rfl
theorem OO {c : Cl} {vi vo v2 : Value} {n : Int} (h1 : c.ck.length = 16) (h2 : c.key.length = 16) : C3 (rA c vi vo) 44 (#[J n, v2]).toList = rA { c with next := n } v2 vo := by
 apply Array.ext'
 rw [IM (X := [J c.user, J c.now, J c.state, J c.nonce, J c.epoch] ++ (c.ck.map u8v ++ ([J c.id] ++ (c.key.map u8v ++ ([J c.beats, J c.seq, J c.ask, J c.beat, J c.say] ++ [vo]))))) (Y := [J c.next, vi]) (V := [J n, v2]) (C := rA c vi vo) (by simp [rL]; rfl) (by simp [h1, h2]) rfl]
 simp [rL]
theorem PU {c : Cl} {vi vo : Value} {V : Int → Option Nt} (h1 : c.ck.length = 16) (h2 : c.key.length = 16) : C3 (rA c vi vo) 46 (V8 V).toList = rA { c with vw := V } vi vo := by
 show C3 (rA c vi vo) 46 (PC V) = _
 apply Array.ext'
 rw [IM (X := [J c.user, J c.now, J c.state, J c.nonce, J c.epoch] ++ (c.ck.map u8v ++ ([J c.id] ++ (c.key.map u8v ++ ([J c.beats, J c.seq, J c.ask, J c.beat, J c.say] ++ ([vo] ++ [J c.next, vi])))))) (Y := PC c.vw) (C := rA c vi vo) (Z := [J c.code]) (by simp [rL]) (by simp [h1, h2]) (by rw [Il, Il])]
 simp [rL]
end Go.Proofs.YtbnmpoonkjlkjaaGreat
