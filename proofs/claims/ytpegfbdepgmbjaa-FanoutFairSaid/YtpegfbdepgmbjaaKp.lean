/- Fanout: what the laws of single operations ask of the program. -/
import Derived.Test.YtpegfbdepgmbjaaD
namespace Go.Proofs.Ytpegfbdepgmbjaa
open Go.RowKit
theorem s3 : (Try.prog.info? 3).map (·.size) = some 1 := by kernel_rfl
theorem s22 : (Try.prog.info? 22).map (·.size) = some 1 := by kernel_rfl
theorem s25 : (Try.prog.info? 25).map (·.size) = some 1 := by kernel_rfl
theorem s24 : (Try.prog.info? 24).map (·.size) = some 2 := by kernel_rfl
theorem s29 : (Try.prog.info? 29).map (·.size) = some 2 := by kernel_rfl
theorem z24 : (Try.prog.info? 24).map (·.zero) = some (some (.agg #[.slice none 0 0, .int .i64 0])) := by kernel_rfl
theorem z29 : (Try.prog.info? 29).map (·.zero) = some (some (.agg #[.int .i64 0, .int .i64 0])) := by kernel_rfl
theorem i29 : (Try.prog.info? 29).map (fun i => (i.zero, i.size, i.bytes)) = some (some (.agg #[.int .i64 0, .int .i64 0]), 2, 16) := by kernel_rfl
theorem i3 : (Try.prog.info? 3).map (fun i => (i.zero, i.size, i.bytes)) = some (some (.int .i64 0), 1, 8) := by kernel_rfl
theorem fld24_0 : fldAt Try.prog 24 0 0 := fun b o w => by go_simp
theorem fld24_1 : fldAt Try.prog 24 1 1 := fun b o w => by go_simp
theorem fld29_0 : fldAt Try.prog 29 0 0 := fun b o w => by go_simp
theorem fld29_1 : fldAt Try.prog 29 1 1 := fun b o w => by go_simp
/-- a mark: whose it is, and its turn -/
abbrev Mk := Int × Int
abbrev encM (x : Mk) : List Int := [x.1, x.2]
theorem encM_len (x : Mk) : (encM x).length = 2 := rfl
abbrev MRow (w : World) (v : Value) (L : List Mk) : Prop := Row encM w v L
abbrev MOwn (w : World) (base : Nat) (v : Value) (L : List Mk) : Prop := ROwn encM 29 2 w base v L
theorem MOwn.row {w : World} {base : Nat} {v : Value} {L : List Mk} (h : MOwn w base v L) : MRow w v L := ROwn.row h encM_len (by omega)
abbrev enc1 (x : Int) : List Int := [x]
theorem enc1_len (x : Int) : (enc1 x).length = 1 := rfl
abbrev NRow (w : World) (v : Value) (L : List Int) : Prop := Row enc1 w v L
theorem cf7 : entF Try.prog 7 := fun args w => by kernel_rfl
theorem cf8 : entF Try.prog 8 := fun args w => by kernel_rfl
theorem cf9 : entF Try.prog 9 := fun args w => by kernel_rfl
theorem cf10 : entF Try.prog 10 := fun args w => by kernel_rfl
theorem cf11 : entF Try.prog 11 := fun args w => by kernel_rfl
theorem cf12 : entF Try.prog 12 := fun args w => by kernel_rfl
theorem cf13 : entF Try.prog 13 := fun args w => by kernel_rfl
theorem cf14 : entF Try.prog 14 := fun args w => by kernel_rfl
theorem cf15 : entF Try.prog 15 := fun args w => by kernel_rfl
theorem cf16 : entF Try.prog 16 := fun args w => by kernel_rfl
theorem cf17 : entF Try.prog 17 := fun args w => by kernel_rfl
theorem cf18 : entF Try.prog 18 := fun args w => by kernel_rfl
theorem cf19 : entF Try.prog 19 := fun args w => by kernel_rfl
theorem cf20 : entF Try.prog 20 := fun args w => by kernel_rfl
theorem cf21 : entF Try.prog 21 := fun args w => by kernel_rfl
theorem cf22 : entF Try.prog 22 := fun args w => by kernel_rfl
theorem cf23 : entF Try.prog 23 := fun args w => by kernel_rfl
theorem cf24 : entF Try.prog 24 := fun args w => by kernel_rfl
theorem cf25 : entF Try.prog 25 := fun args w => by kernel_rfl
theorem cf26 : entF Try.prog 26 := fun args w => by kernel_rfl
theorem cf27 : entF Try.prog 27 := fun args w => by kernel_rfl
theorem cf28 : entF Try.prog 28 := fun args w => by kernel_rfl
theorem cf29 : entF Try.prog 29 := fun args w => by kernel_rfl
theorem cf30 : entF Try.prog 30 := fun args w => by kernel_rfl
theorem cf31 : entF Try.prog 31 := fun args w => by kernel_rfl
theorem cf32 : entF Try.prog 32 := fun args w => by kernel_rfl
theorem cf33 : entF Try.prog 33 := fun args w => by kernel_rfl
theorem cf34 : entF Try.prog 34 := fun args w => by kernel_rfl
theorem cf35 : entF Try.prog 35 := fun args w => by kernel_rfl
theorem cf36 : entF Try.prog 36 := fun args w => by kernel_rfl
theorem cf37 : entF Try.prog 37 := fun args w => by kernel_rfl
theorem cf38 : entF Try.prog 38 := fun args w => by kernel_rfl
theorem cf39 : entF Try.prog 39 := fun args w => by kernel_rfl
theorem cf40 : entF Try.prog 40 := fun args w => by kernel_rfl
theorem cf41 : entF Try.prog 41 := fun args w => by kernel_rfl
theorem cf42 : entF Try.prog 42 := fun args w => by kernel_rfl
theorem cf43 : entF Try.prog 43 := fun args w => by kernel_rfl
theorem cf44 : entF Try.prog 44 := fun args w => by kernel_rfl
theorem cf45 : entF Try.prog 45 := fun args w => by kernel_rfl
end Go.Proofs.Ytpegfbdepgmbjaa
