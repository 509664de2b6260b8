/- Recv: what the laws of single operations ask of the program. -/
import Derived.Test.YthfdjlhplcmicaaD
namespace Go.Proofs.Ythfdjlhplcmicaa
open Go.RowKit
theorem s3 : (Try.prog.info? 3).map (·.size) = some 1 := by kernel_rfl
theorem s22 : (Try.prog.info? 22).map (·.size) = some 1 := by kernel_rfl
theorem s24 : (Try.prog.info? 24).map (·.size) = some 2 := by kernel_rfl
theorem s31 : (Try.prog.info? 31).map (·.size) = some 4 := by kernel_rfl
theorem s33 : (Try.prog.info? 33).map (·.size) = some 5 := by kernel_rfl
theorem z24 : (Try.prog.info? 24).map (·.zero) = some (some (.agg #[.int .i64 0, .slice none 0 0])) := by kernel_rfl
theorem z31 : (Try.prog.info? 31).map (·.zero) = some (some (.agg #[.int .i64 0, .int .i64 0, .int .i64 0, .int .i64 0])) := by kernel_rfl
theorem z33 : (Try.prog.info? 33).map (·.zero) = some (some (.agg #[.int .i64 0, .int .i64 0, .int .i64 0, .int .i64 0, .int .i64 0])) := by kernel_rfl
theorem i33 : (Try.prog.info? 33).map (fun i => (i.zero, i.size, i.bytes)) = some (some (.agg #[.int .i64 0, .int .i64 0, .int .i64 0, .int .i64 0, .int .i64 0]), 5, 40) := by kernel_rfl
theorem i31 : (Try.prog.info? 31).map (fun i => (i.zero, i.size, i.bytes)) = some (some (.agg #[.int .i64 0, .int .i64 0, .int .i64 0, .int .i64 0]), 4, 32) := by kernel_rfl
theorem fld24_0 : fldAt Try.prog 24 0 0 := fun b o w => by go_simp
theorem fld24_1 : fldAt Try.prog 24 1 1 := fun b o w => by go_simp
theorem fld33_0 : fldAt Try.prog 33 0 0 := fun b o w => by go_simp
theorem fld33_1 : fldAt Try.prog 33 1 1 := fun b o w => by go_simp
theorem fld31_0 : fldAt Try.prog 31 0 0 := fun b o w => by go_simp
theorem fld31_1 : fldAt Try.prog 31 1 1 := fun b o w => by go_simp
theorem fld31_2 : fldAt Try.prog 31 2 2 := fun b o w => by go_simp
theorem fld31_3 : fldAt Try.prog 31 3 3 := fun b o w => by go_simp
theorem cf9 : entF Try.prog 9 := fun args w => by kernel_rfl
theorem cf10 : entF Try.prog 10 := fun args w => by kernel_rfl
theorem cf11 : entF Try.prog 11 := fun args w => by kernel_rfl
theorem cf12 : entF Try.prog 12 := fun args w => by kernel_rfl
theorem cf13 : entF Try.prog 13 := fun args w => by kernel_rfl
theorem cf14 : entF Try.prog 14 := fun args w => by kernel_rfl
theorem cf15 : entF Try.prog 15 := fun args w => by kernel_rfl
theorem cf16 : entF Try.prog 16 := fun args w => by kernel_rfl
theorem cf17 : entF Try.prog 17 := fun args w => by kernel_rfl
theorem cf18 : entF Try.prog 18 := fun args w => by kernel_rfl
theorem cf19 : entF Try.prog 19 := fun args w => by kernel_rfl
theorem cf20 : entF Try.prog 20 := fun args w => by kernel_rfl
theorem cf21 : entF Try.prog 21 := fun args w => by kernel_rfl
theorem cf22 : entF Try.prog 22 := fun args w => by kernel_rfl
theorem cf23 : entF Try.prog 23 := fun args w => by kernel_rfl
theorem cf24 : entF Try.prog 24 := fun args w => by kernel_rfl
theorem cf25 : entF Try.prog 25 := fun args w => by kernel_rfl
theorem cf26 : entF Try.prog 26 := fun args w => by kernel_rfl
theorem cf27 : entF Try.prog 27 := fun args w => by kernel_rfl
theorem cf28 : entF Try.prog 28 := fun args w => by kernel_rfl
theorem cf29 : entF Try.prog 29 := fun args w => by kernel_rfl
theorem cf37 : entF Try.prog 37 := fun args w => by kernel_rfl
theorem cf38 : entF Try.prog 38 := fun args w => by kernel_rfl
end Go.Proofs.Ythfdjlhplcmicaa
