/- Roster: what the laws of single operations ask of the program. -/
import Derived.Test.YtfehhenbdiageaaKw
import Derived.Test.YtfehhenbdiageaaJ
namespace Go.Proofs.Ytfehhenbdiageaa
open Go.RowKit
theorem s27 : (Try.prog.info? 27).map (·.size) = some 3 := by kernel_rfl
theorem s3 : (Try.prog.info? 3).map (·.size) = some 1 := by kernel_rfl
theorem s59 : (Try.prog.info? 59).map (·.size) = some 7 := by kernel_rfl
theorem s60 : (Try.prog.info? 60).map (·.size) = some 35 := by kernel_rfl
theorem z37 : (Try.prog.info? 37).map (·.zero) = some (some (.agg #[.int .i64 0, .int .i64 0, .int .i64 0])) := by kernel_rfl
theorem z27 : (Try.prog.info? 27).map (·.zero) = some (some (.agg #[.int .i64 0, .int .i64 0, .int .i64 0])) := by kernel_rfl
theorem fld27_0 : fldAt Try.prog 27 0 0 := fun b o w => by go_simp
theorem fld27_1 : fldAt Try.prog 27 1 1 := fun b o w => by go_simp
theorem fld27_2 : fldAt Try.prog 27 2 2 := fun b o w => by go_simp
theorem fld37_0 : fldAt Try.prog 37 0 0 := fun b o w => by go_simp
theorem fld37_1 : fldAt Try.prog 37 1 1 := fun b o w => by go_simp
theorem fld37_2 : fldAt Try.prog 37 2 2 := fun b o w => by go_simp
theorem cf10 : entF Try.prog 10 := fun args w => by kernel_rfl
theorem cf11 : entF Try.prog 11 := fun args w => by kernel_rfl
theorem cf12 : entF Try.prog 12 := fun args w => by kernel_rfl
theorem cf13 : entF Try.prog 13 := fun args w => by kernel_rfl
theorem cf14 : entF Try.prog 14 := fun args w => by kernel_rfl
theorem cf15 : entF Try.prog 15 := fun args w => by kernel_rfl
theorem cf16 : entF Try.prog 16 := fun args w => by kernel_rfl
theorem cf17 : entF Try.prog 17 := fun args w => by kernel_rfl
theorem cf18 : entF Try.prog 18 := fun args w => by kernel_rfl
theorem cf19 : entF Try.prog 19 := fun args w => by kernel_rfl
theorem cf20 : entF Try.prog 20 := fun args w => by kernel_rfl
theorem cf21 : entF Try.prog 21 := fun args w => by kernel_rfl
theorem cf22 : entF Try.prog 22 := fun args w => by kernel_rfl
theorem cf23 : entF Try.prog 23 := fun args w => by kernel_rfl
theorem cf24 : entF Try.prog 24 := fun args w => by kernel_rfl
theorem cf25 : entF Try.prog 25 := fun args w => by kernel_rfl
theorem cf26 : entF Try.prog 26 := fun args w => by kernel_rfl
theorem cf27 : entF Try.prog 27 := fun args w => by kernel_rfl
theorem cf28 : entF Try.prog 28 := fun args w => by kernel_rfl
theorem cf29 : entF Try.prog 29 := fun args w => by kernel_rfl
theorem cf30 : entF Try.prog 30 := fun args w => by kernel_rfl
theorem cf31 : entF Try.prog 31 := fun args w => by kernel_rfl
theorem cf32 : entF Try.prog 32 := fun args w => by kernel_rfl
theorem cf33 : entF Try.prog 33 := fun args w => by kernel_rfl
theorem cf34 : entF Try.prog 34 := fun args w => by kernel_rfl
theorem cf35 : entF Try.prog 35 := fun args w => by kernel_rfl
theorem cf36 : entF Try.prog 36 := fun args w => by kernel_rfl
theorem cf37 : entF Try.prog 37 := fun args w => by kernel_rfl
theorem cf38 : entF Try.prog 38 := fun args w => by kernel_rfl
theorem cf39 : entF Try.prog 39 := fun args w => by kernel_rfl
theorem cf40 : entF Try.prog 40 := fun args w => by kernel_rfl
theorem cf41 : entF Try.prog 41 := fun args w => by kernel_rfl
theorem cf42 : entF Try.prog 42 := fun args w => by kernel_rfl
theorem cf43 : entF Try.prog 43 := fun args w => by kernel_rfl
theorem cf44 : entF Try.prog 44 := fun args w => by kernel_rfl
theorem cf45 : entF Try.prog 45 := fun args w => by kernel_rfl
theorem cf46 : entF Try.prog 46 := fun args w => by kernel_rfl
end Go.Proofs.Ytfehhenbdiageaa
