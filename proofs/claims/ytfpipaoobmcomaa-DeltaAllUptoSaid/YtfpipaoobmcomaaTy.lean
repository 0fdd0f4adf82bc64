/- What the tables of the program say of types. -/
import Derived.Test.YtfpipaoobmcomaaProg
import Derived.Test.YtfpipaoobmcomaaFacts
import Derived.Test.YtfpipaoobmcomaaMore
namespace Go.Proofs.Ytfpipaoobmcomaa
theorem tyB4 : Try.prog.underlying 4 = some .bool := by kernel_rfl
theorem tyF35_0 : fieldT Try.prog 35 0 = some 0 := by kernel_rfl
theorem tyF35_1 : fieldT Try.prog 35 1 = some 1 := by kernel_rfl
theorem tyF35_2 : fieldT Try.prog 35 2 = some 2 := by kernel_rfl
theorem tyF38_0 : fieldT Try.prog 38 0 = some 0 := by kernel_rfl
theorem tyF38_1 : fieldT Try.prog 38 1 = some 1 := by kernel_rfl
theorem tyF41_0 : fieldT Try.prog 41 0 = some 0 := by kernel_rfl
theorem tyF41_1 : fieldT Try.prog 41 1 = some 1 := by kernel_rfl
theorem tyF41_2 : fieldT Try.prog 41 2 = some 2 := by kernel_rfl
theorem tyF54_0 : fieldT Try.prog 54 0 = some 0 := by kernel_rfl
theorem tyF54_1 : fieldT Try.prog 54 1 = some 1 := by kernel_rfl
theorem tyF54_2 : fieldT Try.prog 54 2 = some 2 := by kernel_rfl
theorem tyG31 : aggT Try.prog 31 = some 5 := by kernel_rfl
theorem tyG35 : aggT Try.prog 35 = some 3 := by kernel_rfl
theorem tyG38 : aggT Try.prog 38 = some 4 := by kernel_rfl
theorem tyG41 : aggT Try.prog 41 = some 5 := by kernel_rfl
theorem tyI3 : intT Try.prog 3 = some .i64 := by kernel_rfl
theorem tyI5 : intT Try.prog 5 = some .u8 := by kernel_rfl
theorem tyI57 : intT Try.prog 57 = some .u64 := by kernel_rfl
theorem tyI60 : intT Try.prog 60 = some .u32 := by kernel_rfl
theorem tyI74 : intT Try.prog 74 = some .u64 := by kernel_rfl
theorem tyP22 : plainT Try.prog 22 = true := by kernel_rfl
theorem tyP24 : plainT Try.prog 24 = true := by kernel_rfl
theorem tyP3 : plainT Try.prog 3 = true := by kernel_rfl
theorem tyP33 : plainT Try.prog 33 = true := by kernel_rfl
theorem tyP39 : plainT Try.prog 39 = true := by kernel_rfl
theorem tyP4 : plainT Try.prog 4 = true := by kernel_rfl
theorem tyP60 : plainT Try.prog 60 = true := by kernel_rfl
theorem tyS22 : sliceT Try.prog 22 = some (41, 5) := by kernel_rfl
theorem tyS24 : sliceT Try.prog 24 = some (3, 1) := by kernel_rfl
theorem tyS33 : sliceT Try.prog 33 = some (60, 1) := by kernel_rfl
theorem tyS39 : sliceT Try.prog 39 = some (38, 4) := by kernel_rfl
theorem tyS46 : sliceT Try.prog 46 = some (4, 1) := by kernel_rfl
theorem tyS93 : sliceT Try.prog 93 = some (3, 1) := by kernel_rfl
theorem tyStr9 : Try.prog.underlying 9 = some .string := by kernel_rfl
theorem tyZ3 : zeroT Try.prog 3 = some (.int .i64 0, 1, 8) := by kernel_rfl
theorem tyZ31 : zeroT Try.prog 31 = some (.agg #[.int .i64 0, .int .i64 0, .int .i64 0, .int .i64 0, .int .i64 0], 5, 40) := by kernel_rfl
theorem tyZ35 : zeroT Try.prog 35 = some (.agg #[.bool false, .slice none 0 0, .slice none 0 0], 3, 56) := by kernel_rfl
theorem tyZ38 : zeroT Try.prog 38 = some (.agg #[.int .i64 0, .bool false, .slice none 0 0, .slice none 0 0], 4, 64) := by kernel_rfl
theorem tyZ4 : zeroT Try.prog 4 = some (.bool false, 1, 1) := by kernel_rfl
theorem tyZ41 : zeroT Try.prog 41 = some (.agg #[.int .i64 0, .slice none 0 0, .bool false, .slice none 0 0, .slice none 0 0], 5, 88) := by kernel_rfl
theorem tyZ60 : zeroT Try.prog 60 = some (.int .u32 0, 1, 4) := by kernel_rfl
end Go.Proofs.Ytfpipaoobmcomaa
