/- What the tables of the program say of types. -/
import Derived.Test.YtpnhihljgkohcaaProg
import Derived.Test.YtpnhihljgkohcaaFacts
import Derived.Test.YtpnhihljgkohcaaMore
namespace Go.Proofs.Ytpnhihljgkohcaa
theorem tyB4 : Try.prog.underlying 4 = some .bool := by kernel_rfl
theorem tyF31_0 : fieldT Try.prog 31 0 = some 0 := by kernel_rfl
theorem tyF31_1 : fieldT Try.prog 31 1 = some 1 := by kernel_rfl
theorem tyF31_2 : fieldT Try.prog 31 2 = some 2 := by kernel_rfl
theorem tyF33_0 : fieldT Try.prog 33 0 = some 0 := by kernel_rfl
theorem tyF33_1 : fieldT Try.prog 33 1 = some 1 := by kernel_rfl
theorem tyF33_2 : fieldT Try.prog 33 2 = some 2 := by kernel_rfl
theorem tyF46_0 : fieldT Try.prog 46 0 = some 0 := by kernel_rfl
theorem tyF46_1 : fieldT Try.prog 46 1 = some 1 := by kernel_rfl
theorem tyF70_0 : fieldT Try.prog 70 0 = some 0 := by kernel_rfl
theorem tyF70_1 : fieldT Try.prog 70 1 = some 1 := by kernel_rfl
theorem tyFP31_1 : fieldPT Try.prog 31 1 = some 1 := by kernel_rfl
theorem tyG31 : aggT Try.prog 31 = some 3 := by kernel_rfl
theorem tyG33 : aggT Try.prog 33 = some 5 := by kernel_rfl
theorem tyG46 : aggT Try.prog 46 = some 4 := by kernel_rfl
theorem tyI3 : intT Try.prog 3 = some .i64 := by kernel_rfl
theorem tyI5 : intT Try.prog 5 = some .u8 := by kernel_rfl
theorem tyI60 : intT Try.prog 60 = some .u64 := by kernel_rfl
theorem tyI62 : intT Try.prog 62 = some .u32 := by kernel_rfl
theorem tyI78 : intT Try.prog 78 = some .u64 := by kernel_rfl
theorem tyP22 : plainT Try.prog 22 = true := by kernel_rfl
theorem tyP23 : plainT Try.prog 23 = true := by kernel_rfl
theorem tyP28 : plainT Try.prog 28 = true := by kernel_rfl
theorem tyP29 : plainT Try.prog 29 = true := by kernel_rfl
theorem tyP3 : plainT Try.prog 3 = true := by kernel_rfl
theorem tyP4 : plainT Try.prog 4 = true := by kernel_rfl
theorem tyP62 : plainT Try.prog 62 = true := by kernel_rfl
theorem tyS22 : sliceT Try.prog 22 = some (33, 5) := by kernel_rfl
theorem tyS23 : sliceT Try.prog 23 = some (31, 3) := by kernel_rfl
theorem tyS28 : sliceT Try.prog 28 = some (46, 4) := by kernel_rfl
theorem tyS29 : sliceT Try.prog 29 = some (62, 1) := by kernel_rfl
theorem tyS42 : sliceT Try.prog 42 = some (3, 1) := by kernel_rfl
theorem tyS63 : sliceT Try.prog 63 = some (23, 1) := by kernel_rfl
theorem tyS67 : sliceT Try.prog 67 = some (22, 1) := by kernel_rfl
theorem tyStr9 : Try.prog.underlying 9 = some .string := by kernel_rfl
theorem tyZ22 : zeroT Try.prog 22 = some (.slice none 0 0, 1, 24) := by kernel_rfl
theorem tyZ23 : zeroT Try.prog 23 = some (.slice none 0 0, 1, 24) := by kernel_rfl
theorem tyZ3 : zeroT Try.prog 3 = some (.int .i64 0, 1, 8) := by kernel_rfl
theorem tyZ31 : zeroT Try.prog 31 = some (.agg #[.bool false, .slice none 0 0, .slice none 0 0], 3, 56) := by kernel_rfl
theorem tyZ33 : zeroT Try.prog 33 = some (.agg #[.int .i64 0, .slice none 0 0, .bool false, .slice none 0 0, .slice none 0 0], 5, 88) := by kernel_rfl
theorem tyZ46 : zeroT Try.prog 46 = some (.agg #[.int .i64 0, .bool false, .slice none 0 0, .slice none 0 0], 4, 64) := by kernel_rfl
theorem tyZ62 : zeroT Try.prog 62 = some (.int .u32 0, 1, 4) := by kernel_rfl
end Go.Proofs.Ytpnhihljgkohcaa
