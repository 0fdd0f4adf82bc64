/- What the tables of the program say of types. -/
import Derived.Test.YtdfnkbdnnflcpaaProg
import Derived.Test.YtdfnkbdnnflcpaaFacts
import Derived.Test.YtdfnkbdnnflcpaaMore
namespace Go.Proofs.Ytdfnkbdnnflcpaa
theorem tyB4 : Try.prog.underlying 4 = some .bool := by kernel_rfl
theorem tyF41_0 : fieldT Try.prog 41 0 = some 0 := by kernel_rfl
theorem tyF41_1 : fieldT Try.prog 41 1 = some 1 := by kernel_rfl
theorem tyF41_2 : fieldT Try.prog 41 2 = some 2 := by kernel_rfl
theorem tyF43_0 : fieldT Try.prog 43 0 = some 0 := by kernel_rfl
theorem tyF43_1 : fieldT Try.prog 43 1 = some 1 := by kernel_rfl
theorem tyF43_2 : fieldT Try.prog 43 2 = some 2 := by kernel_rfl
theorem tyF45_0 : fieldT Try.prog 45 0 = some 0 := by kernel_rfl
theorem tyF45_1 : fieldT Try.prog 45 1 = some 1 := by kernel_rfl
theorem tyF82_2 : fieldT Try.prog 82 2 = some 2 := by kernel_rfl
theorem tyG41 : aggT Try.prog 41 = some 3 := by kernel_rfl
theorem tyG43 : aggT Try.prog 43 = some 5 := by kernel_rfl
theorem tyG45 : aggT Try.prog 45 = some 4 := by kernel_rfl
theorem tyI3 : intT Try.prog 3 = some .i64 := by kernel_rfl
theorem tyI5 : intT Try.prog 5 = some .u8 := by kernel_rfl
theorem tyI68 : intT Try.prog 68 = some .u32 := by kernel_rfl
theorem tyI76 : intT Try.prog 76 = some .u64 := by kernel_rfl
theorem tyI92 : intT Try.prog 92 = some .u64 := by kernel_rfl
theorem tyP22 : plainT Try.prog 22 = true := by kernel_rfl
theorem tyP23 : plainT Try.prog 23 = true := by kernel_rfl
theorem tyP3 : plainT Try.prog 3 = true := by kernel_rfl
theorem tyP38 : plainT Try.prog 38 = true := by kernel_rfl
theorem tyP39 : plainT Try.prog 39 = true := by kernel_rfl
theorem tyP4 : plainT Try.prog 4 = true := by kernel_rfl
theorem tyP68 : plainT Try.prog 68 = true := by kernel_rfl
theorem tyS107 : sliceT Try.prog 107 = some (3, 1) := by kernel_rfl
theorem tyS22 : sliceT Try.prog 22 = some (43, 5) := by kernel_rfl
theorem tyS23 : sliceT Try.prog 23 = some (3, 1) := by kernel_rfl
theorem tyS24 : sliceT Try.prog 24 = some (41, 3) := by kernel_rfl
theorem tyS38 : sliceT Try.prog 38 = some (45, 4) := by kernel_rfl
theorem tyS39 : sliceT Try.prog 39 = some (68, 1) := by kernel_rfl
theorem tyS54 : sliceT Try.prog 54 = some (4, 1) := by kernel_rfl
theorem tyStr9 : Try.prog.underlying 9 = some .string := by kernel_rfl
theorem tyZ23 : zeroT Try.prog 23 = some (.slice none 0 0, 1, 24) := by kernel_rfl
theorem tyZ3 : zeroT Try.prog 3 = some (.int .i64 0, 1, 8) := by kernel_rfl
theorem tyZ4 : zeroT Try.prog 4 = some (.bool false, 1, 1) := by kernel_rfl
theorem tyZ41 : zeroT Try.prog 41 = some (.agg #[.bool false, .slice none 0 0, .slice none 0 0], 3, 56) := by kernel_rfl
theorem tyZ43 : zeroT Try.prog 43 = some (.agg #[.int .i64 0, .slice none 0 0, .bool false, .slice none 0 0, .slice none 0 0], 5, 88) := by kernel_rfl
theorem tyZ45 : zeroT Try.prog 45 = some (.agg #[.int .i64 0, .bool false, .slice none 0 0, .slice none 0 0], 4, 64) := by kernel_rfl
theorem tyZ68 : zeroT Try.prog 68 = some (.int .u32 0, 1, 4) := by kernel_rfl
end Go.Proofs.Ytdfnkbdnnflcpaa
