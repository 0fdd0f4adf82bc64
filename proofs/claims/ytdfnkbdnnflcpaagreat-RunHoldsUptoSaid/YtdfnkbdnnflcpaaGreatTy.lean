/- What the tables of the program say of types. -/
import Derived.Test.YtdfnkbdnnflcpaaGreatProg
import Derived.Test.YtdfnkbdnnflcpaaGreatFacts
import Derived.Test.YtdfnkbdnnflcpaaGreatMore
namespace Go.Proofs.YtdfnkbdnnflcpaaGreat
theorem tyB4 : Tryz.prog.underlying 4 = some .bool := by kernel_rfl
theorem tyF40_0 : fieldT Tryz.prog 40 0 = some 0 := by kernel_rfl
theorem tyF40_1 : fieldT Tryz.prog 40 1 = some 1 := by kernel_rfl
theorem tyF40_2 : fieldT Tryz.prog 40 2 = some 2 := by kernel_rfl
theorem tyF42_0 : fieldT Tryz.prog 42 0 = some 0 := by kernel_rfl
theorem tyF42_1 : fieldT Tryz.prog 42 1 = some 1 := by kernel_rfl
theorem tyF42_2 : fieldT Tryz.prog 42 2 = some 2 := by kernel_rfl
theorem tyF46_0 : fieldT Tryz.prog 46 0 = some 0 := by kernel_rfl
theorem tyF46_1 : fieldT Tryz.prog 46 1 = some 1 := by kernel_rfl
theorem tyF87_2 : fieldT Tryz.prog 87 2 = some 2 := by kernel_rfl
theorem tyFP40_1 : fieldPT Tryz.prog 40 1 = some 1 := by kernel_rfl
theorem tyG40 : aggT Tryz.prog 40 = some 3 := by kernel_rfl
theorem tyG42 : aggT Tryz.prog 42 = some 5 := by kernel_rfl
theorem tyG46 : aggT Tryz.prog 46 = some 4 := by kernel_rfl
theorem tyI3 : intT Tryz.prog 3 = some .i64 := by kernel_rfl
theorem tyI5 : intT Tryz.prog 5 = some .u8 := by kernel_rfl
theorem tyI61 : intT Tryz.prog 61 = some .u64 := by kernel_rfl
theorem tyI64 : intT Tryz.prog 64 = some .u32 := by kernel_rfl
theorem tyI83 : intT Tryz.prog 83 = some .u64 := by kernel_rfl
theorem tyP22 : plainT Tryz.prog 22 = true := by kernel_rfl
theorem tyP26 : plainT Tryz.prog 26 = true := by kernel_rfl
theorem tyP3 : plainT Tryz.prog 3 = true := by kernel_rfl
theorem tyP37 : plainT Tryz.prog 37 = true := by kernel_rfl
theorem tyP38 : plainT Tryz.prog 38 = true := by kernel_rfl
theorem tyP4 : plainT Tryz.prog 4 = true := by kernel_rfl
theorem tyP64 : plainT Tryz.prog 64 = true := by kernel_rfl
theorem tyS111 : sliceT Tryz.prog 111 = some (3, 1) := by kernel_rfl
theorem tyS22 : sliceT Tryz.prog 22 = some (42, 5) := by kernel_rfl
theorem tyS23 : sliceT Tryz.prog 23 = some (40, 3) := by kernel_rfl
theorem tyS26 : sliceT Tryz.prog 26 = some (3, 1) := by kernel_rfl
theorem tyS35 : sliceT Tryz.prog 35 = some (4, 1) := by kernel_rfl
theorem tyS37 : sliceT Tryz.prog 37 = some (46, 4) := by kernel_rfl
theorem tyS38 : sliceT Tryz.prog 38 = some (64, 1) := by kernel_rfl
theorem tyStr9 : Tryz.prog.underlying 9 = some .string := by kernel_rfl
theorem tyZ26 : zeroT Tryz.prog 26 = some (.slice none 0 0, 1, 24) := by kernel_rfl
theorem tyZ3 : zeroT Tryz.prog 3 = some (.int .i64 0, 1, 8) := by kernel_rfl
theorem tyZ4 : zeroT Tryz.prog 4 = some (.bool false, 1, 1) := by kernel_rfl
theorem tyZ40 : zeroT Tryz.prog 40 = some (.agg #[.bool false, .slice none 0 0, .slice none 0 0], 3, 56) := by kernel_rfl
theorem tyZ42 : zeroT Tryz.prog 42 = some (.agg #[.int .i64 0, .slice none 0 0, .bool false, .slice none 0 0, .slice none 0 0], 5, 88) := by kernel_rfl
theorem tyZ46 : zeroT Tryz.prog 46 = some (.agg #[.int .i64 0, .bool false, .slice none 0 0, .slice none 0 0], 4, 64) := by kernel_rfl
theorem tyZ64 : zeroT Tryz.prog 64 = some (.int .u32 0, 1, 4) := by kernel_rfl
end Go.Proofs.YtdfnkbdnnflcpaaGreat
