/- What the tables of the program say of types. -/
import Derived.Test.YtgpdjfalleadaaaGreatProg
import Derived.Test.YtgpdjfalleadaaaGreatFacts
import Derived.Test.YtgpdjfalleadaaaGreatMore
namespace Go.Proofs.YtgpdjfalleadaaaGreat
theorem tyB4 : Tryz.prog.underlying 4 = some .bool := by kernel_rfl
theorem tyF26_0 : fieldT Tryz.prog 26 0 = some 0 := by kernel_rfl
theorem tyF26_1 : fieldT Tryz.prog 26 1 = some 1 := by kernel_rfl
theorem tyF32_0 : fieldT Tryz.prog 32 0 = some 0 := by kernel_rfl
theorem tyF32_1 : fieldT Tryz.prog 32 1 = some 1 := by kernel_rfl
theorem tyF45_0 : fieldT Tryz.prog 45 0 = some 0 := by kernel_rfl
theorem tyF45_1 : fieldT Tryz.prog 45 1 = some 1 := by kernel_rfl
theorem tyF45_2 : fieldT Tryz.prog 45 2 = some 2 := by kernel_rfl
theorem tyF47_0 : fieldT Tryz.prog 47 0 = some 0 := by kernel_rfl
theorem tyF47_1 : fieldT Tryz.prog 47 1 = some 1 := by kernel_rfl
theorem tyF47_2 : fieldT Tryz.prog 47 2 = some 2 := by kernel_rfl
theorem tyF49_0 : fieldT Tryz.prog 49 0 = some 0 := by kernel_rfl
theorem tyF49_1 : fieldT Tryz.prog 49 1 = some 1 := by kernel_rfl
theorem tyF80_0 : fieldT Tryz.prog 80 0 = some 0 := by kernel_rfl
theorem tyF80_1 : fieldT Tryz.prog 80 1 = some 1 := by kernel_rfl
theorem tyF80_2 : fieldT Tryz.prog 80 2 = some 2 := by kernel_rfl
theorem tyFP45_1 : fieldPT Tryz.prog 45 1 = some 1 := by kernel_rfl
theorem tyG26 : aggT Tryz.prog 26 = some 2 := by kernel_rfl
theorem tyG32 : aggT Tryz.prog 32 = some 2 := by kernel_rfl
theorem tyG45 : aggT Tryz.prog 45 = some 3 := by kernel_rfl
theorem tyG47 : aggT Tryz.prog 47 = some 5 := by kernel_rfl
theorem tyG49 : aggT Tryz.prog 49 = some 4 := by kernel_rfl
theorem tyI113 : intT Tryz.prog 113 = some .u64 := by kernel_rfl
theorem tyI3 : intT Tryz.prog 3 = some .i64 := by kernel_rfl
theorem tyI5 : intT Tryz.prog 5 = some .u8 := by kernel_rfl
theorem tyI86 : intT Tryz.prog 86 = some .u64 := by kernel_rfl
theorem tyI89 : intT Tryz.prog 89 = some .u32 := by kernel_rfl
theorem tyP22 : plainT Tryz.prog 22 = true := by kernel_rfl
theorem tyP23 : plainT Tryz.prog 23 = true := by kernel_rfl
theorem tyP24 : plainT Tryz.prog 24 = true := by kernel_rfl
theorem tyP3 : plainT Tryz.prog 3 = true := by kernel_rfl
theorem tyP4 : plainT Tryz.prog 4 = true := by kernel_rfl
theorem tyP42 : plainT Tryz.prog 42 = true := by kernel_rfl
theorem tyP43 : plainT Tryz.prog 43 = true := by kernel_rfl
theorem tyP89 : plainT Tryz.prog 89 = true := by kernel_rfl
theorem tyS22 : sliceT Tryz.prog 22 = some (47, 5) := by kernel_rfl
theorem tyS23 : sliceT Tryz.prog 23 = some (3, 1) := by kernel_rfl
theorem tyS24 : sliceT Tryz.prog 24 = some (45, 3) := by kernel_rfl
theorem tyS41 : sliceT Tryz.prog 41 = some (4, 1) := by kernel_rfl
theorem tyS42 : sliceT Tryz.prog 42 = some (49, 4) := by kernel_rfl
theorem tyS43 : sliceT Tryz.prog 43 = some (89, 1) := by kernel_rfl
theorem tyS70 : sliceT Tryz.prog 70 = some (3, 1) := by kernel_rfl
theorem tyStr9 : Tryz.prog.underlying 9 = some .string := by kernel_rfl
theorem tyZ23 : zeroT Tryz.prog 23 = some (.slice none 0 0, 1, 24) := by kernel_rfl
theorem tyZ26 : zeroT Tryz.prog 26 = some (.agg #[.slice none 0 0, .slice none 0 0], 2, 48) := by kernel_rfl
theorem tyZ3 : zeroT Tryz.prog 3 = some (.int .i64 0, 1, 8) := by kernel_rfl
theorem tyZ32 : zeroT Tryz.prog 32 = some (.agg #[.slice none 0 0, .slice none 0 0], 2, 48) := by kernel_rfl
theorem tyZ4 : zeroT Tryz.prog 4 = some (.bool false, 1, 1) := by kernel_rfl
theorem tyZ45 : zeroT Tryz.prog 45 = some (.agg #[.bool false, .slice none 0 0, .slice none 0 0], 3, 56) := by kernel_rfl
theorem tyZ47 : zeroT Tryz.prog 47 = some (.agg #[.int .i64 0, .slice none 0 0, .bool false, .slice none 0 0, .slice none 0 0], 5, 88) := by kernel_rfl
theorem tyZ49 : zeroT Tryz.prog 49 = some (.agg #[.int .i64 0, .bool false, .slice none 0 0, .slice none 0 0], 4, 64) := by kernel_rfl
theorem tyZ89 : zeroT Tryz.prog 89 = some (.int .u32 0, 1, 4) := by kernel_rfl
end Go.Proofs.YtgpdjfalleadaaaGreat
