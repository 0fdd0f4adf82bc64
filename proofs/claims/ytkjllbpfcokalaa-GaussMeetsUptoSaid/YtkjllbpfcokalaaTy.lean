/- What the tables of the program say of types. -/
import Derived.Test.YtkjllbpfcokalaaProg
import Derived.Test.YtkjllbpfcokalaaFacts
import Derived.Test.YtkjllbpfcokalaaMore
namespace Go.Proofs.Ytkjllbpfcokalaa
theorem tyB4 : Try.prog.underlying 4 = some .bool := by kernel_rfl
theorem tyF27_0 : fieldT Try.prog 27 0 = some 0 := by kernel_rfl
theorem tyF27_1 : fieldT Try.prog 27 1 = some 1 := by kernel_rfl
theorem tyF27_2 : fieldT Try.prog 27 2 = some 2 := by kernel_rfl
theorem tyF29_0 : fieldT Try.prog 29 0 = some 0 := by kernel_rfl
theorem tyF29_1 : fieldT Try.prog 29 1 = some 1 := by kernel_rfl
theorem tyF29_2 : fieldT Try.prog 29 2 = some 2 := by kernel_rfl
theorem tyF50_0 : fieldT Try.prog 50 0 = some 0 := by kernel_rfl
theorem tyF50_1 : fieldT Try.prog 50 1 = some 1 := by kernel_rfl
theorem tyF56_0 : fieldT Try.prog 56 0 = some 0 := by kernel_rfl
theorem tyF56_1 : fieldT Try.prog 56 1 = some 1 := by kernel_rfl
theorem tyFP27_1 : fieldPT Try.prog 27 1 = some 1 := by kernel_rfl
theorem tyG27 : aggT Try.prog 27 = some 3 := by kernel_rfl
theorem tyG29 : aggT Try.prog 29 = some 5 := by kernel_rfl
theorem tyG50 : aggT Try.prog 50 = some 4 := by kernel_rfl
theorem tyI3 : intT Try.prog 3 = some .i64 := by kernel_rfl
theorem tyI5 : intT Try.prog 5 = some .u8 := by kernel_rfl
theorem tyI65 : intT Try.prog 65 = some .u64 := by kernel_rfl
theorem tyI68 : intT Try.prog 68 = some .u32 := by kernel_rfl
theorem tyI82 : intT Try.prog 82 = some .u64 := by kernel_rfl
theorem tyP22 : plainT Try.prog 22 = true := by kernel_rfl
theorem tyP24 : plainT Try.prog 24 = true := by kernel_rfl
theorem tyP25 : plainT Try.prog 25 = true := by kernel_rfl
theorem tyP3 : plainT Try.prog 3 = true := by kernel_rfl
theorem tyP38 : plainT Try.prog 38 = true := by kernel_rfl
theorem tyP4 : plainT Try.prog 4 = true := by kernel_rfl
theorem tyP68 : plainT Try.prog 68 = true := by kernel_rfl
theorem tyS22 : sliceT Try.prog 22 = some (29, 5) := by kernel_rfl
theorem tyS24 : sliceT Try.prog 24 = some (50, 4) := by kernel_rfl
theorem tyS25 : sliceT Try.prog 25 = some (68, 1) := by kernel_rfl
theorem tyS38 : sliceT Try.prog 38 = some (27, 3) := by kernel_rfl
theorem tyS61 : sliceT Try.prog 61 = some (38, 1) := by kernel_rfl
theorem tyStr9 : Try.prog.underlying 9 = some .string := by kernel_rfl
theorem tyZ27 : zeroT Try.prog 27 = some (.agg #[.bool false, .slice none 0 0, .slice none 0 0], 3, 56) := by kernel_rfl
theorem tyZ29 : zeroT Try.prog 29 = some (.agg #[.int .i64 0, .slice none 0 0, .bool false, .slice none 0 0, .slice none 0 0], 5, 88) := by kernel_rfl
theorem tyZ38 : zeroT Try.prog 38 = some (.slice none 0 0, 1, 24) := by kernel_rfl
theorem tyZ50 : zeroT Try.prog 50 = some (.agg #[.int .i64 0, .bool false, .slice none 0 0, .slice none 0 0], 4, 64) := by kernel_rfl
theorem tyZ68 : zeroT Try.prog 68 = some (.int .u32 0, 1, 4) := by kernel_rfl
end Go.Proofs.Ytkjllbpfcokalaa
