/- What the tables of the program say of types. -/
import Derived.Test.YtjeodekhamdcmaaProg
import Derived.Test.YtjeodekhamdcmaaFacts
import Derived.Test.YtjeodekhamdcmaaMore
namespace Go.Proofs.Ytjeodekhamdcmaa
theorem tyB4 : Try.prog.underlying 4 = some .bool := by kernel_rfl
theorem tyF27_0 : fieldT Try.prog 27 0 = some 0 := by kernel_rfl
theorem tyF27_1 : fieldT Try.prog 27 1 = some 1 := by kernel_rfl
theorem tyF27_2 : fieldT Try.prog 27 2 = some 2 := by kernel_rfl
theorem tyF29_0 : fieldT Try.prog 29 0 = some 0 := by kernel_rfl
theorem tyF29_1 : fieldT Try.prog 29 1 = some 1 := by kernel_rfl
theorem tyF29_2 : fieldT Try.prog 29 2 = some 2 := by kernel_rfl
theorem tyF56_0 : fieldT Try.prog 56 0 = some 0 := by kernel_rfl
theorem tyF56_1 : fieldT Try.prog 56 1 = some 1 := by kernel_rfl
theorem tyFP27_1 : fieldPT Try.prog 27 1 = some 1 := by kernel_rfl
theorem tyG27 : aggT Try.prog 27 = some 3 := by kernel_rfl
theorem tyG29 : aggT Try.prog 29 = some 5 := by kernel_rfl
theorem tyG56 : aggT Try.prog 56 = some 4 := by kernel_rfl
theorem tyI3 : intT Try.prog 3 = some .i64 := by kernel_rfl
theorem tyI5 : intT Try.prog 5 = some .u8 := by kernel_rfl
theorem tyI51 : intT Try.prog 51 = some .u32 := by kernel_rfl
theorem tyI72 : intT Try.prog 72 = some .u64 := by kernel_rfl
theorem tyI76 : intT Try.prog 76 = some .u64 := by kernel_rfl
theorem tyP24 : plainT Try.prog 24 = true := by kernel_rfl
theorem tyP25 : plainT Try.prog 25 = true := by kernel_rfl
theorem tyP3 : plainT Try.prog 3 = true := by kernel_rfl
theorem tyP4 : plainT Try.prog 4 = true := by kernel_rfl
theorem tyP51 : plainT Try.prog 51 = true := by kernel_rfl
theorem tyS23 : sliceT Try.prog 23 = some (29, 5) := by kernel_rfl
theorem tyS24 : sliceT Try.prog 24 = some (56, 4) := by kernel_rfl
theorem tyS25 : sliceT Try.prog 25 = some (51, 1) := by kernel_rfl
theorem tyS37 : sliceT Try.prog 37 = some (3, 1) := by kernel_rfl
theorem tyS57 : sliceT Try.prog 57 = some (3, 1) := by kernel_rfl
theorem tyS63 : sliceT Try.prog 63 = some (27, 3) := by kernel_rfl
theorem tyStr9 : Try.prog.underlying 9 = some .string := by kernel_rfl
theorem tyZ27 : zeroT Try.prog 27 = some (.agg #[.bool false, .slice none 0 0, .slice none 0 0], 3, 56) := by kernel_rfl
theorem tyZ29 : zeroT Try.prog 29 = some (.agg #[.int .i64 0, .slice none 0 0, .bool false, .slice none 0 0, .slice none 0 0], 5, 88) := by kernel_rfl
theorem tyZ3 : zeroT Try.prog 3 = some (.int .i64 0, 1, 8) := by kernel_rfl
theorem tyZ51 : zeroT Try.prog 51 = some (.int .u32 0, 1, 4) := by kernel_rfl
theorem tyZ56 : zeroT Try.prog 56 = some (.agg #[.int .i64 0, .bool false, .slice none 0 0, .slice none 0 0], 4, 64) := by kernel_rfl
end Go.Proofs.Ytjeodekhamdcmaa
