/- What the tables of the program say of types. -/
import Derived.Test.YtbomlakekdamhaaProg
import Derived.Test.YtbomlakekdamhaaFacts
namespace Go.Proofs.Ytbomlakekdamhaa
theorem tyF24_0 : fieldT Try.prog 24 0 = some 0 := by kernel_rfl
theorem tyF24_1 : fieldT Try.prog 24 1 = some 1 := by kernel_rfl
theorem tyF32_0 : fieldT Try.prog 32 0 = some 0 := by kernel_rfl
theorem tyF32_1 : fieldT Try.prog 32 1 = some 1 := by kernel_rfl
theorem tyG24 : aggT Try.prog 24 = some 2 := by kernel_rfl
theorem tyG32 : aggT Try.prog 32 = some 2 := by kernel_rfl
theorem tyP22 : plainT Try.prog 22 = true := by kernel_rfl
theorem tyP9 : plainT Try.prog 9 = true := by kernel_rfl
theorem tyS22 : sliceT Try.prog 22 = some (9, 1) := by kernel_rfl
theorem tyStr9 : Try.prog.underlying 9 = some .string := by kernel_rfl
theorem tyZ24 : zeroT Try.prog 24 = some (.agg #[.slice none 0 0, .slice none 0 0], 2, 48) := by kernel_rfl
theorem tyZ32 : zeroT Try.prog 32 = some (.agg #[.slice none 0 0, .slice none 0 0], 2, 48) := by kernel_rfl
theorem tyZ9 : zeroT Try.prog 9 = some (.string ⟨#[]⟩, 1, 16) := by kernel_rfl
end Go.Proofs.Ytbomlakekdamhaa
