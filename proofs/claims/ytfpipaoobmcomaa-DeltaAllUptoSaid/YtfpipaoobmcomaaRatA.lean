/- Walks: what the functions compute. -/
import Derived.Test.YtfpipaoobmcomaaTy
import Derived.Test.YtfpipaoobmcomaaRat
import Derived.Test.YtfpipaoobmcomaaNat7
namespace Go.Proofs.Ytfpipaoobmcomaa
open Go.RowKit
set_option linter.unusedVariables false
set_option linter.unusedSimpArgs false
set_option maxRecDepth 10000

theorem built_Q2 (A : Option Addr) (n c : Nat) : Try.prog.built 35 [(2, .slice A n c)] = some #[.bool false, .slice none 0 0, .slice A n c] := by kernel_rfl
theorem built_Q12 (A : Option Addr) (n c : Nat) (B : Option Addr) (m d : Nat) : Try.prog.built 35 [(1, .slice A n c), (2, .slice B m d)] = some #[.bool false, .slice A n c, .slice B m d] := by kernel_rfl
theorem built_Q012 (s : Bool) (A : Option Addr) (n c : Nat) (B : Option Addr) (m d : Nat) : Try.prog.built 35 [(0, .bool s), (1, .slice A n c), (2, .slice B m d)] = some #[.bool s, .slice A n c, .slice B m d] := by kernel_rfl
theorem built_Q : Try.prog.built 35 [] = some #[.bool false, .slice none 0 0, .slice none 0 0] := by kernel_rfl

end Go.Proofs.Ytfpipaoobmcomaa
