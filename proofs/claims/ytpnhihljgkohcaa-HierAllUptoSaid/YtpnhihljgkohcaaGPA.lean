/- Walks: what the functions compute. -/
import Derived.Test.YtpnhihljgkohcaaLpT
import Derived.Test.YtpnhihljgkohcaaG10C
namespace Go.Proofs.Ytpnhihljgkohcaa
open Go.RowKit
set_option linter.unusedVariables false
set_option linter.unusedSimpArgs false
set_option maxRecDepth 10000

section
variable {n t t' : Nat} {z0 v : Int} {L M : List Vec} {rs rs' : List (Ts × Rat)} {ds ds' : List (List Rat)} {ok ok' : Bool}
theorem A_ok (h : AInv n t L ds ok) : ok = true ↔ ∀ k, Sp L (kv n k) → k = 0 := by
  obtain ⟨R, h1, _⟩ := h.rank; exact h1.ok_iff
end

end Go.Proofs.Ytpnhihljgkohcaa
