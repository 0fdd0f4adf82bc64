/-
  No cell of these rows narrows 'for every input' (looked for: loops, veiled, ifaces, maps, wideKeys, modest, calm, conditions, laid).
  DERIVED. THE GIVEN ROWS OF THIS SEAT. 6 by the template 'for every input the law returns true; each argument reads behind the call as it read before'; 0 by the template 'total and deterministic' (their statements: YtkjllbpfcokalaaTotals.lean).
  GIVEN WITH THE SEED: the statements are not yours to turn. If you find one false, say at which input.
  Laid BY PROGRAM, IN A SANDBOX (cutbox-rows.mjs): the forced cells as the released guide's own fill.sh prints them over the translation 61b6c9fd19652ef1… (all of the seat's roots in one cut). By AI agents, Wed Nov 11 2026. No macro, syntax, notation, axiom, sorry.
-/
import Derived.Test.YtkjllbpfcokalaaChecked
import GoSem.Claim
import GoSem.ClaimJoined
import GoSem.ClaimMapViews
import Derived.JoinedTies
import Derived.KernelRfl
namespace Go.Proofs.Ytkjllbpfcokalaa
/- THE CELL 'sum', in the pinned program and in every row, IS THE sha256 OF THE DUMP (.gsa) THAT YtkjllbpfcokalaaProg.lean LOADS. Nothing in Lean hashes anything: it is a label: what it is worth is what the hold of that sum in a sandbox is worth. -/
noncomputable def Try.pinned : Pinned := { name := "ytkjllbpfcokalaa", sum := "61b6c9fd19652ef1fe5d2a5879d71a53cdd8c29195352fe6f4058e27e6a1efd3", checked := Try.checked }
namespace Rows
def none {H : Type} : Left H := { results := [], args := [] }

/-- 'pantographlaw10.GaussTurns': WHATEVER THE INPUT: true; the input reads as it did. -/
def gaussTurnsSpec : ChangeSpec := { name := "gaussTurns", fn := fun _ => fun
  | [d1, d2, d3] => { results := [.lit (.bool true)], args := [d1, d2, d3] }
  | _ => none }
def gaussTurnsRow : OpenClaim := { program := "ytkjllbpfcokalaa", sum := "61b6c9fd19652ef1fe5d2a5879d71a53cdd8c29195352fe6f4058e27e6a1efd3", func := "pantograph/pantographlaw10.GaussTurns", spec := "gaussTurns", named := ["math/bits.overflowError"], apart := false }
def GaussTurnsSaid : Prop := gaussTurnsRow.holds Try.pinned (OpenSpec.ofChange gaussTurnsSpec)

/-- ITS FALSE NEIGHBOUR: 'it returns false'. Refute it at one input. -/
def gaussTurnsWrong : ChangeSpec := { name := "gaussTurns", fn := fun _ => fun
  | [d1, d2, d3] => { results := [.lit (.bool false)], args := [d1, d2, d3] }
  | _ => none }
def GaussTurnsWrongFalsely : Prop := gaussTurnsRow.holds Try.pinned (OpenSpec.ofChange gaussTurnsWrong)

/-- 'pantographlaw10.GaussScale': WHATEVER THE INPUT: true; the input reads as it did. -/
def gaussScaleSpec : ChangeSpec := { name := "gaussScale", fn := fun _ => fun
  | [d1, d2, d3, d4] => { results := [.lit (.bool true)], args := [d1, d2, d3, d4] }
  | _ => none }
def gaussScaleRow : OpenClaim := { program := "ytkjllbpfcokalaa", sum := "61b6c9fd19652ef1fe5d2a5879d71a53cdd8c29195352fe6f4058e27e6a1efd3", func := "pantograph/pantographlaw10.GaussScale", spec := "gaussScale", named := ["math/bits.overflowError"], apart := false }
def GaussScaleSaid : Prop := gaussScaleRow.holds Try.pinned (OpenSpec.ofChange gaussScaleSpec)

/-- ITS FALSE NEIGHBOUR: 'it returns false'. Refute it at one input. -/
def gaussScaleWrong : ChangeSpec := { name := "gaussScale", fn := fun _ => fun
  | [d1, d2, d3, d4] => { results := [.lit (.bool false)], args := [d1, d2, d3, d4] }
  | _ => none }
def GaussScaleWrongFalsely : Prop := gaussScaleRow.holds Try.pinned (OpenSpec.ofChange gaussScaleWrong)

/-- 'pantographlaw10.GaussMeets': WHATEVER THE INPUT: true; the input reads as it did. -/
def gaussMeetsSpec : ChangeSpec := { name := "gaussMeets", fn := fun _ => fun
  | [d1, d2, d3, d4] => { results := [.lit (.bool true)], args := [d1, d2, d3, d4] }
  | _ => none }
def gaussMeetsRow : OpenClaim := { program := "ytkjllbpfcokalaa", sum := "61b6c9fd19652ef1fe5d2a5879d71a53cdd8c29195352fe6f4058e27e6a1efd3", func := "pantograph/pantographlaw10.GaussMeets", spec := "gaussMeets", named := ["math/bits.overflowError"], apart := false }
def GaussMeetsSaid : Prop := gaussMeetsRow.holds Try.pinned (OpenSpec.ofChange gaussMeetsSpec)

/-- ITS FALSE NEIGHBOUR: 'it returns false'. Refute it at one input. -/
def gaussMeetsWrong : ChangeSpec := { name := "gaussMeets", fn := fun _ => fun
  | [d1, d2, d3, d4] => { results := [.lit (.bool false)], args := [d1, d2, d3, d4] }
  | _ => none }
def GaussMeetsWrongFalsely : Prop := gaussMeetsRow.holds Try.pinned (OpenSpec.ofChange gaussMeetsWrong)

/-- 'pantographlaw10.GaussMore': WHATEVER THE INPUT: true; the input reads as it did. -/
def gaussMoreSpec : ChangeSpec := { name := "gaussMore", fn := fun _ => fun
  | [d1, d2, d3] => { results := [.lit (.bool true)], args := [d1, d2, d3] }
  | _ => none }
def gaussMoreRow : OpenClaim := { program := "ytkjllbpfcokalaa", sum := "61b6c9fd19652ef1fe5d2a5879d71a53cdd8c29195352fe6f4058e27e6a1efd3", func := "pantograph/pantographlaw10.GaussMore", spec := "gaussMore", named := ["math/bits.overflowError"], apart := false }
def GaussMoreSaid : Prop := gaussMoreRow.holds Try.pinned (OpenSpec.ofChange gaussMoreSpec)

/-- ITS FALSE NEIGHBOUR: 'it returns false'. Refute it at one input. -/
def gaussMoreWrong : ChangeSpec := { name := "gaussMore", fn := fun _ => fun
  | [d1, d2, d3] => { results := [.lit (.bool false)], args := [d1, d2, d3] }
  | _ => none }
def GaussMoreWrongFalsely : Prop := gaussMoreRow.holds Try.pinned (OpenSpec.ofChange gaussMoreWrong)

/-- 'pantographlaw10.GaussFixed': WHATEVER THE INPUT: true; the input reads as it did. -/
def gaussFixedSpec : ChangeSpec := { name := "gaussFixed", fn := fun _ => fun
  | [d1, d2, d3] => { results := [.lit (.bool true)], args := [d1, d2, d3] }
  | _ => none }
def gaussFixedRow : OpenClaim := { program := "ytkjllbpfcokalaa", sum := "61b6c9fd19652ef1fe5d2a5879d71a53cdd8c29195352fe6f4058e27e6a1efd3", func := "pantograph/pantographlaw10.GaussFixed", spec := "gaussFixed", named := ["math/bits.overflowError"], apart := false }
def GaussFixedSaid : Prop := gaussFixedRow.holds Try.pinned (OpenSpec.ofChange gaussFixedSpec)

/-- ITS FALSE NEIGHBOUR: 'it returns false'. Refute it at one input. -/
def gaussFixedWrong : ChangeSpec := { name := "gaussFixed", fn := fun _ => fun
  | [d1, d2, d3] => { results := [.lit (.bool false)], args := [d1, d2, d3] }
  | _ => none }
def GaussFixedWrongFalsely : Prop := gaussFixedRow.holds Try.pinned (OpenSpec.ofChange gaussFixedWrong)

/-- 'pantographlaw10.GaussTells': WHATEVER THE INPUT: true; the input reads as it did. -/
def gaussTellsSpec : ChangeSpec := { name := "gaussTells", fn := fun _ => fun
  | [d1, d2, d3, d4, d5] => { results := [.lit (.bool true)], args := [d1, d2, d3, d4, d5] }
  | _ => none }
def gaussTellsRow : OpenClaim := { program := "ytkjllbpfcokalaa", sum := "61b6c9fd19652ef1fe5d2a5879d71a53cdd8c29195352fe6f4058e27e6a1efd3", func := "pantograph/pantographlaw10.GaussTells", spec := "gaussTells", named := ["math/bits.overflowError"], apart := false }
def GaussTellsSaid : Prop := gaussTellsRow.holds Try.pinned (OpenSpec.ofChange gaussTellsSpec)

/-- ITS FALSE NEIGHBOUR: 'it returns false'. Refute it at one input. -/
def gaussTellsWrong : ChangeSpec := { name := "gaussTells", fn := fun _ => fun
  | [d1, d2, d3, d4, d5] => { results := [.lit (.bool false)], args := [d1, d2, d3, d4, d5] }
  | _ => none }
def GaussTellsWrongFalsely : Prop := gaussTellsRow.holds Try.pinned (OpenSpec.ofChange gaussTellsWrong)

/- THE SECOND FORM. 'bulk': how many values and letters a reading holds, each counted each time it is reached (what is shared counts as often as it is met; a slice's spare places count too). A statement '..UptoSaid' is the law's where the arguments, and the package variables that the reading takes, are together of bulk at most 1048576: NARROWER than '..Said'. Prove '..Said' where nothing that the law and all that it calls make is longer than what came in: it says more and counts as full. Else prove '..UptoSaid'. A law counts once. -/
mutual
def uptoBulk {H : Type} : DataW H → Nat
  | .lit (.string bytes) => bytes.length + 1
  | .lit _ => 1
  | .nil => 1
  | .ptr d => uptoBulk d + 1
  | .slice elems spare => uptoBulkAll elems + uptoBulkAll spare + 1
  | .agg parts => uptoBulkAll parts + 1
  | .iface _ d => uptoBulk d + 1
  | .map entries => uptoBulkEntries entries + 1
  | .held _ => 1
def uptoBulkAll {H : Type} : List (DataW H) → Nat
  | [] => 0
  | d :: r => uptoBulk d + uptoBulkAll r
def uptoBulkEntries {H : Type} : List (Lit × DataW H) → Nat
  | [] => 0
  | x :: r => uptoBulkEntry x + uptoBulkEntries r
def uptoBulkEntry {H : Type} : Lit × DataW H → Nat
  | (.string bytes, d) => bytes.length + uptoBulk d + 1
  | (_, d) => uptoBulk d + 1
 end
def uptoSmall : (H : Type) → List (DataW H) → Bool := fun _ ds => decide (uptoBulkAll ds ≤ 1048576)
def OpenSpec.upto (s : _root_.Go.ChangeSpec) : _root_.Go.OpenSpec := { _root_.Go.OpenSpec.ofChange s with cond := some uptoSmall }

/-- 'pantographlaw10.GaussTurns', WHERE WHAT IT READS IS OF BULK AT MOST 1048576: true; the input reads as it did. -/
def gaussTurnsUptoRow : OpenClaim := { program := "ytkjllbpfcokalaa", sum := "61b6c9fd19652ef1fe5d2a5879d71a53cdd8c29195352fe6f4058e27e6a1efd3", func := "pantograph/pantographlaw10.GaussTurns", spec := "gaussTurns", named := ["math/bits.overflowError"], apart := false, narrowed := true }
def GaussTurnsUptoSaid : Prop := gaussTurnsUptoRow.holds Try.pinned (OpenSpec.upto gaussTurnsSpec)

/-- 'pantographlaw10.GaussScale', WHERE WHAT IT READS IS OF BULK AT MOST 1048576: true; the input reads as it did. -/
def gaussScaleUptoRow : OpenClaim := { program := "ytkjllbpfcokalaa", sum := "61b6c9fd19652ef1fe5d2a5879d71a53cdd8c29195352fe6f4058e27e6a1efd3", func := "pantograph/pantographlaw10.GaussScale", spec := "gaussScale", named := ["math/bits.overflowError"], apart := false, narrowed := true }
def GaussScaleUptoSaid : Prop := gaussScaleUptoRow.holds Try.pinned (OpenSpec.upto gaussScaleSpec)

/-- 'pantographlaw10.GaussMeets', WHERE WHAT IT READS IS OF BULK AT MOST 1048576: true; the input reads as it did. -/
def gaussMeetsUptoRow : OpenClaim := { program := "ytkjllbpfcokalaa", sum := "61b6c9fd19652ef1fe5d2a5879d71a53cdd8c29195352fe6f4058e27e6a1efd3", func := "pantograph/pantographlaw10.GaussMeets", spec := "gaussMeets", named := ["math/bits.overflowError"], apart := false, narrowed := true }
def GaussMeetsUptoSaid : Prop := gaussMeetsUptoRow.holds Try.pinned (OpenSpec.upto gaussMeetsSpec)

/-- 'pantographlaw10.GaussMore', WHERE WHAT IT READS IS OF BULK AT MOST 1048576: true; the input reads as it did. -/
def gaussMoreUptoRow : OpenClaim := { program := "ytkjllbpfcokalaa", sum := "61b6c9fd19652ef1fe5d2a5879d71a53cdd8c29195352fe6f4058e27e6a1efd3", func := "pantograph/pantographlaw10.GaussMore", spec := "gaussMore", named := ["math/bits.overflowError"], apart := false, narrowed := true }
def GaussMoreUptoSaid : Prop := gaussMoreUptoRow.holds Try.pinned (OpenSpec.upto gaussMoreSpec)

/-- 'pantographlaw10.GaussFixed', WHERE WHAT IT READS IS OF BULK AT MOST 1048576: true; the input reads as it did. -/
def gaussFixedUptoRow : OpenClaim := { program := "ytkjllbpfcokalaa", sum := "61b6c9fd19652ef1fe5d2a5879d71a53cdd8c29195352fe6f4058e27e6a1efd3", func := "pantograph/pantographlaw10.GaussFixed", spec := "gaussFixed", named := ["math/bits.overflowError"], apart := false, narrowed := true }
def GaussFixedUptoSaid : Prop := gaussFixedUptoRow.holds Try.pinned (OpenSpec.upto gaussFixedSpec)

/-- 'pantographlaw10.GaussTells', WHERE WHAT IT READS IS OF BULK AT MOST 1048576: true; the input reads as it did. -/
def gaussTellsUptoRow : OpenClaim := { program := "ytkjllbpfcokalaa", sum := "61b6c9fd19652ef1fe5d2a5879d71a53cdd8c29195352fe6f4058e27e6a1efd3", func := "pantograph/pantographlaw10.GaussTells", spec := "gaussTells", named := ["math/bits.overflowError"], apart := false, narrowed := true }
def GaussTellsUptoSaid : Prop := gaussTellsUptoRow.holds Try.pinned (OpenSpec.upto gaussTellsSpec)

end Rows
end Go.Proofs.Ytkjllbpfcokalaa
