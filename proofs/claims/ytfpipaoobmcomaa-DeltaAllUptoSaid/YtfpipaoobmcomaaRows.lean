/-
  No cell of these rows narrows 'for every input' (looked for: loops, veiled, ifaces, maps, wideKeys, modest, calm, conditions, laid).
  DERIVED. THE GIVEN ROWS OF THIS SEAT. 8 by the template 'for every input the law returns true; each argument reads behind the call as it read before'; 0 by the template 'total and deterministic' (their statements: YtfpipaoobmcomaaTotals.lean).
  GIVEN WITH THE SEED: the statements are not yours to turn. If you find one false, say at which input.
  Laid BY PROGRAM, IN A SANDBOX (cutbox-rows.mjs): the forced cells as the released guide's own fill.sh prints them over the translation f604ca987ae34a32… (all of the seat's roots in one cut). By AI agents, Wed Nov 11 2026. No macro, syntax, notation, axiom, sorry.
-/
import Derived.Test.YtfpipaoobmcomaaChecked
import GoSem.Claim
import GoSem.ClaimJoined
import GoSem.ClaimMapViews
import Derived.JoinedTies
import Derived.KernelRfl
namespace Go.Proofs.Ytfpipaoobmcomaa
/- THE CELL 'sum', in the pinned program and in every row, IS THE sha256 OF THE DUMP (.gsa) THAT YtfpipaoobmcomaaProg.lean LOADS. Nothing in Lean hashes anything: it is a label: what it is worth is what the hold of that sum in a sandbox is worth. -/
noncomputable def Try.pinned : Pinned := { name := "ytfpipaoobmcomaa", sum := "f604ca987ae34a326a4c8e29b642034cc4d75e8663172df30692bcf72a1345e0", checked := Try.checked }
namespace Rows
def none {H : Type} : Left H := { results := [], args := [] }

/-- 'pantographlaw13.DeltaAgain': WHATEVER THE INPUT: true; the input reads as it did. -/
def deltaAgainSpec : ChangeSpec := { name := "deltaAgain", fn := fun _ => fun
  | [d1, d2] => { results := [.lit (.bool true)], args := [d1, d2] }
  | _ => none }
def deltaAgainRow : OpenClaim := { program := "ytfpipaoobmcomaa", sum := "f604ca987ae34a326a4c8e29b642034cc4d75e8663172df30692bcf72a1345e0", func := "pantograph/pantographlaw13.DeltaAgain", spec := "deltaAgain", unfollowed := true, recurses := true, named := ["math/bits.overflowError"], apart := false }
def DeltaAgainSaid : Prop := deltaAgainRow.holds Try.pinned (OpenSpec.ofChange deltaAgainSpec)

/-- ITS FALSE NEIGHBOUR: 'it returns false'. Refute it at one input. -/
def deltaAgainWrong : ChangeSpec := { name := "deltaAgain", fn := fun _ => fun
  | [d1, d2] => { results := [.lit (.bool false)], args := [d1, d2] }
  | _ => none }
def DeltaAgainWrongFalsely : Prop := deltaAgainRow.holds Try.pinned (OpenSpec.ofChange deltaAgainWrong)

/-- 'pantographlaw13.DeltaBetter': WHATEVER THE INPUT: true; the input reads as it did. -/
def deltaBetterSpec : ChangeSpec := { name := "deltaBetter", fn := fun _ => fun
  | [d1, d2, d3] => { results := [.lit (.bool true)], args := [d1, d2, d3] }
  | _ => none }
def deltaBetterRow : OpenClaim := { program := "ytfpipaoobmcomaa", sum := "f604ca987ae34a326a4c8e29b642034cc4d75e8663172df30692bcf72a1345e0", func := "pantograph/pantographlaw13.DeltaBetter", spec := "deltaBetter", unfollowed := true, recurses := true, named := ["math/bits.overflowError"], apart := false }
def DeltaBetterSaid : Prop := deltaBetterRow.holds Try.pinned (OpenSpec.ofChange deltaBetterSpec)

/-- ITS FALSE NEIGHBOUR: 'it returns false'. Refute it at one input. -/
def deltaBetterWrong : ChangeSpec := { name := "deltaBetter", fn := fun _ => fun
  | [d1, d2, d3] => { results := [.lit (.bool false)], args := [d1, d2, d3] }
  | _ => none }
def DeltaBetterWrongFalsely : Prop := deltaBetterRow.holds Try.pinned (OpenSpec.ofChange deltaBetterWrong)

/-- 'pantographlaw13.DeltaAll': WHATEVER THE INPUT: true; the input reads as it did. -/
def deltaAllSpec : ChangeSpec := { name := "deltaAll", fn := fun _ => fun
  | [d1, d2] => { results := [.lit (.bool true)], args := [d1, d2] }
  | _ => none }
def deltaAllRow : OpenClaim := { program := "ytfpipaoobmcomaa", sum := "f604ca987ae34a326a4c8e29b642034cc4d75e8663172df30692bcf72a1345e0", func := "pantograph/pantographlaw13.DeltaAll", spec := "deltaAll", unfollowed := true, recurses := true, named := ["math/bits.overflowError"], apart := false }
def DeltaAllSaid : Prop := deltaAllRow.holds Try.pinned (OpenSpec.ofChange deltaAllSpec)

/-- ITS FALSE NEIGHBOUR: 'it returns false'. Refute it at one input. -/
def deltaAllWrong : ChangeSpec := { name := "deltaAll", fn := fun _ => fun
  | [d1, d2] => { results := [.lit (.bool false)], args := [d1, d2] }
  | _ => none }
def DeltaAllWrongFalsely : Prop := deltaAllRow.holds Try.pinned (OpenSpec.ofChange deltaAllWrong)

/-- 'pantographlaw13.DeltaIdle': WHATEVER THE INPUT: true; the input reads as it did. -/
def deltaIdleSpec : ChangeSpec := { name := "deltaIdle", fn := fun _ => fun
  | [d1, d2] => { results := [.lit (.bool true)], args := [d1, d2] }
  | _ => none }
def deltaIdleRow : OpenClaim := { program := "ytfpipaoobmcomaa", sum := "f604ca987ae34a326a4c8e29b642034cc4d75e8663172df30692bcf72a1345e0", func := "pantograph/pantographlaw13.DeltaIdle", spec := "deltaIdle", unfollowed := true, recurses := true, named := ["math/bits.overflowError"], apart := false }
def DeltaIdleSaid : Prop := deltaIdleRow.holds Try.pinned (OpenSpec.ofChange deltaIdleSpec)

/-- ITS FALSE NEIGHBOUR: 'it returns false'. Refute it at one input. -/
def deltaIdleWrong : ChangeSpec := { name := "deltaIdle", fn := fun _ => fun
  | [d1, d2] => { results := [.lit (.bool false)], args := [d1, d2] }
  | _ => none }
def DeltaIdleWrongFalsely : Prop := deltaIdleRow.holds Try.pinned (OpenSpec.ofChange deltaIdleWrong)

/-- 'pantographlaw13.DeltaBlocks': WHATEVER THE INPUT: true; the input reads as it did. -/
def deltaBlocksSpec : ChangeSpec := { name := "deltaBlocks", fn := fun _ => fun
  | [d1, d2, d3, d4] => { results := [.lit (.bool true)], args := [d1, d2, d3, d4] }
  | _ => none }
def deltaBlocksRow : OpenClaim := { program := "ytfpipaoobmcomaa", sum := "f604ca987ae34a326a4c8e29b642034cc4d75e8663172df30692bcf72a1345e0", func := "pantograph/pantographlaw13.DeltaBlocks", spec := "deltaBlocks", unfollowed := true, recurses := true, named := ["math/bits.overflowError"], apart := false }
def DeltaBlocksSaid : Prop := deltaBlocksRow.holds Try.pinned (OpenSpec.ofChange deltaBlocksSpec)

/-- ITS FALSE NEIGHBOUR: 'it returns false'. Refute it at one input. -/
def deltaBlocksWrong : ChangeSpec := { name := "deltaBlocks", fn := fun _ => fun
  | [d1, d2, d3, d4] => { results := [.lit (.bool false)], args := [d1, d2, d3, d4] }
  | _ => none }
def DeltaBlocksWrongFalsely : Prop := deltaBlocksRow.holds Try.pinned (OpenSpec.ofChange deltaBlocksWrong)

/-- 'pantographlaw13.DeltaWalks': WHATEVER THE INPUT: true; the input reads as it did. -/
def deltaWalksSpec : ChangeSpec := { name := "deltaWalks", fn := fun _ => fun
  | [d1, d2, d3] => { results := [.lit (.bool true)], args := [d1, d2, d3] }
  | _ => none }
def deltaWalksRow : OpenClaim := { program := "ytfpipaoobmcomaa", sum := "f604ca987ae34a326a4c8e29b642034cc4d75e8663172df30692bcf72a1345e0", func := "pantograph/pantographlaw13.DeltaWalks", spec := "deltaWalks", unfollowed := true, recurses := true, named := ["math/bits.overflowError"], apart := false }
def DeltaWalksSaid : Prop := deltaWalksRow.holds Try.pinned (OpenSpec.ofChange deltaWalksSpec)

/-- ITS FALSE NEIGHBOUR: 'it returns false'. Refute it at one input. -/
def deltaWalksWrong : ChangeSpec := { name := "deltaWalks", fn := fun _ => fun
  | [d1, d2, d3] => { results := [.lit (.bool false)], args := [d1, d2, d3] }
  | _ => none }
def DeltaWalksWrongFalsely : Prop := deltaWalksRow.holds Try.pinned (OpenSpec.ofChange deltaWalksWrong)

/-- 'pantographlaw13.DeltaSettles': WHATEVER THE INPUT: true; the input reads as it did. -/
def deltaSettlesSpec : ChangeSpec := { name := "deltaSettles", fn := fun _ => fun
  | [d1, d2, d3] => { results := [.lit (.bool true)], args := [d1, d2, d3] }
  | _ => none }
def deltaSettlesRow : OpenClaim := { program := "ytfpipaoobmcomaa", sum := "f604ca987ae34a326a4c8e29b642034cc4d75e8663172df30692bcf72a1345e0", func := "pantograph/pantographlaw13.DeltaSettles", spec := "deltaSettles", unfollowed := true, recurses := true, named := ["math/bits.overflowError"], apart := false }
def DeltaSettlesSaid : Prop := deltaSettlesRow.holds Try.pinned (OpenSpec.ofChange deltaSettlesSpec)

/-- ITS FALSE NEIGHBOUR: 'it returns false'. Refute it at one input. -/
def deltaSettlesWrong : ChangeSpec := { name := "deltaSettles", fn := fun _ => fun
  | [d1, d2, d3] => { results := [.lit (.bool false)], args := [d1, d2, d3] }
  | _ => none }
def DeltaSettlesWrongFalsely : Prop := deltaSettlesRow.holds Try.pinned (OpenSpec.ofChange deltaSettlesWrong)

/-- 'pantographlaw13.DeltaRefused': WHATEVER THE INPUT: true; the input reads as it did. -/
def deltaRefusedSpec : ChangeSpec := { name := "deltaRefused", fn := fun _ => fun
  | [d1, d2, d3] => { results := [.lit (.bool true)], args := [d1, d2, d3] }
  | _ => none }
def deltaRefusedRow : OpenClaim := { program := "ytfpipaoobmcomaa", sum := "f604ca987ae34a326a4c8e29b642034cc4d75e8663172df30692bcf72a1345e0", func := "pantograph/pantographlaw13.DeltaRefused", spec := "deltaRefused", unfollowed := true, recurses := true, named := ["math/bits.overflowError"], apart := false }
def DeltaRefusedSaid : Prop := deltaRefusedRow.holds Try.pinned (OpenSpec.ofChange deltaRefusedSpec)

/-- ITS FALSE NEIGHBOUR: 'it returns false'. Refute it at one input. -/
def deltaRefusedWrong : ChangeSpec := { name := "deltaRefused", fn := fun _ => fun
  | [d1, d2, d3] => { results := [.lit (.bool false)], args := [d1, d2, d3] }
  | _ => none }
def DeltaRefusedWrongFalsely : Prop := deltaRefusedRow.holds Try.pinned (OpenSpec.ofChange deltaRefusedWrong)

/- THE SECOND FORM. 'bulk': how many values and letters a reading holds, each counted each time it is reached (what is shared counts as often as it is met; a slice's spare places count too). A statement '..UptoSaid' is the law's where the arguments, and the package variables that the reading takes, are together of bulk at most 1048576: NARROWER than '..Said'. Prove '..Said' where nothing that the law and all that it calls make is longer than what came in: it says more and counts as full. Else prove '..UptoSaid'. A law counts once. -/
mutual
def uptoBulk {H : Type} : DataW H → Nat
  | .lit (.string bytes) => bytes.length + 1
  | .lit _ => 1
  | .nil => 1
  | .ptr d => uptoBulk d + 1
  | .slice elems spare => uptoBulkAll elems + uptoBulkAll spare + 1
  | .agg parts => uptoBulkAll parts + 1
  | .iface _ d => uptoBulk d + 1
  | .map entries => uptoBulkEntries entries + 1
  | .held _ => 1
def uptoBulkAll {H : Type} : List (DataW H) → Nat
  | [] => 0
  | d :: r => uptoBulk d + uptoBulkAll r
def uptoBulkEntries {H : Type} : List (Lit × DataW H) → Nat
  | [] => 0
  | x :: r => uptoBulkEntry x + uptoBulkEntries r
def uptoBulkEntry {H : Type} : Lit × DataW H → Nat
  | (.string bytes, d) => bytes.length + uptoBulk d + 1
  | (_, d) => uptoBulk d + 1
 end
def uptoSmall : (H : Type) → List (DataW H) → Bool := fun _ ds => decide (uptoBulkAll ds ≤ 1048576)
def OpenSpec.upto (s : _root_.Go.ChangeSpec) : _root_.Go.OpenSpec := { _root_.Go.OpenSpec.ofChange s with cond := some uptoSmall }

/-- 'pantographlaw13.DeltaAgain', WHERE WHAT IT READS IS OF BULK AT MOST 1048576: true; the input reads as it did. -/
def deltaAgainUptoRow : OpenClaim := { program := "ytfpipaoobmcomaa", sum := "f604ca987ae34a326a4c8e29b642034cc4d75e8663172df30692bcf72a1345e0", func := "pantograph/pantographlaw13.DeltaAgain", spec := "deltaAgain", unfollowed := true, recurses := true, named := ["math/bits.overflowError"], apart := false, narrowed := true }
def DeltaAgainUptoSaid : Prop := deltaAgainUptoRow.holds Try.pinned (OpenSpec.upto deltaAgainSpec)

/-- 'pantographlaw13.DeltaBetter', WHERE WHAT IT READS IS OF BULK AT MOST 1048576: true; the input reads as it did. -/
def deltaBetterUptoRow : OpenClaim := { program := "ytfpipaoobmcomaa", sum := "f604ca987ae34a326a4c8e29b642034cc4d75e8663172df30692bcf72a1345e0", func := "pantograph/pantographlaw13.DeltaBetter", spec := "deltaBetter", unfollowed := true, recurses := true, named := ["math/bits.overflowError"], apart := false, narrowed := true }
def DeltaBetterUptoSaid : Prop := deltaBetterUptoRow.holds Try.pinned (OpenSpec.upto deltaBetterSpec)

/-- 'pantographlaw13.DeltaAll', WHERE WHAT IT READS IS OF BULK AT MOST 1048576: true; the input reads as it did. -/
def deltaAllUptoRow : OpenClaim := { program := "ytfpipaoobmcomaa", sum := "f604ca987ae34a326a4c8e29b642034cc4d75e8663172df30692bcf72a1345e0", func := "pantograph/pantographlaw13.DeltaAll", spec := "deltaAll", unfollowed := true, recurses := true, named := ["math/bits.overflowError"], apart := false, narrowed := true }
def DeltaAllUptoSaid : Prop := deltaAllUptoRow.holds Try.pinned (OpenSpec.upto deltaAllSpec)

/-- 'pantographlaw13.DeltaIdle', WHERE WHAT IT READS IS OF BULK AT MOST 1048576: true; the input reads as it did. -/
def deltaIdleUptoRow : OpenClaim := { program := "ytfpipaoobmcomaa", sum := "f604ca987ae34a326a4c8e29b642034cc4d75e8663172df30692bcf72a1345e0", func := "pantograph/pantographlaw13.DeltaIdle", spec := "deltaIdle", unfollowed := true, recurses := true, named := ["math/bits.overflowError"], apart := false, narrowed := true }
def DeltaIdleUptoSaid : Prop := deltaIdleUptoRow.holds Try.pinned (OpenSpec.upto deltaIdleSpec)

/-- 'pantographlaw13.DeltaBlocks', WHERE WHAT IT READS IS OF BULK AT MOST 1048576: true; the input reads as it did. -/
def deltaBlocksUptoRow : OpenClaim := { program := "ytfpipaoobmcomaa", sum := "f604ca987ae34a326a4c8e29b642034cc4d75e8663172df30692bcf72a1345e0", func := "pantograph/pantographlaw13.DeltaBlocks", spec := "deltaBlocks", unfollowed := true, recurses := true, named := ["math/bits.overflowError"], apart := false, narrowed := true }
def DeltaBlocksUptoSaid : Prop := deltaBlocksUptoRow.holds Try.pinned (OpenSpec.upto deltaBlocksSpec)

/-- 'pantographlaw13.DeltaWalks', WHERE WHAT IT READS IS OF BULK AT MOST 1048576: true; the input reads as it did. -/
def deltaWalksUptoRow : OpenClaim := { program := "ytfpipaoobmcomaa", sum := "f604ca987ae34a326a4c8e29b642034cc4d75e8663172df30692bcf72a1345e0", func := "pantograph/pantographlaw13.DeltaWalks", spec := "deltaWalks", unfollowed := true, recurses := true, named := ["math/bits.overflowError"], apart := false, narrowed := true }
def DeltaWalksUptoSaid : Prop := deltaWalksUptoRow.holds Try.pinned (OpenSpec.upto deltaWalksSpec)

/-- 'pantographlaw13.DeltaSettles', WHERE WHAT IT READS IS OF BULK AT MOST 1048576: true; the input reads as it did. -/
def deltaSettlesUptoRow : OpenClaim := { program := "ytfpipaoobmcomaa", sum := "f604ca987ae34a326a4c8e29b642034cc4d75e8663172df30692bcf72a1345e0", func := "pantograph/pantographlaw13.DeltaSettles", spec := "deltaSettles", unfollowed := true, recurses := true, named := ["math/bits.overflowError"], apart := false, narrowed := true }
def DeltaSettlesUptoSaid : Prop := deltaSettlesUptoRow.holds Try.pinned (OpenSpec.upto deltaSettlesSpec)

/-- 'pantographlaw13.DeltaRefused', WHERE WHAT IT READS IS OF BULK AT MOST 1048576: true; the input reads as it did. -/
def deltaRefusedUptoRow : OpenClaim := { program := "ytfpipaoobmcomaa", sum := "f604ca987ae34a326a4c8e29b642034cc4d75e8663172df30692bcf72a1345e0", func := "pantograph/pantographlaw13.DeltaRefused", spec := "deltaRefused", unfollowed := true, recurses := true, named := ["math/bits.overflowError"], apart := false, narrowed := true }
def DeltaRefusedUptoSaid : Prop := deltaRefusedUptoRow.holds Try.pinned (OpenSpec.upto deltaRefusedSpec)

end Rows
end Go.Proofs.Ytfpipaoobmcomaa
