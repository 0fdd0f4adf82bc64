/-
  No cell of these rows narrows 'for every input' (looked for: loops, veiled, ifaces, maps, wideKeys, modest, calm, conditions, laid).
  DERIVED. THE GIVEN ROWS OF THIS SEAT. 14 by the template 'for every input the law returns true; each argument reads behind the call as it read before'; 0 by the template 'total and deterministic' (their statements: YtjeodekhamdcmaaTotals.lean).
  GIVEN WITH THE SEED: the statements are not yours to turn. If you find one false, say at which input.
  Laid BY PROGRAM, IN A SANDBOX (cutbox-rows.mjs): the forced cells as the released guide's own fill.sh prints them over the translation d3d9cdaf9f77585d… (all of the seat's roots in one cut). By AI agents, Wed Nov 11 2026. No macro, syntax, notation, axiom, sorry.
-/
import Derived.Test.YtjeodekhamdcmaaChecked
import GoSem.Claim
import GoSem.ClaimJoined
import GoSem.ClaimMapViews
import Derived.JoinedTies
import Derived.KernelRfl
namespace Go.Proofs.Ytjeodekhamdcmaa
/- THE CELL 'sum', in the pinned program and in every row, IS THE sha256 OF THE DUMP (.gsa) THAT YtjeodekhamdcmaaProg.lean LOADS. Nothing in Lean hashes anything: it is a label: what it is worth is what the hold of that sum in a sandbox is worth. -/
noncomputable def Try.pinned : Pinned := { name := "ytjeodekhamdcmaa", sum := "d3d9cdaf9f77585d048493562d46c90f7117b8344aa4fb74f25109cfe868bbd5", checked := Try.checked }
namespace Rows
def none {H : Type} : Left H := { results := [], args := [] }

/-- 'pantographlaw11.GraphRings': WHATEVER THE INPUT: true; the input reads as it did. -/
def graphRingsSpec : ChangeSpec := { name := "graphRings", fn := fun _ => fun
  | [d] => { results := [.lit (.bool true)], args := [d] }
  | _ => none }
def graphRingsRow : OpenClaim := { program := "ytjeodekhamdcmaa", sum := "d3d9cdaf9f77585d048493562d46c90f7117b8344aa4fb74f25109cfe868bbd5", func := "pantograph/pantographlaw11.GraphRings", spec := "graphRings", named := ["math/bits.overflowError"], apart := false }
def GraphRingsSaid : Prop := graphRingsRow.holds Try.pinned (OpenSpec.ofChange graphRingsSpec)

/-- ITS FALSE NEIGHBOUR: 'it returns false'. Refute it at one input. -/
def graphRingsWrong : ChangeSpec := { name := "graphRings", fn := fun _ => fun
  | [d] => { results := [.lit (.bool false)], args := [d] }
  | _ => none }
def GraphRingsWrongFalsely : Prop := graphRingsRow.holds Try.pinned (OpenSpec.ofChange graphRingsWrong)

/-- 'pantographlaw11.GraphFewer': WHATEVER THE INPUT: true; the input reads as it did. -/
def graphFewerSpec : ChangeSpec := { name := "graphFewer", fn := fun _ => fun
  | [d1, d2, d3, d4] => { results := [.lit (.bool true)], args := [d1, d2, d3, d4] }
  | _ => none }
def graphFewerRow : OpenClaim := { program := "ytjeodekhamdcmaa", sum := "d3d9cdaf9f77585d048493562d46c90f7117b8344aa4fb74f25109cfe868bbd5", func := "pantograph/pantographlaw11.GraphFewer", spec := "graphFewer", named := ["math/bits.overflowError"], apart := false }
def GraphFewerSaid : Prop := graphFewerRow.holds Try.pinned (OpenSpec.ofChange graphFewerSpec)

/-- ITS FALSE NEIGHBOUR: 'it returns false'. Refute it at one input. -/
def graphFewerWrong : ChangeSpec := { name := "graphFewer", fn := fun _ => fun
  | [d1, d2, d3, d4] => { results := [.lit (.bool false)], args := [d1, d2, d3, d4] }
  | _ => none }
def GraphFewerWrongFalsely : Prop := graphFewerRow.holds Try.pinned (OpenSpec.ofChange graphFewerWrong)

/-- 'pantographlaw11.GraphTells': WHATEVER THE INPUT: true; the input reads as it did. -/
def graphTellsSpec : ChangeSpec := { name := "graphTells", fn := fun _ => fun
  | [d1, d2] => { results := [.lit (.bool true)], args := [d1, d2] }
  | _ => none }
def graphTellsRow : OpenClaim := { program := "ytjeodekhamdcmaa", sum := "d3d9cdaf9f77585d048493562d46c90f7117b8344aa4fb74f25109cfe868bbd5", func := "pantograph/pantographlaw11.GraphTells", spec := "graphTells", named := ["math/bits.overflowError"], apart := false }
def GraphTellsSaid : Prop := graphTellsRow.holds Try.pinned (OpenSpec.ofChange graphTellsSpec)

/-- ITS FALSE NEIGHBOUR: 'it returns false'. Refute it at one input. -/
def graphTellsWrong : ChangeSpec := { name := "graphTells", fn := fun _ => fun
  | [d1, d2] => { results := [.lit (.bool false)], args := [d1, d2] }
  | _ => none }
def GraphTellsWrongFalsely : Prop := graphTellsRow.holds Try.pinned (OpenSpec.ofChange graphTellsWrong)

/-- 'pantographlaw11.GraphTurns': WHATEVER THE INPUT: true; the input reads as it did. -/
def graphTurnsSpec : ChangeSpec := { name := "graphTurns", fn := fun _ => fun
  | [d1, d2] => { results := [.lit (.bool true)], args := [d1, d2] }
  | _ => none }
def graphTurnsRow : OpenClaim := { program := "ytjeodekhamdcmaa", sum := "d3d9cdaf9f77585d048493562d46c90f7117b8344aa4fb74f25109cfe868bbd5", func := "pantograph/pantographlaw11.GraphTurns", spec := "graphTurns", named := ["math/bits.overflowError"], apart := false }
def GraphTurnsSaid : Prop := graphTurnsRow.holds Try.pinned (OpenSpec.ofChange graphTurnsSpec)

/-- ITS FALSE NEIGHBOUR: 'it returns false'. Refute it at one input. -/
def graphTurnsWrong : ChangeSpec := { name := "graphTurns", fn := fun _ => fun
  | [d1, d2] => { results := [.lit (.bool false)], args := [d1, d2] }
  | _ => none }
def GraphTurnsWrongFalsely : Prop := graphTurnsRow.holds Try.pinned (OpenSpec.ofChange graphTurnsWrong)

/-- 'pantographlaw11.GraphCounts': WHATEVER THE INPUT: true; the input reads as it did. -/
def graphCountsSpec : ChangeSpec := { name := "graphCounts", fn := fun _ => fun
  | [d1, d2] => { results := [.lit (.bool true)], args := [d1, d2] }
  | _ => none }
def graphCountsRow : OpenClaim := { program := "ytjeodekhamdcmaa", sum := "d3d9cdaf9f77585d048493562d46c90f7117b8344aa4fb74f25109cfe868bbd5", func := "pantograph/pantographlaw11.GraphCounts", spec := "graphCounts", named := ["math/bits.overflowError"], apart := false }
def GraphCountsSaid : Prop := graphCountsRow.holds Try.pinned (OpenSpec.ofChange graphCountsSpec)

/-- ITS FALSE NEIGHBOUR: 'it returns false'. Refute it at one input. -/
def graphCountsWrong : ChangeSpec := { name := "graphCounts", fn := fun _ => fun
  | [d1, d2] => { results := [.lit (.bool false)], args := [d1, d2] }
  | _ => none }
def GraphCountsWrongFalsely : Prop := graphCountsRow.holds Try.pinned (OpenSpec.ofChange graphCountsWrong)

/-- 'pantographlaw2.RatLaws': WHATEVER THE INPUT: true; the input reads as it did. -/
def ratLawsSpec : ChangeSpec := { name := "ratLaws", fn := fun _ => fun
  | [d1, d2, d3] => { results := [.lit (.bool true)], args := [d1, d2, d3] }
  | _ => none }
def ratLawsRow : OpenClaim := { program := "ytjeodekhamdcmaa", sum := "d3d9cdaf9f77585d048493562d46c90f7117b8344aa4fb74f25109cfe868bbd5", func := "pantograph/pantographlaw2.RatLaws", spec := "ratLaws", named := ["math/bits.overflowError"], apart := false }
def RatLawsSaid : Prop := ratLawsRow.holds Try.pinned (OpenSpec.ofChange ratLawsSpec)

/-- ITS FALSE NEIGHBOUR: 'it returns false'. Refute it at one input. -/
def ratLawsWrong : ChangeSpec := { name := "ratLaws", fn := fun _ => fun
  | [d1, d2, d3] => { results := [.lit (.bool false)], args := [d1, d2, d3] }
  | _ => none }
def RatLawsWrongFalsely : Prop := ratLawsRow.holds Try.pinned (OpenSpec.ofChange ratLawsWrong)

/-- 'pantographlaw2.RatBack': WHATEVER THE INPUT: true; the input reads as it did. -/
def ratBackSpec : ChangeSpec := { name := "ratBack", fn := fun _ => fun
  | [d1, d2] => { results := [.lit (.bool true)], args := [d1, d2] }
  | _ => none }
def ratBackRow : OpenClaim := { program := "ytjeodekhamdcmaa", sum := "d3d9cdaf9f77585d048493562d46c90f7117b8344aa4fb74f25109cfe868bbd5", func := "pantograph/pantographlaw2.RatBack", spec := "ratBack", named := ["math/bits.overflowError"], apart := false }
def RatBackSaid : Prop := ratBackRow.holds Try.pinned (OpenSpec.ofChange ratBackSpec)

/-- ITS FALSE NEIGHBOUR: 'it returns false'. Refute it at one input. -/
def ratBackWrong : ChangeSpec := { name := "ratBack", fn := fun _ => fun
  | [d1, d2] => { results := [.lit (.bool false)], args := [d1, d2] }
  | _ => none }
def RatBackWrongFalsely : Prop := ratBackRow.holds Try.pinned (OpenSpec.ofChange ratBackWrong)

/-- 'pantographlaw2.RatInts': WHATEVER THE INPUT: true; the input reads as it did. -/
def ratIntsSpec : ChangeSpec := { name := "ratInts", fn := fun _ => fun
  | [d1, d2] => { results := [.lit (.bool true)], args := [d1, d2] }
  | _ => none }
def ratIntsRow : OpenClaim := { program := "ytjeodekhamdcmaa", sum := "d3d9cdaf9f77585d048493562d46c90f7117b8344aa4fb74f25109cfe868bbd5", func := "pantograph/pantographlaw2.RatInts", spec := "ratInts", named := ["math/bits.overflowError"], apart := false }
def RatIntsSaid : Prop := ratIntsRow.holds Try.pinned (OpenSpec.ofChange ratIntsSpec)

/-- ITS FALSE NEIGHBOUR: 'it returns false'. Refute it at one input. -/
def ratIntsWrong : ChangeSpec := { name := "ratInts", fn := fun _ => fun
  | [d1, d2] => { results := [.lit (.bool false)], args := [d1, d2] }
  | _ => none }
def RatIntsWrongFalsely : Prop := ratIntsRow.holds Try.pinned (OpenSpec.ofChange ratIntsWrong)

/-- 'pantographlaw2.RatOwn': WHATEVER THE INPUT: true; the input reads as it did. -/
def ratOwnSpec : ChangeSpec := { name := "ratOwn", fn := fun _ => fun
  | [d1, d2] => { results := [.lit (.bool true)], args := [d1, d2] }
  | _ => none }
def ratOwnRow : OpenClaim := { program := "ytjeodekhamdcmaa", sum := "d3d9cdaf9f77585d048493562d46c90f7117b8344aa4fb74f25109cfe868bbd5", func := "pantograph/pantographlaw2.RatOwn", spec := "ratOwn", named := ["math/bits.overflowError"], apart := false }
def RatOwnSaid : Prop := ratOwnRow.holds Try.pinned (OpenSpec.ofChange ratOwnSpec)

/-- ITS FALSE NEIGHBOUR: 'it returns false'. Refute it at one input. -/
def ratOwnWrong : ChangeSpec := { name := "ratOwn", fn := fun _ => fun
  | [d1, d2] => { results := [.lit (.bool false)], args := [d1, d2] }
  | _ => none }
def RatOwnWrongFalsely : Prop := ratOwnRow.holds Try.pinned (OpenSpec.ofChange ratOwnWrong)

/-- 'pantographlaw2.RatOrder': WHATEVER THE INPUT: true; the input reads as it did. -/
def ratOrderSpec : ChangeSpec := { name := "ratOrder", fn := fun _ => fun
  | [d1, d2, d3] => { results := [.lit (.bool true)], args := [d1, d2, d3] }
  | _ => none }
def ratOrderRow : OpenClaim := { program := "ytjeodekhamdcmaa", sum := "d3d9cdaf9f77585d048493562d46c90f7117b8344aa4fb74f25109cfe868bbd5", func := "pantograph/pantographlaw2.RatOrder", spec := "ratOrder", named := ["math/bits.overflowError"], apart := false }
def RatOrderSaid : Prop := ratOrderRow.holds Try.pinned (OpenSpec.ofChange ratOrderSpec)

/-- ITS FALSE NEIGHBOUR: 'it returns false'. Refute it at one input. -/
def ratOrderWrong : ChangeSpec := { name := "ratOrder", fn := fun _ => fun
  | [d1, d2, d3] => { results := [.lit (.bool false)], args := [d1, d2, d3] }
  | _ => none }
def RatOrderWrongFalsely : Prop := ratOrderRow.holds Try.pinned (OpenSpec.ofChange ratOrderWrong)

/-- 'pantographlaw2.RatFloors': WHATEVER THE INPUT: true; the input reads as it did. -/
def ratFloorsSpec : ChangeSpec := { name := "ratFloors", fn := fun _ => fun
  | [d] => { results := [.lit (.bool true)], args := [d] }
  | _ => none }
def ratFloorsRow : OpenClaim := { program := "ytjeodekhamdcmaa", sum := "d3d9cdaf9f77585d048493562d46c90f7117b8344aa4fb74f25109cfe868bbd5", func := "pantograph/pantographlaw2.RatFloors", spec := "ratFloors", named := ["math/bits.overflowError"], apart := false }
def RatFloorsSaid : Prop := ratFloorsRow.holds Try.pinned (OpenSpec.ofChange ratFloorsSpec)

/-- ITS FALSE NEIGHBOUR: 'it returns false'. Refute it at one input. -/
def ratFloorsWrong : ChangeSpec := { name := "ratFloors", fn := fun _ => fun
  | [d] => { results := [.lit (.bool false)], args := [d] }
  | _ => none }
def RatFloorsWrongFalsely : Prop := ratFloorsRow.holds Try.pinned (OpenSpec.ofChange ratFloorsWrong)

/-- 'pantographlaw2.RatWider': WHATEVER THE INPUT: true; the input reads as it did. -/
def ratWiderSpec : ChangeSpec := { name := "ratWider", fn := fun _ => fun
  | [d1, d2] => { results := [.lit (.bool true)], args := [d1, d2] }
  | _ => none }
def ratWiderRow : OpenClaim := { program := "ytjeodekhamdcmaa", sum := "d3d9cdaf9f77585d048493562d46c90f7117b8344aa4fb74f25109cfe868bbd5", func := "pantograph/pantographlaw2.RatWider", spec := "ratWider", named := ["math/bits.overflowError"], apart := false }
def RatWiderSaid : Prop := ratWiderRow.holds Try.pinned (OpenSpec.ofChange ratWiderSpec)

/-- ITS FALSE NEIGHBOUR: 'it returns false'. Refute it at one input. -/
def ratWiderWrong : ChangeSpec := { name := "ratWider", fn := fun _ => fun
  | [d1, d2] => { results := [.lit (.bool false)], args := [d1, d2] }
  | _ => none }
def RatWiderWrongFalsely : Prop := ratWiderRow.holds Try.pinned (OpenSpec.ofChange ratWiderWrong)

/-- 'pantographlaw2.RatLooks': WHATEVER THE INPUT: true; the input reads as it did. -/
def ratLooksSpec : ChangeSpec := { name := "ratLooks", fn := fun _ => fun
  | [d1, d2] => { results := [.lit (.bool true)], args := [d1, d2] }
  | _ => none }
def ratLooksRow : OpenClaim := { program := "ytjeodekhamdcmaa", sum := "d3d9cdaf9f77585d048493562d46c90f7117b8344aa4fb74f25109cfe868bbd5", func := "pantograph/pantographlaw2.RatLooks", spec := "ratLooks", named := ["math/bits.overflowError"], apart := false }
def RatLooksSaid : Prop := ratLooksRow.holds Try.pinned (OpenSpec.ofChange ratLooksSpec)

/-- ITS FALSE NEIGHBOUR: 'it returns false'. Refute it at one input. -/
def ratLooksWrong : ChangeSpec := { name := "ratLooks", fn := fun _ => fun
  | [d1, d2] => { results := [.lit (.bool false)], args := [d1, d2] }
  | _ => none }
def RatLooksWrongFalsely : Prop := ratLooksRow.holds Try.pinned (OpenSpec.ofChange ratLooksWrong)

/-- 'pantographlaw2.RatReckons': WHATEVER THE INPUT: true; the input reads as it did. -/
def ratReckonsSpec : ChangeSpec := { name := "ratReckons", fn := fun _ => fun
  | [d1, d2] => { results := [.lit (.bool true)], args := [d1, d2] }
  | _ => none }
def ratReckonsRow : OpenClaim := { program := "ytjeodekhamdcmaa", sum := "d3d9cdaf9f77585d048493562d46c90f7117b8344aa4fb74f25109cfe868bbd5", func := "pantograph/pantographlaw2.RatReckons", spec := "ratReckons", named := ["math/bits.overflowError"], apart := false }
def RatReckonsSaid : Prop := ratReckonsRow.holds Try.pinned (OpenSpec.ofChange ratReckonsSpec)

/-- ITS FALSE NEIGHBOUR: 'it returns false'. Refute it at one input. -/
def ratReckonsWrong : ChangeSpec := { name := "ratReckons", fn := fun _ => fun
  | [d1, d2] => { results := [.lit (.bool false)], args := [d1, d2] }
  | _ => none }
def RatReckonsWrongFalsely : Prop := ratReckonsRow.holds Try.pinned (OpenSpec.ofChange ratReckonsWrong)

/- THE SECOND FORM. 'bulk': how many values and letters a reading holds, each counted each time it is reached (what is shared counts as often as it is met; a slice's spare places count too). A statement '..UptoSaid' is the law's where the arguments, and the package variables that the reading takes, are together of bulk at most 1048576: NARROWER than '..Said'. Prove '..Said' where nothing that the law and all that it calls make is longer than what came in: it says more and counts as full. Else prove '..UptoSaid'. A law counts once. -/
mutual
def uptoBulk {H : Type} : DataW H → Nat
  | .lit (.string bytes) => bytes.length + 1
  | .lit _ => 1
  | .nil => 1
  | .ptr d => uptoBulk d + 1
  | .slice elems spare => uptoBulkAll elems + uptoBulkAll spare + 1
  | .agg parts => uptoBulkAll parts + 1
  | .iface _ d => uptoBulk d + 1
  | .map entries => uptoBulkEntries entries + 1
  | .held _ => 1
def uptoBulkAll {H : Type} : List (DataW H) → Nat
  | [] => 0
  | d :: r => uptoBulk d + uptoBulkAll r
def uptoBulkEntries {H : Type} : List (Lit × DataW H) → Nat
  | [] => 0
  | x :: r => uptoBulkEntry x + uptoBulkEntries r
def uptoBulkEntry {H : Type} : Lit × DataW H → Nat
  | (.string bytes, d) => bytes.length + uptoBulk d + 1
  | (_, d) => uptoBulk d + 1
 end
def uptoSmall : (H : Type) → List (DataW H) → Bool := fun _ ds => decide (uptoBulkAll ds ≤ 1048576)
def OpenSpec.upto (s : _root_.Go.ChangeSpec) : _root_.Go.OpenSpec := { _root_.Go.OpenSpec.ofChange s with cond := some uptoSmall }

/-- 'pantographlaw11.GraphRings', WHERE WHAT IT READS IS OF BULK AT MOST 1048576: true; the input reads as it did. -/
def graphRingsUptoRow : OpenClaim := { program := "ytjeodekhamdcmaa", sum := "d3d9cdaf9f77585d048493562d46c90f7117b8344aa4fb74f25109cfe868bbd5", func := "pantograph/pantographlaw11.GraphRings", spec := "graphRings", named := ["math/bits.overflowError"], apart := false, narrowed := true }
def GraphRingsUptoSaid : Prop := graphRingsUptoRow.holds Try.pinned (OpenSpec.upto graphRingsSpec)

/-- 'pantographlaw11.GraphFewer', WHERE WHAT IT READS IS OF BULK AT MOST 1048576: true; the input reads as it did. -/
def graphFewerUptoRow : OpenClaim := { program := "ytjeodekhamdcmaa", sum := "d3d9cdaf9f77585d048493562d46c90f7117b8344aa4fb74f25109cfe868bbd5", func := "pantograph/pantographlaw11.GraphFewer", spec := "graphFewer", named := ["math/bits.overflowError"], apart := false, narrowed := true }
def GraphFewerUptoSaid : Prop := graphFewerUptoRow.holds Try.pinned (OpenSpec.upto graphFewerSpec)

/-- 'pantographlaw11.GraphTells', WHERE WHAT IT READS IS OF BULK AT MOST 1048576: true; the input reads as it did. -/
def graphTellsUptoRow : OpenClaim := { program := "ytjeodekhamdcmaa", sum := "d3d9cdaf9f77585d048493562d46c90f7117b8344aa4fb74f25109cfe868bbd5", func := "pantograph/pantographlaw11.GraphTells", spec := "graphTells", named := ["math/bits.overflowError"], apart := false, narrowed := true }
def GraphTellsUptoSaid : Prop := graphTellsUptoRow.holds Try.pinned (OpenSpec.upto graphTellsSpec)

/-- 'pantographlaw11.GraphTurns', WHERE WHAT IT READS IS OF BULK AT MOST 1048576: true; the input reads as it did. -/
def graphTurnsUptoRow : OpenClaim := { program := "ytjeodekhamdcmaa", sum := "d3d9cdaf9f77585d048493562d46c90f7117b8344aa4fb74f25109cfe868bbd5", func := "pantograph/pantographlaw11.GraphTurns", spec := "graphTurns", named := ["math/bits.overflowError"], apart := false, narrowed := true }
def GraphTurnsUptoSaid : Prop := graphTurnsUptoRow.holds Try.pinned (OpenSpec.upto graphTurnsSpec)

/-- 'pantographlaw11.GraphCounts', WHERE WHAT IT READS IS OF BULK AT MOST 1048576: true; the input reads as it did. -/
def graphCountsUptoRow : OpenClaim := { program := "ytjeodekhamdcmaa", sum := "d3d9cdaf9f77585d048493562d46c90f7117b8344aa4fb74f25109cfe868bbd5", func := "pantograph/pantographlaw11.GraphCounts", spec := "graphCounts", named := ["math/bits.overflowError"], apart := false, narrowed := true }
def GraphCountsUptoSaid : Prop := graphCountsUptoRow.holds Try.pinned (OpenSpec.upto graphCountsSpec)

/-- 'pantographlaw2.RatLaws', WHERE WHAT IT READS IS OF BULK AT MOST 1048576: true; the input reads as it did. -/
def ratLawsUptoRow : OpenClaim := { program := "ytjeodekhamdcmaa", sum := "d3d9cdaf9f77585d048493562d46c90f7117b8344aa4fb74f25109cfe868bbd5", func := "pantograph/pantographlaw2.RatLaws", spec := "ratLaws", named := ["math/bits.overflowError"], apart := false, narrowed := true }
def RatLawsUptoSaid : Prop := ratLawsUptoRow.holds Try.pinned (OpenSpec.upto ratLawsSpec)

/-- 'pantographlaw2.RatBack', WHERE WHAT IT READS IS OF BULK AT MOST 1048576: true; the input reads as it did. -/
def ratBackUptoRow : OpenClaim := { program := "ytjeodekhamdcmaa", sum := "d3d9cdaf9f77585d048493562d46c90f7117b8344aa4fb74f25109cfe868bbd5", func := "pantograph/pantographlaw2.RatBack", spec := "ratBack", named := ["math/bits.overflowError"], apart := false, narrowed := true }
def RatBackUptoSaid : Prop := ratBackUptoRow.holds Try.pinned (OpenSpec.upto ratBackSpec)

/-- 'pantographlaw2.RatInts', WHERE WHAT IT READS IS OF BULK AT MOST 1048576: true; the input reads as it did. -/
def ratIntsUptoRow : OpenClaim := { program := "ytjeodekhamdcmaa", sum := "d3d9cdaf9f77585d048493562d46c90f7117b8344aa4fb74f25109cfe868bbd5", func := "pantograph/pantographlaw2.RatInts", spec := "ratInts", named := ["math/bits.overflowError"], apart := false, narrowed := true }
def RatIntsUptoSaid : Prop := ratIntsUptoRow.holds Try.pinned (OpenSpec.upto ratIntsSpec)

/-- 'pantographlaw2.RatOwn', WHERE WHAT IT READS IS OF BULK AT MOST 1048576: true; the input reads as it did. -/
def ratOwnUptoRow : OpenClaim := { program := "ytjeodekhamdcmaa", sum := "d3d9cdaf9f77585d048493562d46c90f7117b8344aa4fb74f25109cfe868bbd5", func := "pantograph/pantographlaw2.RatOwn", spec := "ratOwn", named := ["math/bits.overflowError"], apart := false, narrowed := true }
def RatOwnUptoSaid : Prop := ratOwnUptoRow.holds Try.pinned (OpenSpec.upto ratOwnSpec)

/-- 'pantographlaw2.RatOrder', WHERE WHAT IT READS IS OF BULK AT MOST 1048576: true; the input reads as it did. -/
def ratOrderUptoRow : OpenClaim := { program := "ytjeodekhamdcmaa", sum := "d3d9cdaf9f77585d048493562d46c90f7117b8344aa4fb74f25109cfe868bbd5", func := "pantograph/pantographlaw2.RatOrder", spec := "ratOrder", named := ["math/bits.overflowError"], apart := false, narrowed := true }
def RatOrderUptoSaid : Prop := ratOrderUptoRow.holds Try.pinned (OpenSpec.upto ratOrderSpec)

/-- 'pantographlaw2.RatFloors', WHERE WHAT IT READS IS OF BULK AT MOST 1048576: true; the input reads as it did. -/
def ratFloorsUptoRow : OpenClaim := { program := "ytjeodekhamdcmaa", sum := "d3d9cdaf9f77585d048493562d46c90f7117b8344aa4fb74f25109cfe868bbd5", func := "pantograph/pantographlaw2.RatFloors", spec := "ratFloors", named := ["math/bits.overflowError"], apart := false, narrowed := true }
def RatFloorsUptoSaid : Prop := ratFloorsUptoRow.holds Try.pinned (OpenSpec.upto ratFloorsSpec)

/-- 'pantographlaw2.RatWider', WHERE WHAT IT READS IS OF BULK AT MOST 1048576: true; the input reads as it did. -/
def ratWiderUptoRow : OpenClaim := { program := "ytjeodekhamdcmaa", sum := "d3d9cdaf9f77585d048493562d46c90f7117b8344aa4fb74f25109cfe868bbd5", func := "pantograph/pantographlaw2.RatWider", spec := "ratWider", named := ["math/bits.overflowError"], apart := false, narrowed := true }
def RatWiderUptoSaid : Prop := ratWiderUptoRow.holds Try.pinned (OpenSpec.upto ratWiderSpec)

/-- 'pantographlaw2.RatLooks', WHERE WHAT IT READS IS OF BULK AT MOST 1048576: true; the input reads as it did. -/
def ratLooksUptoRow : OpenClaim := { program := "ytjeodekhamdcmaa", sum := "d3d9cdaf9f77585d048493562d46c90f7117b8344aa4fb74f25109cfe868bbd5", func := "pantograph/pantographlaw2.RatLooks", spec := "ratLooks", named := ["math/bits.overflowError"], apart := false, narrowed := true }
def RatLooksUptoSaid : Prop := ratLooksUptoRow.holds Try.pinned (OpenSpec.upto ratLooksSpec)

/-- 'pantographlaw2.RatReckons', WHERE WHAT IT READS IS OF BULK AT MOST 1048576: true; the input reads as it did. -/
def ratReckonsUptoRow : OpenClaim := { program := "ytjeodekhamdcmaa", sum := "d3d9cdaf9f77585d048493562d46c90f7117b8344aa4fb74f25109cfe868bbd5", func := "pantograph/pantographlaw2.RatReckons", spec := "ratReckons", named := ["math/bits.overflowError"], apart := false, narrowed := true }
def RatReckonsUptoSaid : Prop := ratReckonsUptoRow.holds Try.pinned (OpenSpec.upto ratReckonsSpec)

end Rows
end Go.Proofs.Ytjeodekhamdcmaa
