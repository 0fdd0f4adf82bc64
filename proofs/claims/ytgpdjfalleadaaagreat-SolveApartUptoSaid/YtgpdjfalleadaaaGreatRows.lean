/-
  No cell of these rows narrows 'for every input' (looked for: loops, veiled, ifaces, maps, wideKeys, modest, calm, conditions, laid).
  DERIVED. THE GIVEN ROWS OF THIS SEAT. 4 by the template 'for every input the law returns true; each argument reads behind the call as it read before'; 0 by the template 'total and deterministic' (their statements: YtgpdjfalleadaaaGreatTotals.lean).
  GIVEN WITH THE SEED: the statements are not yours to turn. If you find one false, say at which input.
  Laid BY PROGRAM, IN A SANDBOX (cutbox-rows.mjs): the forced cells as the released guide's own fill.sh prints them over the translation 1a880420e7da5309… (all of the seat's roots in one cut). By AI agents, Wed Nov 11 2026. No macro, syntax, notation, axiom, sorry.
-/
import Derived.Test.YtgpdjfalleadaaaGreatChecked
import GoSem.Claim
import GoSem.ClaimJoined
import GoSem.ClaimMapViews
import Derived.JoinedTies
import Derived.KernelRfl
namespace Go.Proofs.YtgpdjfalleadaaaGreat
/- THE CELL 'sum', in the pinned program and in every row, IS THE sha256 OF THE DUMP (.gsa) THAT YtgpdjfalleadaaaGreatProg.lean LOADS. Nothing in Lean hashes anything: it is a label: what it is worth is what the hold of that sum in a sandbox is worth. -/
noncomputable def Tryz.pinned : Pinned := { name := "ytgpdjfalleadaaagreat", sum := "1a880420e7da5309caa339b33418ed735e2de12dd7c205cfc60625a5cec5a8ac", checked := Tryz.checked }
namespace Rows
def none {H : Type} : Left H := { results := [], args := [] }

/-- 'pantographlaw15.SolvePhases': WHATEVER THE INPUT: true; the input reads as it did. -/
def solvePhasesSpec : ChangeSpec := { name := "solvePhases", fn := fun _ => fun
  | [d1, d2] => { results := [.lit (.bool true)], args := [d1, d2] }
  | _ => none }
def solvePhasesRow : OpenClaim := { program := "ytgpdjfalleadaaagreat", sum := "1a880420e7da5309caa339b33418ed735e2de12dd7c205cfc60625a5cec5a8ac", func := "pantograph/pantographlaw15.SolvePhases", spec := "solvePhases", unfollowed := true, recurses := true, named := ["math/bits.overflowError"], apart := false }
def SolvePhasesSaid : Prop := solvePhasesRow.holds Tryz.pinned (OpenSpec.ofChange solvePhasesSpec)

/-- ITS FALSE NEIGHBOUR: 'it returns false'. Refute it at one input. -/
def solvePhasesWrong : ChangeSpec := { name := "solvePhases", fn := fun _ => fun
  | [d1, d2] => { results := [.lit (.bool false)], args := [d1, d2] }
  | _ => none }
def SolvePhasesWrongFalsely : Prop := solvePhasesRow.holds Tryz.pinned (OpenSpec.ofChange solvePhasesWrong)

/-- 'pantographlaw15.SolveAgain': WHATEVER THE INPUT: true; the input reads as it did. -/
def solveAgainSpec : ChangeSpec := { name := "solveAgain", fn := fun _ => fun
  | [d1, d2] => { results := [.lit (.bool true)], args := [d1, d2] }
  | _ => none }
def solveAgainRow : OpenClaim := { program := "ytgpdjfalleadaaagreat", sum := "1a880420e7da5309caa339b33418ed735e2de12dd7c205cfc60625a5cec5a8ac", func := "pantograph/pantographlaw15.SolveAgain", spec := "solveAgain", unfollowed := true, recurses := true, named := ["math/bits.overflowError"], apart := false }
def SolveAgainSaid : Prop := solveAgainRow.holds Tryz.pinned (OpenSpec.ofChange solveAgainSpec)

/-- ITS FALSE NEIGHBOUR: 'it returns false'. Refute it at one input. -/
def solveAgainWrong : ChangeSpec := { name := "solveAgain", fn := fun _ => fun
  | [d1, d2] => { results := [.lit (.bool false)], args := [d1, d2] }
  | _ => none }
def SolveAgainWrongFalsely : Prop := solveAgainRow.holds Tryz.pinned (OpenSpec.ofChange solveAgainWrong)

/-- 'pantographlaw15.SolveApart': WHATEVER THE INPUT: true; the input reads as it did. -/
def solveApartSpec : ChangeSpec := { name := "solveApart", fn := fun _ => fun
  | [d1, d2] => { results := [.lit (.bool true)], args := [d1, d2] }
  | _ => none }
def solveApartRow : OpenClaim := { program := "ytgpdjfalleadaaagreat", sum := "1a880420e7da5309caa339b33418ed735e2de12dd7c205cfc60625a5cec5a8ac", func := "pantograph/pantographlaw15.SolveApart", spec := "solveApart", unfollowed := true, recurses := true, named := ["math/bits.overflowError"], apart := false }
def SolveApartSaid : Prop := solveApartRow.holds Tryz.pinned (OpenSpec.ofChange solveApartSpec)

/-- ITS FALSE NEIGHBOUR: 'it returns false'. Refute it at one input. -/
def solveApartWrong : ChangeSpec := { name := "solveApart", fn := fun _ => fun
  | [d1, d2] => { results := [.lit (.bool false)], args := [d1, d2] }
  | _ => none }
def SolveApartWrongFalsely : Prop := solveApartRow.holds Tryz.pinned (OpenSpec.ofChange solveApartWrong)

/-- 'pantographlaw15.SolveCycle': WHATEVER THE INPUT: true; the input reads as it did. -/
def solveCycleSpec : ChangeSpec := { name := "solveCycle", fn := fun _ => fun
  | [d1, d2] => { results := [.lit (.bool true)], args := [d1, d2] }
  | _ => none }
def solveCycleRow : OpenClaim := { program := "ytgpdjfalleadaaagreat", sum := "1a880420e7da5309caa339b33418ed735e2de12dd7c205cfc60625a5cec5a8ac", func := "pantograph/pantographlaw15.SolveCycle", spec := "solveCycle", unfollowed := true, recurses := true, named := ["math/bits.overflowError"], apart := false }
def SolveCycleSaid : Prop := solveCycleRow.holds Tryz.pinned (OpenSpec.ofChange solveCycleSpec)

/-- ITS FALSE NEIGHBOUR: 'it returns false'. Refute it at one input. -/
def solveCycleWrong : ChangeSpec := { name := "solveCycle", fn := fun _ => fun
  | [d1, d2] => { results := [.lit (.bool false)], args := [d1, d2] }
  | _ => none }
def SolveCycleWrongFalsely : Prop := solveCycleRow.holds Tryz.pinned (OpenSpec.ofChange solveCycleWrong)

/- THE SECOND FORM. 'bulk': how many values and letters a reading holds, each counted each time it is reached (what is shared counts as often as it is met; a slice's spare places count too). A statement '..UptoSaid' is the law's where the arguments, and the package variables that the reading takes, are together of bulk at most 1048576: NARROWER than '..Said'. Prove '..Said' where nothing that the law and all that it calls make is longer than what came in: it says more and counts as full. Else prove '..UptoSaid'. A law counts once. -/
mutual
def uptoBulk {H : Type} : DataW H → Nat
  | .lit (.string bytes) => bytes.length + 1
  | .lit _ => 1
  | .nil => 1
  | .ptr d => uptoBulk d + 1
  | .slice elems spare => uptoBulkAll elems + uptoBulkAll spare + 1
  | .agg parts => uptoBulkAll parts + 1
  | .iface _ d => uptoBulk d + 1
  | .map entries => uptoBulkEntries entries + 1
  | .held _ => 1
def uptoBulkAll {H : Type} : List (DataW H) → Nat
  | [] => 0
  | d :: r => uptoBulk d + uptoBulkAll r
def uptoBulkEntries {H : Type} : List (Lit × DataW H) → Nat
  | [] => 0
  | x :: r => uptoBulkEntry x + uptoBulkEntries r
def uptoBulkEntry {H : Type} : Lit × DataW H → Nat
  | (.string bytes, d) => bytes.length + uptoBulk d + 1
  | (_, d) => uptoBulk d + 1
 end
def uptoSmall : (H : Type) → List (DataW H) → Bool := fun _ ds => decide (uptoBulkAll ds ≤ 1048576)
def OpenSpec.upto (s : _root_.Go.ChangeSpec) : _root_.Go.OpenSpec := { _root_.Go.OpenSpec.ofChange s with cond := some uptoSmall }

/-- 'pantographlaw15.SolvePhases', WHERE WHAT IT READS IS OF BULK AT MOST 1048576: true; the input reads as it did. -/
def solvePhasesUptoRow : OpenClaim := { program := "ytgpdjfalleadaaagreat", sum := "1a880420e7da5309caa339b33418ed735e2de12dd7c205cfc60625a5cec5a8ac", func := "pantograph/pantographlaw15.SolvePhases", spec := "solvePhases", unfollowed := true, recurses := true, named := ["math/bits.overflowError"], apart := false, narrowed := true }
def SolvePhasesUptoSaid : Prop := solvePhasesUptoRow.holds Tryz.pinned (OpenSpec.upto solvePhasesSpec)

/-- 'pantographlaw15.SolveAgain', WHERE WHAT IT READS IS OF BULK AT MOST 1048576: true; the input reads as it did. -/
def solveAgainUptoRow : OpenClaim := { program := "ytgpdjfalleadaaagreat", sum := "1a880420e7da5309caa339b33418ed735e2de12dd7c205cfc60625a5cec5a8ac", func := "pantograph/pantographlaw15.SolveAgain", spec := "solveAgain", unfollowed := true, recurses := true, named := ["math/bits.overflowError"], apart := false, narrowed := true }
def SolveAgainUptoSaid : Prop := solveAgainUptoRow.holds Tryz.pinned (OpenSpec.upto solveAgainSpec)

/-- 'pantographlaw15.SolveApart', WHERE WHAT IT READS IS OF BULK AT MOST 1048576: true; the input reads as it did. -/
def solveApartUptoRow : OpenClaim := { program := "ytgpdjfalleadaaagreat", sum := "1a880420e7da5309caa339b33418ed735e2de12dd7c205cfc60625a5cec5a8ac", func := "pantograph/pantographlaw15.SolveApart", spec := "solveApart", unfollowed := true, recurses := true, named := ["math/bits.overflowError"], apart := false, narrowed := true }
def SolveApartUptoSaid : Prop := solveApartUptoRow.holds Tryz.pinned (OpenSpec.upto solveApartSpec)

/-- 'pantographlaw15.SolveCycle', WHERE WHAT IT READS IS OF BULK AT MOST 1048576: true; the input reads as it did. -/
def solveCycleUptoRow : OpenClaim := { program := "ytgpdjfalleadaaagreat", sum := "1a880420e7da5309caa339b33418ed735e2de12dd7c205cfc60625a5cec5a8ac", func := "pantograph/pantographlaw15.SolveCycle", spec := "solveCycle", unfollowed := true, recurses := true, named := ["math/bits.overflowError"], apart := false, narrowed := true }
def SolveCycleUptoSaid : Prop := solveCycleUptoRow.holds Tryz.pinned (OpenSpec.upto solveCycleSpec)

end Rows
end Go.Proofs.YtgpdjfalleadaaaGreat
