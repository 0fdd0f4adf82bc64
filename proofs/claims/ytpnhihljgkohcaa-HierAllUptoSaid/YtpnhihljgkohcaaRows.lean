/-
  No cell of these rows narrows 'for every input' (looked for: loops, veiled, ifaces, maps, wideKeys, modest, calm, conditions, laid).
  DERIVED. THE GIVEN ROWS OF THIS SEAT. 5 by the template 'for every input the law returns true; each argument reads behind the call as it read before'; 0 by the template 'total and deterministic' (their statements: YtpnhihljgkohcaaTotals.lean).
  GIVEN WITH THE SEED: the statements are not yours to turn. If you find one false, say at which input.
  Laid BY PROGRAM, IN A SANDBOX (cutbox-rows.mjs): the forced cells as the released guide's own fill.sh prints them over the translation f2f6ad881283d08e… (all of the seat's roots in one cut). By AI agents, Wed Nov 11 2026. No macro, syntax, notation, axiom, sorry.
-/
import Derived.Test.YtpnhihljgkohcaaChecked
import GoSem.Claim
import GoSem.ClaimJoined
import GoSem.ClaimMapViews
import Derived.JoinedTies
import Derived.KernelRfl
namespace Go.Proofs.Ytpnhihljgkohcaa
/- THE CELL 'sum', in the pinned program and in every row, IS THE sha256 OF THE DUMP (.gsa) THAT YtpnhihljgkohcaaProg.lean LOADS. Nothing in Lean hashes anything: it is a label: what it is worth is what the hold of that sum in a sandbox is worth. -/
noncomputable def Try.pinned : Pinned := { name := "ytpnhihljgkohcaa", sum := "f2f6ad881283d08e5a1043bf8f0e7bcf52dc8f7e56cab04c91408b951ced3889", checked := Try.checked }
namespace Rows
def none {H : Type} : Left H := { results := [], args := [] }

/-- 'pantographlaw12.HierBest': WHATEVER THE INPUT: true; the input reads as it did. -/
def hierBestSpec : ChangeSpec := { name := "hierBest", fn := fun _ => fun
  | [d1, d2, d3, d4] => { results := [.lit (.bool true)], args := [d1, d2, d3, d4] }
  | _ => none }
def hierBestRow : OpenClaim := { program := "ytpnhihljgkohcaa", sum := "f2f6ad881283d08e5a1043bf8f0e7bcf52dc8f7e56cab04c91408b951ced3889", func := "pantograph/pantographlaw12.HierBest", spec := "hierBest", unfollowed := true, recurses := true, named := ["math/bits.overflowError"], apart := false }
def HierBestSaid : Prop := hierBestRow.holds Try.pinned (OpenSpec.ofChange hierBestSpec)

/-- ITS FALSE NEIGHBOUR: 'it returns false'. Refute it at one input. -/
def hierBestWrong : ChangeSpec := { name := "hierBest", fn := fun _ => fun
  | [d1, d2, d3, d4] => { results := [.lit (.bool false)], args := [d1, d2, d3, d4] }
  | _ => none }
def HierBestWrongFalsely : Prop := hierBestRow.holds Try.pinned (OpenSpec.ofChange hierBestWrong)

/-- 'pantographlaw12.HierStays': WHATEVER THE INPUT: true; the input reads as it did. -/
def hierStaysSpec : ChangeSpec := { name := "hierStays", fn := fun _ => fun
  | [d1, d2] => { results := [.lit (.bool true)], args := [d1, d2] }
  | _ => none }
def hierStaysRow : OpenClaim := { program := "ytpnhihljgkohcaa", sum := "f2f6ad881283d08e5a1043bf8f0e7bcf52dc8f7e56cab04c91408b951ced3889", func := "pantograph/pantographlaw12.HierStays", spec := "hierStays", unfollowed := true, recurses := true, named := ["math/bits.overflowError"], apart := false }
def HierStaysSaid : Prop := hierStaysRow.holds Try.pinned (OpenSpec.ofChange hierStaysSpec)

/-- ITS FALSE NEIGHBOUR: 'it returns false'. Refute it at one input. -/
def hierStaysWrong : ChangeSpec := { name := "hierStays", fn := fun _ => fun
  | [d1, d2] => { results := [.lit (.bool false)], args := [d1, d2] }
  | _ => none }
def HierStaysWrongFalsely : Prop := hierStaysRow.holds Try.pinned (OpenSpec.ofChange hierStaysWrong)

/-- 'pantographlaw12.HierNamed': WHATEVER THE INPUT: true; the input reads as it did. -/
def hierNamedSpec : ChangeSpec := { name := "hierNamed", fn := fun _ => fun
  | [d1, d2, d3] => { results := [.lit (.bool true)], args := [d1, d2, d3] }
  | _ => none }
def hierNamedRow : OpenClaim := { program := "ytpnhihljgkohcaa", sum := "f2f6ad881283d08e5a1043bf8f0e7bcf52dc8f7e56cab04c91408b951ced3889", func := "pantograph/pantographlaw12.HierNamed", spec := "hierNamed", unfollowed := true, recurses := true, named := ["math/bits.overflowError"], apart := false }
def HierNamedSaid : Prop := hierNamedRow.holds Try.pinned (OpenSpec.ofChange hierNamedSpec)

/-- ITS FALSE NEIGHBOUR: 'it returns false'. Refute it at one input. -/
def hierNamedWrong : ChangeSpec := { name := "hierNamed", fn := fun _ => fun
  | [d1, d2, d3] => { results := [.lit (.bool false)], args := [d1, d2, d3] }
  | _ => none }
def HierNamedWrongFalsely : Prop := hierNamedRow.holds Try.pinned (OpenSpec.ofChange hierNamedWrong)

/-- 'pantographlaw12.HierTells': WHATEVER THE INPUT: true; the input reads as it did. -/
def hierTellsSpec : ChangeSpec := { name := "hierTells", fn := fun _ => fun
  | [d1, d2, d3] => { results := [.lit (.bool true)], args := [d1, d2, d3] }
  | _ => none }
def hierTellsRow : OpenClaim := { program := "ytpnhihljgkohcaa", sum := "f2f6ad881283d08e5a1043bf8f0e7bcf52dc8f7e56cab04c91408b951ced3889", func := "pantograph/pantographlaw12.HierTells", spec := "hierTells", unfollowed := true, recurses := true, named := ["math/bits.overflowError"], apart := false }
def HierTellsSaid : Prop := hierTellsRow.holds Try.pinned (OpenSpec.ofChange hierTellsSpec)

/-- ITS FALSE NEIGHBOUR: 'it returns false'. Refute it at one input. -/
def hierTellsWrong : ChangeSpec := { name := "hierTells", fn := fun _ => fun
  | [d1, d2, d3] => { results := [.lit (.bool false)], args := [d1, d2, d3] }
  | _ => none }
def HierTellsWrongFalsely : Prop := hierTellsRow.holds Try.pinned (OpenSpec.ofChange hierTellsWrong)

/-- 'pantographlaw12.HierAll': WHATEVER THE INPUT: true; the input reads as it did. -/
def hierAllSpec : ChangeSpec := { name := "hierAll", fn := fun _ => fun
  | [d1, d2] => { results := [.lit (.bool true)], args := [d1, d2] }
  | _ => none }
def hierAllRow : OpenClaim := { program := "ytpnhihljgkohcaa", sum := "f2f6ad881283d08e5a1043bf8f0e7bcf52dc8f7e56cab04c91408b951ced3889", func := "pantograph/pantographlaw12.HierAll", spec := "hierAll", unfollowed := true, recurses := true, named := ["math/bits.overflowError"], apart := false }
def HierAllSaid : Prop := hierAllRow.holds Try.pinned (OpenSpec.ofChange hierAllSpec)

/-- ITS FALSE NEIGHBOUR: 'it returns false'. Refute it at one input. -/
def hierAllWrong : ChangeSpec := { name := "hierAll", fn := fun _ => fun
  | [d1, d2] => { results := [.lit (.bool false)], args := [d1, d2] }
  | _ => none }
def HierAllWrongFalsely : Prop := hierAllRow.holds Try.pinned (OpenSpec.ofChange hierAllWrong)

/- THE SECOND FORM. 'bulk': how many values and letters a reading holds, each counted each time it is reached (what is shared counts as often as it is met; a slice's spare places count too). A statement '..UptoSaid' is the law's where the arguments, and the package variables that the reading takes, are together of bulk at most 1048576: NARROWER than '..Said'. Prove '..Said' where nothing that the law and all that it calls make is longer than what came in: it says more and counts as full. Else prove '..UptoSaid'. A law counts once. -/
mutual
def uptoBulk {H : Type} : DataW H → Nat
  | .lit (.string bytes) => bytes.length + 1
  | .lit _ => 1
  | .nil => 1
  | .ptr d => uptoBulk d + 1
  | .slice elems spare => uptoBulkAll elems + uptoBulkAll spare + 1
  | .agg parts => uptoBulkAll parts + 1
  | .iface _ d => uptoBulk d + 1
  | .map entries => uptoBulkEntries entries + 1
  | .held _ => 1
def uptoBulkAll {H : Type} : List (DataW H) → Nat
  | [] => 0
  | d :: r => uptoBulk d + uptoBulkAll r
def uptoBulkEntries {H : Type} : List (Lit × DataW H) → Nat
  | [] => 0
  | x :: r => uptoBulkEntry x + uptoBulkEntries r
def uptoBulkEntry {H : Type} : Lit × DataW H → Nat
  | (.string bytes, d) => bytes.length + uptoBulk d + 1
  | (_, d) => uptoBulk d + 1
 end
def uptoSmall : (H : Type) → List (DataW H) → Bool := fun _ ds => decide (uptoBulkAll ds ≤ 1048576)
def OpenSpec.upto (s : _root_.Go.ChangeSpec) : _root_.Go.OpenSpec := { _root_.Go.OpenSpec.ofChange s with cond := some uptoSmall }

/-- 'pantographlaw12.HierBest', WHERE WHAT IT READS IS OF BULK AT MOST 1048576: true; the input reads as it did. -/
def hierBestUptoRow : OpenClaim := { program := "ytpnhihljgkohcaa", sum := "f2f6ad881283d08e5a1043bf8f0e7bcf52dc8f7e56cab04c91408b951ced3889", func := "pantograph/pantographlaw12.HierBest", spec := "hierBest", unfollowed := true, recurses := true, named := ["math/bits.overflowError"], apart := false, narrowed := true }
def HierBestUptoSaid : Prop := hierBestUptoRow.holds Try.pinned (OpenSpec.upto hierBestSpec)

/-- 'pantographlaw12.HierStays', WHERE WHAT IT READS IS OF BULK AT MOST 1048576: true; the input reads as it did. -/
def hierStaysUptoRow : OpenClaim := { program := "ytpnhihljgkohcaa", sum := "f2f6ad881283d08e5a1043bf8f0e7bcf52dc8f7e56cab04c91408b951ced3889", func := "pantograph/pantographlaw12.HierStays", spec := "hierStays", unfollowed := true, recurses := true, named := ["math/bits.overflowError"], apart := false, narrowed := true }
def HierStaysUptoSaid : Prop := hierStaysUptoRow.holds Try.pinned (OpenSpec.upto hierStaysSpec)

/-- 'pantographlaw12.HierNamed', WHERE WHAT IT READS IS OF BULK AT MOST 1048576: true; the input reads as it did. -/
def hierNamedUptoRow : OpenClaim := { program := "ytpnhihljgkohcaa", sum := "f2f6ad881283d08e5a1043bf8f0e7bcf52dc8f7e56cab04c91408b951ced3889", func := "pantograph/pantographlaw12.HierNamed", spec := "hierNamed", unfollowed := true, recurses := true, named := ["math/bits.overflowError"], apart := false, narrowed := true }
def HierNamedUptoSaid : Prop := hierNamedUptoRow.holds Try.pinned (OpenSpec.upto hierNamedSpec)

/-- 'pantographlaw12.HierTells', WHERE WHAT IT READS IS OF BULK AT MOST 1048576: true; the input reads as it did. -/
def hierTellsUptoRow : OpenClaim := { program := "ytpnhihljgkohcaa", sum := "f2f6ad881283d08e5a1043bf8f0e7bcf52dc8f7e56cab04c91408b951ced3889", func := "pantograph/pantographlaw12.HierTells", spec := "hierTells", unfollowed := true, recurses := true, named := ["math/bits.overflowError"], apart := false, narrowed := true }
def HierTellsUptoSaid : Prop := hierTellsUptoRow.holds Try.pinned (OpenSpec.upto hierTellsSpec)

/-- 'pantographlaw12.HierAll', WHERE WHAT IT READS IS OF BULK AT MOST 1048576: true; the input reads as it did. -/
def hierAllUptoRow : OpenClaim := { program := "ytpnhihljgkohcaa", sum := "f2f6ad881283d08e5a1043bf8f0e7bcf52dc8f7e56cab04c91408b951ced3889", func := "pantograph/pantographlaw12.HierAll", spec := "hierAll", unfollowed := true, recurses := true, named := ["math/bits.overflowError"], apart := false, narrowed := true }
def HierAllUptoSaid : Prop := hierAllUptoRow.holds Try.pinned (OpenSpec.upto hierAllSpec)

end Rows
end Go.Proofs.Ytpnhihljgkohcaa
