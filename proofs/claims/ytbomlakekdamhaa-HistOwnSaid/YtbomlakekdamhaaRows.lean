/-
  No cell of these rows narrows 'for every input' (looked for: loops, veiled, ifaces, maps, wideKeys, modest, calm, conditions, laid).
  DERIVED. THE GIVEN ROWS OF THIS SEAT. 4 by the template 'for every input the law returns true; each argument reads behind the call as it read before'; 0 by the template 'total and deterministic' (their statements: YtbomlakekdamhaaTotals.lean).
  GIVEN WITH THE SEED: the statements are not yours to turn. If you find one false, say at which input.
  Laid BY PROGRAM, IN A SANDBOX (cutbox-rows.mjs): the forced cells as the released guide's own fill.sh prints them over the translation 614a833c7deead66… (all of the seat's roots in one cut). By AI agents, Wed Nov 11 2026. No macro, syntax, notation, axiom, sorry.
-/
import Derived.Test.YtbomlakekdamhaaChecked
import GoSem.Claim
import GoSem.ClaimJoined
import GoSem.ClaimMapViews
import Derived.JoinedTies
import Derived.KernelRfl
namespace Go.Proofs.Ytbomlakekdamhaa
/- THE CELL 'sum', in the pinned program and in every row, IS THE sha256 OF THE DUMP (.gsa) THAT YtbomlakekdamhaaProg.lean LOADS. Nothing in Lean hashes anything: it is a label: what it is worth is what the hold of that sum in a sandbox is worth. -/
noncomputable def Try.pinned : Pinned := { name := "ytbomlakekdamhaa", sum := "614a833c7deead66094bba570eb8afa30ad414a7404026744aca540140eacfe5", checked := Try.checked }
namespace Rows
def none {H : Type} : Left H := { results := [], args := [] }

/-- 'pantographlaw17.HistLast': WHATEVER THE INPUT: true; the input reads as it did. -/
def histLastSpec : ChangeSpec := { name := "histLast", fn := fun _ => fun
  | [d] => { results := [.lit (.bool true)], args := [d] }
  | _ => none }
def histLastRow : OpenClaim := { program := "ytbomlakekdamhaa", sum := "614a833c7deead66094bba570eb8afa30ad414a7404026744aca540140eacfe5", func := "pantograph/pantographlaw17.HistLast", spec := "histLast", apart := false }
def HistLastSaid : Prop := histLastRow.holds Try.pinned (OpenSpec.ofChange histLastSpec)

/-- ITS FALSE NEIGHBOUR: 'it returns false'. Refute it at one input. -/
def histLastWrong : ChangeSpec := { name := "histLast", fn := fun _ => fun
  | [d] => { results := [.lit (.bool false)], args := [d] }
  | _ => none }
def HistLastWrongFalsely : Prop := histLastRow.holds Try.pinned (OpenSpec.ofChange histLastWrong)

/-- 'pantographlaw17.HistBack': WHATEVER THE INPUT: true; the input reads as it did. -/
def histBackSpec : ChangeSpec := { name := "histBack", fn := fun _ => fun
  | [d1, d2] => { results := [.lit (.bool true)], args := [d1, d2] }
  | _ => none }
def histBackRow : OpenClaim := { program := "ytbomlakekdamhaa", sum := "614a833c7deead66094bba570eb8afa30ad414a7404026744aca540140eacfe5", func := "pantograph/pantographlaw17.HistBack", spec := "histBack", apart := false }
def HistBackSaid : Prop := histBackRow.holds Try.pinned (OpenSpec.ofChange histBackSpec)

/-- ITS FALSE NEIGHBOUR: 'it returns false'. Refute it at one input. -/
def histBackWrong : ChangeSpec := { name := "histBack", fn := fun _ => fun
  | [d1, d2] => { results := [.lit (.bool false)], args := [d1, d2] }
  | _ => none }
def HistBackWrongFalsely : Prop := histBackRow.holds Try.pinned (OpenSpec.ofChange histBackWrong)

/-- 'pantographlaw17.HistPush': WHATEVER THE INPUT: true; the input reads as it did. -/
def histPushSpec : ChangeSpec := { name := "histPush", fn := fun _ => fun
  | [d1, d2, d3] => { results := [.lit (.bool true)], args := [d1, d2, d3] }
  | _ => none }
def histPushRow : OpenClaim := { program := "ytbomlakekdamhaa", sum := "614a833c7deead66094bba570eb8afa30ad414a7404026744aca540140eacfe5", func := "pantograph/pantographlaw17.HistPush", spec := "histPush", apart := false }
def HistPushSaid : Prop := histPushRow.holds Try.pinned (OpenSpec.ofChange histPushSpec)

/-- ITS FALSE NEIGHBOUR: 'it returns false'. Refute it at one input. -/
def histPushWrong : ChangeSpec := { name := "histPush", fn := fun _ => fun
  | [d1, d2, d3] => { results := [.lit (.bool false)], args := [d1, d2, d3] }
  | _ => none }
def HistPushWrongFalsely : Prop := histPushRow.holds Try.pinned (OpenSpec.ofChange histPushWrong)

/-- 'pantographlaw17.HistOwn': WHATEVER THE INPUT: true; the input reads as it did. -/
def histOwnSpec : ChangeSpec := { name := "histOwn", fn := fun _ => fun
  | [d1, d2] => { results := [.lit (.bool true)], args := [d1, d2] }
  | _ => none }
def histOwnRow : OpenClaim := { program := "ytbomlakekdamhaa", sum := "614a833c7deead66094bba570eb8afa30ad414a7404026744aca540140eacfe5", func := "pantograph/pantographlaw17.HistOwn", spec := "histOwn", apart := false }
def HistOwnSaid : Prop := histOwnRow.holds Try.pinned (OpenSpec.ofChange histOwnSpec)

/-- ITS FALSE NEIGHBOUR: 'it returns false'. Refute it at one input. -/
def histOwnWrong : ChangeSpec := { name := "histOwn", fn := fun _ => fun
  | [d1, d2] => { results := [.lit (.bool false)], args := [d1, d2] }
  | _ => none }
def HistOwnWrongFalsely : Prop := histOwnRow.holds Try.pinned (OpenSpec.ofChange histOwnWrong)

/- THE SECOND FORM. 'bulk': how many values and letters a reading holds, each counted each time it is reached (what is shared counts as often as it is met; a slice's spare places count too). A statement '..UptoSaid' is the law's where the arguments, and the package variables that the reading takes, are together of bulk at most 1048576: NARROWER than '..Said'. Prove '..Said' where nothing that the law and all that it calls make is longer than what came in: it says more and counts as full. Else prove '..UptoSaid'. A law counts once. -/
mutual
def uptoBulk {H : Type} : DataW H → Nat
  | .lit (.string bytes) => bytes.length + 1
  | .lit _ => 1
  | .nil => 1
  | .ptr d => uptoBulk d + 1
  | .slice elems spare => uptoBulkAll elems + uptoBulkAll spare + 1
  | .agg parts => uptoBulkAll parts + 1
  | .iface _ d => uptoBulk d + 1
  | .map entries => uptoBulkEntries entries + 1
  | .held _ => 1
def uptoBulkAll {H : Type} : List (DataW H) → Nat
  | [] => 0
  | d :: r => uptoBulk d + uptoBulkAll r
def uptoBulkEntries {H : Type} : List (Lit × DataW H) → Nat
  | [] => 0
  | x :: r => uptoBulkEntry x + uptoBulkEntries r
def uptoBulkEntry {H : Type} : Lit × DataW H → Nat
  | (.string bytes, d) => bytes.length + uptoBulk d + 1
  | (_, d) => uptoBulk d + 1
 end
def uptoSmall : (H : Type) → List (DataW H) → Bool := fun _ ds => decide (uptoBulkAll ds ≤ 1048576)
def OpenSpec.upto (s : _root_.Go.ChangeSpec) : _root_.Go.OpenSpec := { _root_.Go.OpenSpec.ofChange s with cond := some uptoSmall }

/-- 'pantographlaw17.HistLast', WHERE WHAT IT READS IS OF BULK AT MOST 1048576: true; the input reads as it did. -/
def histLastUptoRow : OpenClaim := { program := "ytbomlakekdamhaa", sum := "614a833c7deead66094bba570eb8afa30ad414a7404026744aca540140eacfe5", func := "pantograph/pantographlaw17.HistLast", spec := "histLast", apart := false, narrowed := true }
def HistLastUptoSaid : Prop := histLastUptoRow.holds Try.pinned (OpenSpec.upto histLastSpec)

/-- 'pantographlaw17.HistBack', WHERE WHAT IT READS IS OF BULK AT MOST 1048576: true; the input reads as it did. -/
def histBackUptoRow : OpenClaim := { program := "ytbomlakekdamhaa", sum := "614a833c7deead66094bba570eb8afa30ad414a7404026744aca540140eacfe5", func := "pantograph/pantographlaw17.HistBack", spec := "histBack", apart := false, narrowed := true }
def HistBackUptoSaid : Prop := histBackUptoRow.holds Try.pinned (OpenSpec.upto histBackSpec)

/-- 'pantographlaw17.HistPush', WHERE WHAT IT READS IS OF BULK AT MOST 1048576: true; the input reads as it did. -/
def histPushUptoRow : OpenClaim := { program := "ytbomlakekdamhaa", sum := "614a833c7deead66094bba570eb8afa30ad414a7404026744aca540140eacfe5", func := "pantograph/pantographlaw17.HistPush", spec := "histPush", apart := false, narrowed := true }
def HistPushUptoSaid : Prop := histPushUptoRow.holds Try.pinned (OpenSpec.upto histPushSpec)

/-- 'pantographlaw17.HistOwn', WHERE WHAT IT READS IS OF BULK AT MOST 1048576: true; the input reads as it did. -/
def histOwnUptoRow : OpenClaim := { program := "ytbomlakekdamhaa", sum := "614a833c7deead66094bba570eb8afa30ad414a7404026744aca540140eacfe5", func := "pantograph/pantographlaw17.HistOwn", spec := "histOwn", apart := false, narrowed := true }
def HistOwnUptoSaid : Prop := histOwnUptoRow.holds Try.pinned (OpenSpec.upto histOwnSpec)

end Rows
end Go.Proofs.Ytbomlakekdamhaa
