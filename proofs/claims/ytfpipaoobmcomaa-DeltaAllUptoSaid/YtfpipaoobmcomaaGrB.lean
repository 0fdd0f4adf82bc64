/- Walks: what the functions compute. -/
import Derived.Test.YtfpipaoobmcomaaGrA
namespace Go.Proofs.Ytfpipaoobmcomaa
open Go.RowKit
set_option linter.unusedVariables false
set_option linter.unusedSimpArgs false
set_option maxRecDepth 10000

theorem fi_neg (F : Option Nat) : decide (fi F < 0) = decide (F = none) := by
  congr 1; apply propext
  cases F with
  | none => simp [fi]
  | some k => simp [fi]
theorem take_snoc_lab {l : List Nat} {i : Nat} (hi : i < l.length) : ints (l.take i) ++ [.int .i64 ((lab l i : Nat) : Int)] = ints (l.take (i + 1)) := by
  rw [List.take_succ_eq_append_getElem hi, ints_append, lab_eq hi]; rfl

theorem c_First {M N9 : List Nat} {w : World} {vl : Value} {cs : List CR} {z0 : Int} (hL : Lay rdC N9 w vl cs) (hbd : Bd M w) (hsm : ∀ c ∈ cs, SmC 1099511627776 c) :
    Ret Try.prog 57 #[vl, .int .i64 z0] w (fun x w' => x = .int .i64 (fi (firstW (List.range (held z0)) (wsOf (held z0) cs) 0)) ∧ Mod [] w w') := by
 refine Ret.of (vs := [vl, .int .i64 z0]) (n := 14) Try.func57 rfl rfl rfl rfl ?_
 have hm0 : Mod [] w w := Mod.refl _ _
 refine W.seq <| W.region <| L.v (R1.assign rfl) rfl <| L.nil <| X.seq <| W.seq <| W.region <| L.v (R1.move rfl) rfl <| L.v (R1.move rfl) rfl <| L.call rfl (c_joined hL hbd hsm) rfl ?_
 rintro _ w1 ⟨v10, r10, rfl, ho, hu, hm1⟩
 replace hm0 := hm0.trans hm1
 clear hm1
 refine L.v (R1.move rfl) rfl <| L.v (R1.extract rfl rfl) rfl <| L.v (R1.extract rfl rfl) rfl <| L.v (R1.assign rfl) rfl <| L.v (R1.assign rfl) rfl <| L.nil <| X.seq <| W.seq <| W.region <| L.v (R1.move rfl) rfl <| L.v (R1.assign rfl) rfl ?_
 refine L.nil <| X.seq <| W.ret <| X.result1 rfl (.tmp rfl .nil) ?_
 exact ⟨rfl, hm0⟩

theorem c_Forest {M N9 : List Nat} {w : World} {vl : Value} {cs : List CR} {z0 : Int} (hL : Lay rdC N9 w vl cs) (hbd : Bd M w) (hsm : ∀ c ∈ cs, SmC 1099511627776 c) :
    Ret Try.prog 46 #[vl, .int .i64 z0] w (fun x w' => x = .bool (decide ((firstW (List.range (held z0)) (wsOf (held z0) cs) 0) = none)) ∧ Mod [] w w') := by
 refine Ret.of (vs := [vl, .int .i64 z0]) (n := 9) Try.func46 rfl rfl rfl rfl ?_
 have hm0 : Mod [] w w := Mod.refl _ _
 refine W.seq <| W.region <| L.v (R1.assign rfl) rfl <| L.nil <| X.seq <| W.seq <| W.region <| L.v (R1.move rfl) rfl <| L.v (R1.move rfl) rfl <| L.call rfl (c_First hL hbd hsm) rfl ?_
 rintro _ w1 ⟨rfl, hm1⟩
 replace hm0 := hm0.trans hm1
 clear hm1
 refine L.v ((R1.lt rfl rfl).asB (c := (decide ((firstW (List.range (held z0)) (wsOf (held z0) cs) 0) = none))) (fi_neg _)) rfl <| L.v (R1.assign rfl) rfl <| L.nil <| X.seq <| W.ret <| X.result1 rfl (.tmp rfl .nil) ?_
 exact ⟨rfl, hm0⟩

end Go.Proofs.Ytfpipaoobmcomaa
