/- Walks: what the functions compute. -/
import Derived.Test.YtpnhihljgkohcaaG10B
namespace Go.Proofs.Ytpnhihljgkohcaa
open Go.RowKit
set_option linter.unusedVariables false
set_option linter.unusedSimpArgs false
set_option maxRecDepth 10000

/-- Is a sum implied, by the answer's rows? -/
def impD (z0 : Int) (rs : List (List Rat)) (ok : Bool) (c : CR) : Bool := !ok || (isC c (heldG z0 : Int) && (decide (leadD (reduceD rs (rowD (heldG z0) (conT c))) = heldG z0) && decide ((reduceD rs (rowD (heldG z0) (conT c))).getD (heldG z0) 0 = 0)))
/-- The number that a variable must be, by the answer's rows. -/
def fixDD (z0 v : Int) (rs : List (List Rat)) (ok : Bool) : Option Rat := if ok = true ∧ 0 ≤ v ∧ v < (heldG z0 : Int) then fixD (heldG z0) v.toNat rs else none
theorem c_hold10 {w : World} {z0 : Int} :
    Ret Try.prog 38 #[.int .i64 z0] w (fun r w' => r = .int .i64 ((heldG z0 : Nat) : Int) ∧ Mod [] w w') := by
 refine Ret.of (vs := [.int .i64 z0]) (n := 6) Try.func38 rfl rfl rfl rfl ?_
 have hm0 : Mod [] w w := Mod.refl _ _
 refine W.seq <| W.region <| L.v (R1.assign rfl) rfl <| L.nil <| X.seq <| W.seq <| W.region <| L.v (R1.move rfl) rfl <| L.v (R1.maxI rfl rfl) rfl <| L.v (R1.minI rfl rfl) rfl <| L.v (R1.assign rfl) rfl ?_
 refine L.nil <| X.seq <| W.ret <| X.result1 rfl (.tmp rfl .nil) <| ⟨?_, hm0⟩
 congr 1; unfold heldG; omega

theorem c_Consistent10 {M : List Nat} {w : World} {vl : Value} {cs : List CR} {z0 : Int} {t : Nat} (hL : Lay rdC M w vl cs) (hbd : Bd M w) (oks : OkS z0 t cs) :
    Ret Try.prog 17 #[vl, .int .i64 z0] w (fun r w' => ∃ rs ok, AInv (heldG z0) t (vecs (heldG z0) cs) rs ok ∧ r = .bool ok ∧ Mod [] w w') := by
 refine Ret.of (vs := [vl, .int .i64 z0]) (n := 15) Try.func17 rfl rfl rfl rfl ?_
 have hm0 : Mod [] w w := Mod.refl _ _
 refine W.seq <| W.region <| L.v (R1.assign rfl) rfl <| L.nil <| X.seq <| W.seq <| W.region <| L.v (R1.move rfl) rfl <| L.v (R1.move rfl) rfl <| L.call rfl (c_hold10) rfl ?_
 rintro _ w1 ⟨rfl, hm1⟩
 replace hL := hL.gr hm1
 replace hbd := hbd.gr hm1
 replace hm0 := hm0.trans hm1
 clear hm1
 refine L.call rfl (c_solve10 hL hbd oks) rfl ?_
 rintro _ w2 ⟨vR, rs, ok, rfl, hlR, hA, hm2⟩
 replace hm0 := hm0.trans hm2
 clear hm2
 refine L.v (R1.move rfl) rfl <| L.v (R1.extract rfl rfl) rfl <| L.v (R1.extract rfl rfl) rfl <| L.v (R1.assign rfl) rfl <| L.v (R1.assign rfl) rfl <| L.nil <| X.seq <| W.seq <| W.region <| L.v (R1.move rfl) rfl <| L.v (R1.assign rfl) rfl ?_
 refine L.nil <| X.seq <| W.ret <| X.result1 rfl (.tmp rfl .nil) ?_
 exact ⟨rs, ok, hA, rfl, hm0⟩

end Go.Proofs.Ytpnhihljgkohcaa
