/- Walks: what the functions compute. -/
import Derived.Test.YthoooolflmbmbaaGreatGrA
namespace Go.Proofs.YthoooolflmbmbaaGreat
open Go.RowKit
set_option linter.unusedVariables false
set_option linter.unusedSimpArgs false
set_option maxRecDepth 10000
theorem fi_neg (F:Option Nat):decide (fi F<0)=decide (F=none):=by
  congr 1; apply propext
  cases F with
  | none=>simp [fi]
  | some k=>simp [fi]
theorem c_First {M N9 : List Nat} {w : World} {vl : Value} {cs : List CR} {z0 : Int} (hL : Lay rdC N9 w vl cs) (hbd : Bd M w) (hsm : ∀ c ∈ cs, SmC 1099511627776 c) :
    Ret Tryz.prog 15 #[vl,.int .i64 z0] w (fun x w'=>x=.int .i64 (fi (firstW (List.range (held z0)) (wsOf (held z0) cs) 0))∧Mod [] w w'):=by
 refine Ret.of (vs:=[vl,.int .i64 z0]) (n:=14) Tryz.func15 rfl rfl rfl rfl ?_
 have C0:Mod [] w w:=Mod.refl _ _
 refine W.sr<|L.b rfl<|L.z<|W.sr<|L.k rfl<|L.k rfl<|L.c rfl (c_joined hL hbd hsm) ?_
 rintro _ w1 ⟨v10,r10,rfl,ho,hu,C1⟩
 replace C0:=C0.trans C1;clear C1
 refine L.k rfl<|L.ex rfl rfl<|L.ex rfl rfl<|L.b rfl<|L.b rfl<|L.z<|W.sr<|L.k rfl<|L.b rfl ?_
 refine L.z<|W.ret<|X.result1 rfl (.tmp rfl .nil) ?_
 exact ⟨rfl,C0⟩
theorem c_Forest {M N9 : List Nat} {w : World} {vl : Value} {cs : List CR} {z0 : Int} (hL : Lay rdC N9 w vl cs) (hbd : Bd M w) (hsm : ∀ c ∈ cs, SmC 1099511627776 c) :
    Ret Tryz.prog 70 #[vl,.int .i64 z0] w (fun x w'=>x=.bool (decide ((firstW (List.range (held z0)) (wsOf (held z0) cs) 0)=none))∧Mod [] w w'):=by
 refine Ret.of (vs:=[vl,.int .i64 z0]) (n:=9) Tryz.func70 rfl rfl rfl rfl ?_
 have C0:Mod [] w w:=Mod.refl _ _
 refine W.sr<|L.b rfl<|L.z<|W.sr<|L.k rfl<|L.k rfl<|L.c rfl (c_First hL hbd hsm) ?_
 rintro _ w1 ⟨rfl,C1⟩
 replace C0:=C0.trans C1;clear C1
 refine L.v ((R1.lt rfl rfl).asB (c:=(decide ((firstW (List.range (held z0)) (wsOf (held z0) cs) 0)=none))) (fi_neg _)) rfl<|L.b rfl<|L.z<|W.ret<|X.result1 rfl (.tmp rfl .nil) ?_
 exact ⟨rfl,C0⟩
end Go.Proofs.YthoooolflmbmbaaGreat
