/- Walks: what the functions compute. -/
import Derived.Test.YtedokfpoajfflaaGreatGrA
namespace Go.Proofs.YtedokfpoajfflaaGreat
open Go.RowKit
set_option linter.unusedVariables false
set_option linter.unusedSimpArgs false
set_option maxRecDepth 10000
theorem fi_neg (F:Option Nat):decide (fi F<0)=decide (F=none):=by
  congr 1; apply propext
  cases F with
  | none=>simp [fi]
  | some k=>simp [fi]
theorem c_First {M N9 : List Nat} {w : World} {vl : Value} {cs : List CR} {z0 : Int} (hL : Lay rdC N9 w vl cs) (hbd : Bd M w) (hsm : ∀ c ∈ cs, SmC 1099511627776 c) :
    Ret Tryz.prog 17 #[vl,.int .i64 z0] w (fun x w'=>x=.int .i64 (fi (firstW (List.range (held z0)) (wsOf (held z0) cs) 0))∧Mod [] w w'):=by
 refine Ret.of (vs:=[vl,.int .i64 z0]) (n:=14) Tryz.func17 rfl rfl rfl rfl ?_
 have hm0:Mod [] w w:=Mod.refl _ _
 refine W.seq<|W.region<|L.a rfl rfl<|L.nil<|X.seq<|W.seq<|W.region<|L.m rfl rfl<|L.m rfl rfl<|L.call rfl (c_joined hL hbd hsm) rfl ?_
 rintro _ w1 ⟨v10,r10,rfl,ho,hu,hm1⟩
 replace hm0:=hm0.trans hm1;clear hm1
 refine L.m rfl rfl<|L.v (R1.extract rfl rfl) rfl<|L.v (R1.extract rfl rfl) rfl<|L.a rfl rfl<|L.a rfl rfl<|L.nil<|X.seq<|W.seq<|W.region<|L.m rfl rfl<|L.a rfl rfl ?_
 refine L.nil<|X.seq<|W.ret<|X.result1 rfl (.tmp rfl .nil) ?_
 exact ⟨rfl,hm0⟩
theorem c_Forest {M N9 : List Nat} {w : World} {vl : Value} {cs : List CR} {z0 : Int} (hL : Lay rdC N9 w vl cs) (hbd : Bd M w) (hsm : ∀ c ∈ cs, SmC 1099511627776 c) :
    Ret Tryz.prog 70 #[vl,.int .i64 z0] w (fun x w'=>x=.bool (decide ((firstW (List.range (held z0)) (wsOf (held z0) cs) 0)=none))∧Mod [] w w'):=by
 refine Ret.of (vs:=[vl,.int .i64 z0]) (n:=9) Tryz.func70 rfl rfl rfl rfl ?_
 have hm0:Mod [] w w:=Mod.refl _ _
 refine W.seq<|W.region<|L.a rfl rfl<|L.nil<|X.seq<|W.seq<|W.region<|L.m rfl rfl<|L.m rfl rfl<|L.call rfl (c_First hL hbd hsm) rfl ?_
 rintro _ w1 ⟨rfl,hm1⟩
 replace hm0:=hm0.trans hm1;clear hm1
 refine L.v ((R1.lt rfl rfl).asB (c:=(decide ((firstW (List.range (held z0)) (wsOf (held z0) cs) 0)=none))) (fi_neg _)) rfl<|L.a rfl rfl<|L.nil<|X.seq<|W.ret<|X.result1 rfl (.tmp rfl .nil) ?_
 exact ⟨rfl,hm0⟩
end Go.Proofs.YtedokfpoajfflaaGreat
