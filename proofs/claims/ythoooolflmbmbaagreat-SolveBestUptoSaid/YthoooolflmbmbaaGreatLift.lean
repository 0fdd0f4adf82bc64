/- From a walk to the given row: a law that answers true and leaves its arguments as they were. -/
import Derived.Test.YthoooolflmbmbaaGreatRows
import Derived.Test.YthoooolflmbmbaaGreatOwn
import Derived.SizedLaws
import Derived.OpenShut
import Derived.ShutString
import Derived.ChangeOld
import Derived.Lib.SmallJoins
import Derived.Deep.Slices
import Derived.Deep.CondSized
namespace Go.Proofs.YthoooolflmbmbaaGreat
open Go.ChangeShapes Go.WideShapes Go.ChangeAt Go.RowKit
open Go.ChangeMaps (open_string shut_string)
set_option linter.unusedVariables false
set_option linter.unusedSimpArgs false
theorem own_:ownKnob Tryz.prog.godebug=none:=by kernel_rfl
theorem laidOut_:laidOutB Tryz.prog=true:=by kernel_rfl
theorem trodAll_below {H : Type} {enc : TypeId × Value → H} {P : Program} (hl : laidOutB P = true) {W W' : World} (hb : Below W.heap.size W W') :
    ∀ (ts:List TypeId) (vs:List Value) (ds:List (DataW H)) (ps:List MemPlace),(ts.all fun t=>P.readableRec t && decide (t<P.types.size))=true →
      DataW.TrodAll enc P W 0 (fun _=>true) true ts vs ds ps→(∀ x∈ps,x.block<W.heap.size)→DataW.TrodAll enc P W' 0 (fun b=>decide (b<W.heap.size)) true ts vs ds ps
  | [],[],[],ps,_,h,_=>h
  | t :: ts,v :: vs,d :: ds,ps,ht,h,hlt=>by
    obtain ⟨p,q,h1,h2,rfl⟩:=h
    simp only [List.all_cons,Bool.and_eq_true,decide_eq_true_eq] at ht
    exact ⟨p,q,Below.trod hl ht.1.1 ht.1.2 h1 hb (fun x hx=>hlt x (by simp [hx])),trodAll_below hl hb ts vs ds q (by simpa using ht.2) h2 (fun x hx=>hlt x (by simp [hx])),rfl⟩
  | [],_ :: _,_,_,_,h,_=>by simp [DataW.TrodAll] at h
  | [],[],_ :: _,_,_,h,_=>by simp [DataW.TrodAll] at h
  | _ :: _,[],_,_,_,h,_=>by simp [DataW.TrodAll] at h
  | _ :: _,_ :: _,[],_,_,h,_=>by simp [DataW.TrodAll] at h
def Walks (P:Program) (fn:Func) (f:FuncId):Prop :=
  ∀ (H:Type) (enc:TypeId × Value→H) (W:World) (base:Nat) (args:Array Value) (ds:List (DataW H)) (p:List MemPlace),
    (∀ (j:Nat) t v,fn.params[j]?=some t→args[j]?=some v→Value.okWide P W .any base t v) →
    DataW.TrodAll enc P W 0 (fun _=>true) true fn.params.toList args.toList ds p →
    (DataW.weightsEach P fn.params.toList ds).all (·≤reachBytes)=true →
    Ret P f args W (fun r w'=>r=.bool true∧Mod [] W w')
theorem trodAll_length {H:Type} {enc:TypeId × Value→H} {P:Program} {W:World}:∀ {ts:List TypeId} {vs:List Value} {ds:List (DataW H)} {ps:List MemPlace},
    DataW.TrodAll enc P W 0 (fun _=>true) true ts vs ds ps→ds.length=ts.length
  | [],[],[],_,_=>rfl
  | t :: ts,v :: vs,d :: ds,ps,h=>by
    obtain ⟨p,q,h1,h2,rfl⟩:=h
    simp [trodAll_length h2]
  | [],_ :: _,_,_,h=>by simp [DataW.TrodAll] at h
  | [],[],_ :: _,_,h=>by simp [DataW.TrodAll] at h
  | _ :: _,[],_,_,h=>by simp [DataW.TrodAll] at h
  | _ :: _,_ :: _,[],_,h=>by simp [DataW.TrodAll] at h
end Go.Proofs.YthoooolflmbmbaaGreat
