/- Function values, zeros that are appended to nothing, capacities. Nothing of a program in sight. -/
import Derived.Test.YthoooolflmbmbaaGreatGen
import Derived.Lib.AppendZeros
namespace Go.Proofs.YthoooolflmbmbaaGreat
open Go.RowKit
set_option linter.unusedVariables false
set_option linter.unusedSimpArgs false
section
variable {P:Program} {n:Nat} {Q:Exit→Act→World→Prop} {ops:Array Oper} {rest:List Oper} {e:Env} {w:World} {d:Nat} {ty:TypeId} {pos:String} {after:Array Edge} {x y:Operand} {t:TypeId}
theorem R1.makeFunc {fn:Fn} {xs ys:List Operand} {us vs:List Value} (hx:evl e xs=some us) (hy:evl e ys=some vs):R1 P e (.makeFunc fn xs.toArray ys.toArray) ty w (.func fn us.toArray vs.toArray):=fun n a d pos after g ha=>by
  have h1:=ha.evals hx;have h2:=ha.evals hy
  simp [execOp,Instr.makeFunc,h1,h2]
theorem R1.cap {el : TypeId} {s : Nat} {A : Option Addr} {l c : Nat} (hx : ev e x = some (.slice A l c)) (ht : sliceT P t = some (el, s)) :
    R1 P e (.call ⟨.builtin .cap,[x].toArray,[t].toArray⟩) ty w (.int .i64 c):=fun n a d pos after g ha=>by
  have h1:=(sliceT.spec ht).1
  simp [execOp,resolve,invoke,builtin,ha.eval hx,Builtin.cap_,run_underlying h1,goInt]
theorem L.callV {f : FuncId} {xs : List Operand} {vs us : List Value} {ats : Array TypeId} {R : Value → World → Prop} (hf : ev e x = some (.func (.func f) #[] us.toArray)) (hx : evl e xs = some vs) (hr : Ret P f (vs ++ us).toArray w R) (hd : Nat.blt d n = true)
    (h:∀ v w',R v w'→L P n Q ops rest ((d,v) :: e) w'):L P n Q ops (⟨some d,.call ⟨.value x,xs.toArray,ats⟩,ty,pos,after,none⟩ :: rest) e w :=
  fun a ha=>wpList_plain rfl fun K hK=>by
    obtain ⟨fn,h1,h2,h3⟩:=hr.able
    have hv:xs.map a.eval=vs:=ha.evals hx
    have h3' : fn.name ≠ "runtime.NumGoroutine" := by simpa using h3
    have h2':fn.body≠none:=by intro hh; simp [hh] at h2
    have:(execOp a.eval ⟨some d,.call ⟨.value x,xs.toArray,ats⟩,ty,pos,after,none⟩).run P w=.ok (.enter f (vs ++ us).toArray) w:=by
      simp [execOp,resolve,ha.eval hf,Deferred.ofValue,invoke,callFunc,h1,h2',h3',hv]
    unfold Oper.wp
    rw [this,Oper.upon_enter]
    exact hr.run.mono fun en w' ⟨v,he,hv⟩=>by subst he; exact hK _ _ (h v w' hv _ (ha.put hd v))
end
def intsZ (zs:List Int):List Value:=zs.map fun z=>Value.int .i64 z
theorem intsZ_length (zs:List Int):(intsZ zs).length=zs.length:=by simp [intsZ]
theorem intsZ_set (zs:List Int) (i:Nat) (x:Int):(intsZ zs).set i (.int .i64 x)=intsZ (zs.set i x):=by simp [intsZ,List.map_set]
theorem intsZ_get {zs:List Int} {i:Nat} (h:i<zs.length):(intsZ zs)[i]?=some (.int .i64 (zs.getD i 0)):=by simp [intsZ,h]
theorem intsZ_append (xs ys:List Int):intsZ (xs ++ ys)=intsZ xs ++ intsZ ys:=by simp [intsZ]
theorem intsZ_one (xs:List Int):∀ c∈intsZ xs,c.oneCell'=true:=fun c hc=>by
  obtain ⟨x,_,rfl⟩:=List.mem_map.1 hc
  rfl
section
variable {P:Program} {n:Nat} {Q:Exit→Act→World→Prop} {ops:Array Oper} {rest:List Oper} {e:Env} {w:World} {ty:TypeId} {pos:String} {after:Array Edge} {x y:Operand} {t el:TypeId} {v:Value} {B k i:Nat} {zs:List Int}
theorem R1.ldZ (hx:ev e x=some (.pointer (some (elemAt v 1 i)))) (ho:w.ownsRow B el 1 v k (intsZ zs)) (hi:i<k) (ht:plainT P t=true):R1 P e (.load t x) ty w (.int .i64 (zs.getD i 0)) :=
  R1.ldOwn hx ho (intsZ_get (by have:=ho.1; rw [intsZ_length] at this; omega)) ht
theorem L.storeZ {c : Int} (hx : ev e x = some (.pointer (some (elemAt v 1 i)))) (hy : ev e y = some (.int .i64 c)) (ho : w.ownsRow B el 1 v k (intsZ zs)) (hi : i < k) (ht : plainT P t = true)
    (h:∀ w',w'.ownsRow B el 1 v k (intsZ (zs.set i c))→Mod (ownL v) w w'→L P n Q ops rest e w'):L P n Q ops (⟨none,.store t x y,ty,pos,after,none⟩ :: rest) e w :=
  L.storeOwn hx hy ho hi rfl ht (fun w' h2 h3=>h w' (by rw [← intsZ_set]; exact h2) h3)
theorem own_len (ho:w.ownsRow B el 1 v k (intsZ zs)):k=zs.length:=by have:=ho.1; rw [intsZ_length] at this; omega
theorem Lay.of_Z {M:List Nat} (h:w.ownsRow B el 1 v k (intsZ zs)) (hM:∀ g,v.ownBlock=some g→g ∉ M):Lay rdI M w v zs:=by
  have e:=own_len h
  subst e
  exact Lay.of_ownI h hM
end
section
variable {P:Program} {n:Nat} {Q:Exit→Act→World→Prop} {ops:Array Oper} {rest:List Oper} {e:Env} {w:World} {d:Nat} {ty:TypeId} {pos:String} {after:Array Edge}
theorem L.copyAt {x y : Operand} {t t' el : TypeId} {g o dl dc : Nat} {a : Addr} {sl sc : Nat} {cur cs : List Value} (hx : ev e x = some (.slice (some ⟨g, o, none⟩) dl dc)) (hy : ev e y = some (.slice (some a) sl sc)) (hb : Blk w g t' cur.toArray)
    (hl:cs.length=min dl sl) (hc:∀ j v,cs[j]?=some v→w.cell? (a.add j)=some v) (hfit:o + cs.length≤cur.length) (h1:∀ v∈cs,v.oneCell'=true) (ht:sliceT P t=some (el,1)) (hd:Nat.blt d n=true)
    (h:∀ w',Blk w' g t' (cur.take o ++ cs ++ cur.drop (o + cs.length)).toArray→Mod [g] w w'→L P n Q ops rest ((d,.int .i64 (cs.length:Int)) :: e) w') :
    L P n Q ops (⟨some d,.call ⟨.builtin .copy,[x,y].toArray,[t,t].toArray⟩,ty,pos,after,none⟩ :: rest) e w:=by
  obtain ⟨hu,⟨i,hi,hsz⟩,_⟩:=sliceT.spec ht
  have hr:=run_copy_row (P:=P) w t t ty el g o dl dc a sl sc cur.toArray t' cs hu (by rw [hi]; simp [hsz]) hb (by rw [hl]; exact Nat.min_comm _ _) hc (by simpa using hfit) h1;have hq:=Blk.setRow hb (cur.take o ++ cs ++ cur.drop (o + cs.length)).toArray
  refine L.any (v:=.int .i64 (cs.length:Int)) (w':=w.setRow g (cur.take o ++ cs ++ cur.drop (o + cs.length)).toArray) (fun a' ha=>?_) hd (h _ hq.1 hq.2)
  have hr':(Builtin.copy_ #[t,t] ty #[.slice (some ⟨g,o,none⟩) dl dc,.slice (some a) sl sc]).run P w=.ok (.int .i64 (cs.length:Int)) (w.setRow g (cur.take o ++ cs ++ cur.drop (o + cs.length)).toArray):=by
    rw [hr]; simp [goInt]
  simp [execOp,resolve,invoke,builtin,ha.eval hx,ha.eval hy,hr']
end
def boolsV (bs:List Bool):List Value:=bs.map Value.bool
theorem boolsV_length (bs:List Bool):(boolsV bs).length=bs.length:=by simp [boolsV]
theorem boolsV_set (bs:List Bool) (i:Nat) (x:Bool):(boolsV bs).set i (.bool x)=boolsV (bs.set i x):=by simp [boolsV,List.map_set]
theorem boolsV_get {bs:List Bool} {i:Nat} (h:i<bs.length):(boolsV bs)[i]?=some (.bool (bs.getD i false)):=by simp [boolsV,h]
section
variable {P:Program} {n:Nat} {Q:Exit→Act→World→Prop} {ops:Array Oper} {rest:List Oper} {e:Env} {w:World} {ty:TypeId} {pos:String} {after:Array Edge} {x y:Operand} {t el:TypeId} {v:Value} {B k i:Nat} {bs:List Bool}
theorem own_lenB (ho:w.ownsRow B el 1 v k (boolsV bs)):k=bs.length:=by have:=ho.1; rw [boolsV_length] at this; omega
theorem R1.ldBo (hx:ev e x=some (.pointer (some (elemAt v 1 i)))) (ho:w.ownsRow B el 1 v k (boolsV bs)) (hi:i<k) (ht:plainT P t=true):R1 P e (.load t x) ty w (.bool (bs.getD i false)) :=
  R1.ldOwn hx ho (boolsV_get (by have:=own_lenB ho; omega)) ht
theorem L.storeBo {c : Bool} (hx : ev e x = some (.pointer (some (elemAt v 1 i)))) (hy : ev e y = some (.bool c)) (ho : w.ownsRow B el 1 v k (boolsV bs)) (hi : i < k) (ht : plainT P t = true)
    (h:∀ w',w'.ownsRow B el 1 v k (boolsV (bs.set i c))→Mod (ownL v) w w'→L P n Q ops rest e w'):L P n Q ops (⟨none,.store t x y,ty,pos,after,none⟩ :: rest) e w :=
  L.storeOwn hx hy ho hi rfl ht (fun w' h2 h3=>h w' (by rw [← boolsV_set]; exact h2) h3)
end
theorem own_madeB {w w':World} {el B g:Nat} {m:Nat} (hN:New w w' g el (madeCells (Value.bool false).cells (m * 1))) (hB:B≤w.heap.size) (hm:m≤maxLen):w'.ownsRow B el 1 (.slice (some ⟨g,0,none⟩) m m) m (boolsV (List.replicate m false)):=by
  have h1:=toList_madeCells_one (.bool false) (m * 1)
  have h2:(madeCells (Value.bool false).cells (m * 1)).size=m * 1:=by rw [← Array.length_toList]; simp only [Value.cells]; rw [h1]; simp
  have:=own_new hN hB h2 hm (Nat.le_refl m)
  simp only [Value.cells] at this
  rw [h1] at this
  simpa [boolsV] using this
theorem own_lit {w:World} {B el s g:Nat} {cs:List Value} (hb:Blk w g el cs.toArray) (hge:B≤g) (hl:cs.length=s):w.ownsRow B el s (.slice (some ⟨g,0,none⟩) 1 1) 1 cs :=
  ⟨by omega,.inr ⟨g,1,cs.toArray,rfl,hge,hb,Nat.le_refl _,by decide,by simp; omega,by simp [List.take_of_length_le,hl]⟩⟩
end Go.Proofs.YthoooolflmbmbaaGreat
