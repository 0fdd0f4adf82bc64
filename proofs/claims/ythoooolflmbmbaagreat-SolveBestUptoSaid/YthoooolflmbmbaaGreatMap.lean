/- Maps of integers to true, as sets. Nothing of a program in sight. -/
import Derived.Test.YthoooolflmbmbaaGreatClos
import Derived.Carry
namespace Go.Proofs.YthoooolflmbmbaaGreat
open Go.RowKit
set_option linter.unusedVariables false
set_option linter.unusedSimpArgs false
def MapI (w:World) (g:Nat) (T:List Int):Prop:=∃ (es:Array MapEntry) (clk:Nat),w.heap[g]?=some (.map es clk)∧(∀ e∈es.toList,∃ x,e.key=.int .i64 x∧e.val=.bool true∧x∈T)∧∀ x∈T,∃ e∈es.toList,e.key=.int .i64 x
theorem MapI.mod {w w':World} {g:Nat} {G:List Nat} {T':List Int} (h:MapI w g T') (hm:Mod G w w') (hg:g ∉ G):MapI w' g T':=by
  obtain ⟨es,clk,h1,h2,h3⟩:=h
  have hlt:g<w.heap.size:=by
    rcases Nat.lt_or_ge g w.heap.size with h4 | h4
    · exact h4
    rw [Array.getElem?_eq_none h4] at h1; cases h1
  exact ⟨es,clk,by rw [hm.block g hlt hg]; exact h1,h2,h3⟩
theorem wpAnyT_firstW {P : Program} {Q : Exit → Act → World → Prop} {ops : Array Oper} {S : World → Prop} {T : List Nat} {i : Nat} {oi : Oper} {v : Value} (hi : ops[i]? = some oi) (hsel : ∀ (j : Nat) (o : Oper) cs b, ops[j]? = some o → o.op ≠ .select cs b)
    (hQ:∀ c a w,Q (.panic c) (a.put oi.dst v) w→Q (.panic c) a w) (hTi:T.contains i=true) :
    ∀ (fuel:Nat) (listed:Array Bool) (a:Act) (w:World),Closed ops listed →
      (∀ j oj,ops[j]?=some oj→j≠i→listed.getD j true=false→(∀ e∈oj.after,Region.binds .any e=true→e.on≠i)→oi.apart ops oj=true) →
      i∈Region.ready .any ops listed→YieldsIf P ops (fun _=>True) oi v a →
      wpAnyT P ops Q S T fuel (listed.setIfInBounds i true) (a.put oi.dst v) w→wpAnyT P ops Q S T (fuel + 1) listed a w:=by
  intro fuel
  induction fuel with
  | zero =>
    intro listed a w hcl _ hr hy H
    refine ⟨fun h=>(by rw [h] at hr; cases hr),fun j hj=>?_⟩
    by_cases hji:j=i
    · subst hji; exact hy.wpOp hi trivial ⟨.inl hTi,H⟩
    · have:=ready_mono hj hji
      rw [H.1] at this
      cases this
  | succ fuel ih =>
    intro listed a w hcl hfree hr hy H
    refine ⟨fun h=>(by rw [h] at hr; cases hr),fun j hj=>?_⟩
    by_cases hji:j=i
    · subst hji; exact hy.wpOp hi trivial ⟨.inl hTi,H⟩
    have h1:=H.2 j (ready_mono hj hji);have hiun:=getD_false_of_true (mem_ready.1 hr).1;obtain ⟨hjun,oj,hoj,hall⟩:=mem_ready.1 hj
    have hnot:∀ e∈oj.after,Region.binds .any e=true→e.on≠i:=fun e he hb heq=>by
      have h1:=hall e he hb
      rw [heq,hiun] at h1
      cases h1
    have h2:=wpOp_putIf hoj (hfree j oj hoj hji hjun hnot) (fun cs b=>hsel i oi cs b hi) (fun cs b=>hsel j oj cs b hoj) hQ hy h1
    have hfree' : ∀ k ok, ops[k]? = some ok → k ≠ i → (listed.setIfInBounds j true).getD k true = false →
        (∀ e∈ok.after,Region.binds .any e=true→e.on≠i)→oi.apart ops ok=true:=fun k ok hk hki hun hno=>by
      refine hfree k ok hk hki ?_ hno
      by_cases hjk:j=k
      · subst hjk; exact hjun
      rw [getD_set_ne true hjk] at hun; exact hun
    refine wpOp_mono (fun a' w' h3=>?_) h2
    refine ⟨h3.2.1,ih (listed.setIfInBounds j true) a' w' (hcl.set hj) hfree' (ready_mono hr (Ne.symm hji)) h3.1 ?_⟩
    rw [Array.setIfInBounds_comm _ _ hji]
    exact h3.2.2
theorem wpAnyT_shrink {P:Program} {Q:Exit→Act→World→Prop} {ops:Array Oper} {S:World→Prop} {T T1:List Nat} (hT:∀ i,T1.contains i=true→T.contains i=true):∀ (fuel:Nat) (listed:Array Bool) (a:Act) (w:World),wpAnyT P ops Q S T1 fuel listed a w→wpAnyT P ops Q S T fuel listed a w
  | 0,_,_,_,h=>h
  | fuel + 1,_,_,_,h=>⟨h.1,fun i hi=>wpOp_mono (fun a' w' h'=>⟨h'.1.imp_left (hT i),wpAnyT_shrink hT fuel _ a' w' h'.2⟩) (h.2 i hi)⟩
section
variable {P:Program} {n:Nat} {Q:Exit→Act→World→Prop} {ops:Array Oper} {S:World→Prop} {T:List Nat} {fuel:Nat} {listed:Array Bool} {d:Nat} {op:Op} {ty:TypeId} {pos:String} {after:Array Edge} {e:Env} {w:World}
theorem D.takeW (i : Nat) {v : Value} (hi : ops[i]? = some ⟨some d, op, ty, pos, after, none⟩) (hb : takeB ops [] listed i = true) (hT : T.contains i = true) (hy : ∀ w', R1 P e op ty w' v) (hd : Nat.blt d n = true)
    (h:D P n Q ops S T fuel (listed.setIfInBounds i true) ((d,v) :: e) w):D P n Q ops S T (fuel + 1) listed e w:=fun hs hc a ha=>by
  obtain ⟨h1,h2,h3⟩:=takeB.spec hi hb
  exact wpAnyT_firstW hi (Region.noSelect_spec hs.1) (fun c a w=>hs.2 c a _ v w) hT fuel listed a w hc h1 h2 (.inl ⟨rfl,fun w' hw'=>hy w' n a _ pos after none ha⟩) (h hs (hc.set h2) _ (ha.put hd v))
theorem D.shrink (T1:List Nat) (hT:(T1.all fun i=>T.contains i)=true) (h:D P n Q ops S T1 fuel listed e w):D P n Q ops S T fuel listed e w:=fun hs hc a ha =>
  wpAnyT_shrink (fun i hi=>List.all_eq_true.1 hT i (by simpa using hi)) _ _ _ _ (h hs hc a ha)
end
theorem R1.atOwnW {P:Program} {e:Env} {x y:Operand} {ty t el:TypeId} {w w0:World} {v:Value} {B s k i:Nat} {xs:List Value} {z:Int} {kk:IntKind} (hx:ev e x=some v) (hy:ev e y=some (.int kk z)) (ho:w0.ownsRow B el s v k xs) (ht:sliceT P t=some (el,s)) (hz:z=(i:Int)) (hi:i<k):R1 P e (.indexAddr t x y) ty w (.pointer (some (elemAt v s i))):=by
  obtain ⟨A,cap,rfl,h2,h3,h4,h5,h6⟩:=Sl.of_own (M:=[]) ho (fun _ _ h=>by cases h)
  subst hz
  cases A with
  | none=>have:=h5 rfl; omega
  | some a=>exact R1.index hx hy ht (by omega) (by omega)
theorem MapI.lt {w:World} {g:Nat} {T':List Int} (h:MapI w g T'):g<w.heap.size:=by
  obtain ⟨es,clk,h1,_⟩:=h
  rcases Nat.lt_or_ge g w.heap.size with h4 | h4
  · exact h4
  rw [Array.getElem?_eq_none h4] at h1; cases h1
theorem MapI.gr {w w':World} {g:Nat} {T':List Int} (h:MapI w g T') (hm:Mod [] w w'):MapI w' g T':=h.mod hm (by simp)
theorem MapI.ownfar {w w':World} {g:Nat} {v:Value} {T':List Int} (h:MapI w g T') (hm:Mod (ownL v) w w') (hno:v.ownBlock≠some g):MapI w' g T':=h.mod hm (by unfold ownL; simpa using hno)
theorem MapI.ne_ {w w':World} {g g' t:Nat} {cs:Array Value} {T':List Int} (h:MapI w g T') (hN:New w w' g' t cs):g≠g':=by
  have:=h.lt; have:=hN.eq; omega
theorem MapI.congr {w:World} {g:Nat} {T T':List Int} (h:MapI w g T) (e:∀ x,x∈T↔x∈T'):MapI w g T':=by
  obtain ⟨es,clk,h1,h2,h3⟩:=h
  exact ⟨es,clk,h1,fun e' he=>let ⟨x,a,b,c⟩:=h2 e' he; ⟨x,a,b,(e x).1 c⟩,fun x hx=>h3 x ((e x).2 hx)⟩
def MapV (w:World) (v:Value) (T:List Int):Prop:=(∃ g,v=.map (some g)∧MapI w g T)∨(v=.map none∧T=[])
theorem MapV.gr {w w':World} {v:Value} {T':List Int} (h:MapV w v T') (hm:Mod [] w w'):MapV w' v T':=by
  rcases h with ⟨g,h1,h2⟩ | h
  · exact .inl ⟨g,h1,h2.gr hm⟩
  exact .inr h
theorem MapV.nv {w w':World} {g' t:Nat} {v:Value} {cs:Array Value} {T':List Int} (h:MapV w v T') (hN:New w w' g' t cs):v≠.map (some g'):=by
  rcases h with ⟨g,rfl,h2⟩ | ⟨rfl,_⟩
  · intro e; injection e with e; injection e with e; exact h2.ne_ hN e
  intro e; injection e with e; cases e
theorem MapV.far {w w':World} {g':Nat} {v:Value} {T':List Int} (h:MapV w v T') (hm:Mod [g'] w w') (hne:v≠.map (some g')):MapV w' v T':=by
  rcases h with ⟨g,rfl,h2⟩ | h
  · exact .inl ⟨g,rfl,h2.mod hm (by simp only [List.mem_singleton]; intro e; exact hne (by rw [e]))⟩
  exact .inr h
theorem MapV.of {w:World} {g:Nat} {T':List Int} (h:MapI w g T'):MapV w (.map (some g)) T':=.inl ⟨g,rfl,h⟩
theorem Mod.oldOwn2 {G:List Nat} {w w' w'':World} {v u:Value} {el s k xs el' s' k' ys} (h:Mod G w w') (k0:Mod (ownL v ++ ownL u) w' w'') (ho:w'.ownsRow w.heap.size el s v k xs) (O2:w'.ownsRow w.heap.size el' s' u k' ys):Mod G w w'' :=
  h.old k0 (fun g hg=>by
    rcases List.mem_append.1 hg with hg | hg
    · exact .inr (own_ge ho g (by unfold ownL at hg; simpa using hg)).1
    exact .inr (own_ge O2 g (by unfold ownL at hg; simpa using hg)).1)
theorem Blk.ownfar2 {w w':World} {g t':Nat} {v u:Value} {cs:Array Value} (hb:Blk w g t' cs) (hm:Mod (ownL v ++ ownL u) w w') (hno:v.ownBlock≠some g) (hno2:u.ownBlock≠some g):Blk w' g t' cs:=hb.mod hm (fun h=>by
  rcases List.mem_append.1 h with h | h
  · exact hno (by unfold ownL at h; simpa using h)
  exact hno2 (by unfold ownL at h; simpa using h))
theorem mem_own2 {M:List Nat} {v u:Value}:∀ g∈ownL v ++ ownL u,g∈ownL v ++ (ownL u ++ M):=fun g hg=>by
  rcases List.mem_append.1 hg with h | h <;> simp [h]
theorem findNow_int (x : Int) : ∀ (es : List MapEntry) (i : Nat), (∀ e ∈ es, ∃ y, e.key = .int .i64 y ∧ e.val = .bool true) →
    (∃ j,Instr.findNow (.int .i64) (.int .i64 x) es i=some (some (j,.bool true))∧∃ e∈es,e.key=.int .i64 x)∨(Instr.findNow (.int .i64) (.int .i64 x) es i=some none∧∀ e∈es,e.key≠.int .i64 x)
  | [],i,_=>.inr ⟨rfl,fun e h=>by cases h⟩
  | e :: es,i,h=>by
    obtain ⟨y,h1,h2⟩:=h e (by simp)
    by_cases hxy:x=y
    · subst hxy
      exact .inl ⟨i,by simp [Instr.findNow,Instr.sameNow,h1,h2],e,by simp,h1⟩
    have hb:(x == y)=false:=by simpa using hxy
    rcases findNow_int x es (i + 1) (fun e' he'=>h e' (by simp [he'])) with ⟨j,h3,e',h4,h5⟩ | ⟨h3,h4⟩
    · exact .inl ⟨j,by simp [Instr.findNow,Instr.sameNow,h1,hb,h3],e',by simp [h4],h5⟩
    refine .inr ⟨by simp [Instr.findNow,Instr.sameNow,h1,hb,h3],fun e' he'=>?_⟩
    rcases List.mem_cons.1 he' with rfl | he'
    · rw [h1]; intro e9; injection e9 with _ e9; exact hxy e9.symm
    exact h4 e' he'
section
variable {P:Program} {w:World} {g:Nat} {T:List Int} {t kt et:TypeId} {x:Int}
theorem checkKey_int (b:Bool) (n:Nat) (hk:P.underlying kt=some (.int .i64)):(Instr.checkKey b (n + 1) kt (.int .i64 x)).run P w=.ok () w:=by
  simp [Instr.checkKey,run_underlying hk]
theorem run_lookupI (h : MapI w g T) (ht : P.underlying t = some (.map kt et)) (hk : P.underlying kt = some (.int .i64)) (hz : (zeroValue et).run P w = .ok (.bool false) w) :
    (Instr.lookup t (.map (some g)) (.int .i64 x) false).run P w=.ok (.bool (decide (x∈T))) w:=by
  obtain ⟨es,clk,h1,h2,h3⟩:=h;have hf:=findNow_int x es.toList 0 (fun e he=>let ⟨y,a,b,_⟩:=h2 e he; ⟨y,a,b⟩)
  rcases hf with ⟨j,hj,e,he,hek⟩ | ⟨hj,hno⟩
  · have hm:x∈T:=by
      obtain ⟨y,a,_,b⟩:=h2 e he
      rw [hek] at a; injection a with _ a; exact a ▸ b
    simp [Instr.lookup,Instr.findKey,run_underlying ht,run_underlying hk,checkKey_int _ _ hk,MapKept.run_getObj_map h1,hj,hm]
  have hm:x ∉ T:=fun hm=>by
    obtain ⟨e,he,hek⟩:=h3 x hm
    exact hno e he hek
  simp [Instr.lookup,Instr.findKey,run_underlying ht,run_underlying hk,checkKey_int _ _ hk,MapKept.run_getObj_map h1,hj,hm,hz]
theorem run_lookupNil (ht : P.underlying t = some (.map kt et)) (hk : P.underlying kt = some (.int .i64)) (hz : (zeroValue et).run P w = .ok (.bool false) w) :
    (Instr.lookup t (.map none) (.int .i64 x) false).run P w=.ok (.bool false) w:=by
  simp [Instr.lookup,Instr.findKey,run_underlying ht,run_underlying hk,checkKey_int _ _ hk,Instr.findNow,hz]
theorem run_updI (h : MapI w g T) (ht : P.underlying t = some (.map kt et)) (hk : P.underlying kt = some (.int .i64)) :
    ∃ w',(Instr.mapUpdate t (.map (some g)) (.int .i64 x) (.bool true)).run P w=.ok () w'∧MapI w' g (x :: T)∧Mod [g] w w':=by
  obtain ⟨es,clk,h1,h2,h3⟩:=h
  have hIs:MapKept.IsKey (.int .i64) (.int .i64 x):=rfl
  have hks:∀ e∈es.toList,MapKept.IsKey (.int .i64) e.key:=fun e he=>by
    obtain ⟨y,a,_⟩:=h2 e he
    rw [a]; rfl
  have hmod:∀ o',Mod [g] w { w with heap:=w.heap.setIfInBounds g o' }:=fun o'=>⟨rfl,rfl,rfl,by simp,fun k hk hg=>(MapKept.heap_set h1).2 k (by simpa using hg)⟩
  rcases MapKept.findNow_spec hIs es.toList 0 hks with ⟨f1,f2⟩ | ⟨j,e,f1,f2,f3⟩
  · refine ⟨_,by simp [Instr.mapUpdate,run_underlying ht,MapKept.run_getObj_map h1,MapKept.run_checkKey hk hIs,MapKept.run_findKey hk f1,MapKept.run_setObj_map _ h1,Result.andThen]; rfl,⟨_,_,(MapKept.heap_set h1).1,fun e he=>?_,fun y hy=>?_⟩,hmod _⟩
    · simp only [Array.toList_push,List.mem_append,List.mem_singleton] at he
      rcases he with he | rfl
      · obtain ⟨y,a,b,c⟩:=h2 e he
        exact ⟨y,a,b,by simp [c]⟩
      exact ⟨x,rfl,rfl,by simp⟩
    rcases List.mem_cons.1 hy with rfl | hy
    · exact ⟨{ key:=.int .i64 y,val:=.bool true,born:=clk },by simp,rfl⟩
    obtain ⟨e,he,a⟩:=h3 y hy
    exact ⟨e,by simp only [Array.toList_push,List.mem_append]; exact .inl he,a⟩
  have hj:es[j]?=some e:=by simpa using f2
  have hsp:∀ o',o'∈(es.modify j fun e=>{ e with key:=.int .i64 x,val:=.bool true }).toList→o'∈es.toList∨(o'.key=.int .i64 x∧o'.val=.bool true):=fun o' ho=>by
    obtain ⟨i,hi,he⟩:=List.mem_iff_getElem.1 ho
    rw [Array.getElem_toList,Array.getElem_modify] at he
    split at he
    · exact .inr ⟨by rw [← he],by rw [← he]⟩
    exact .inl (by rw [← he]; simp)
  refine ⟨_,by simp [Instr.mapUpdate,run_underlying ht,MapKept.run_getObj_map h1,MapKept.run_checkKey hk hIs,MapKept.run_findKey hk f1,hj,f3,MapKept.run_keyThatStays hIs,MapKept.run_setObj_map _ h1,Result.andThen]; rfl,⟨_,_,(MapKept.heap_set h1).1,fun o' ho=>?_,fun y hy=>?_⟩,hmod _⟩
  · rcases hsp o' ho with h5 | ⟨h5,h6⟩
    · obtain ⟨y,a,b,c⟩:=h2 o' h5
      exact ⟨y,a,b,by simp [c]⟩
    exact ⟨x,h5,h6,by simp⟩
  have hx:∃ e'∈es.toList,e'.key=.int .i64 y:=by
    rcases List.mem_cons.1 hy with rfl | hy
    · exact ⟨e,by rw [Array.mem_toList_iff]; exact Array.mem_of_getElem? hj,f3⟩
    exact h3 y hy
  obtain ⟨e',he',hk'⟩:=hx;obtain ⟨i,hi,hei⟩:=List.mem_iff_getElem.1 he'
  have hi2:i<es.size:=by simpa using hi
  rw [Array.getElem_toList] at hei
  have hsz:i<(es.modify j fun e=>{ e with key:=.int .i64 x,val:=.bool true }).size:=by simpa using hi2
  refine ⟨(es.modify j fun e=>{ e with key:=.int .i64 x,val:=.bool true })[i],by rw [Array.mem_toList_iff]; exact Array.getElem_mem _,?_⟩
  rw [Array.getElem_modify]
  split
  · rename_i hji
    subst hji
    have h8:es[j]=e:=by rw [Array.getElem?_eq_getElem hi2] at hj; injection hj
    rw [← hei,h8,f3] at hk'
    exact hk'
  rw [hei]; exact hk'
end
theorem run_zeroV {P:Program} {t:TypeId} {z:Value} {s b:Nat} (h:zeroT P t=some (z,s,b)) (w:World):(zeroValue t).run P w=.ok z w:=by
  obtain ⟨i,h1,h2,h3,h4,h5⟩:=zeroT.spec h
  simp [zeroValue,typeInfo,h1,h2]
def mapT (P:Program) (t:TypeId):Prop:=∃ kt et,P.underlying t=some (.map kt et)∧P.underlying kt=some (.int .i64)∧∀ w,(zeroValue et).run P w=.ok (.bool false) w
section
variable {P:Program} {n:Nat} {Q:Exit→Act→World→Prop} {ops:Array Oper} {rest:List Oper} {e:Env} {w:World} {d:Nat} {ty:TypeId} {pos:String} {after:Array Edge} {x y:Operand} {t:TypeId} {g:Nat} {T:List Int} {k:Int}
theorem R1.lookupI (hx:ev e x=some (.map (some g))) (hy:ev e y=some (.int .i64 k)) (h:MapI w g T) (ht:mapT P t):R1 P e (.lookup t x y false) ty w (.bool (decide (k∈T))):=fun n a d pos after g' ha=>by
  obtain ⟨kt,et,h1,h2,h3⟩:=ht
  simp [execOp,ha.eval hx,ha.eval hy,run_lookupI h h1 h2 (h3 w)]
theorem R1.lookupNil (hx:ev e x=some (.map none)) (hy:ev e y=some (.int .i64 k)) (ht:mapT P t):R1 P e (.lookup t x y false) ty w (.bool false):=fun n a d pos after g' ha=>by
  obtain ⟨kt,et,h1,h2,h3⟩:=ht
  simp [execOp,ha.eval hx,ha.eval hy,run_lookupNil h1 h2 (h3 w)]
theorem R1.lookupV {v:Value} (hx:ev e x=some v) (hy:ev e y=some (.int .i64 k)) (h:MapV w v T) (ht:mapT P t):R1 P e (.lookup t x y false) ty w (.bool (decide (k∈T))):=by
  rcases h with ⟨g,rfl,h⟩ | ⟨rfl,rfl⟩
  · exact R1.lookupI hx hy h ht
  have h9:=R1.lookupNil (ty:=ty) (w:=w) hx hy ht
  simpa using h9
theorem L.mapUpdI {v : Operand} (hx : ev e x = some (.map (some g))) (hy : ev e y = some (.int .i64 k)) (hv : ev e v = some (.bool true)) (h0 : MapI w g T) (ht : mapT P t)
    (h:∀ w',MapI w' g (k :: T)→Mod [g] w w'→L P n Q ops rest e w'):L P n Q ops (⟨none,.mapUpdate t x y v,ty,pos,after,none⟩ :: rest) e w :=
  fun a ha=>wpList_plain rfl fun K hK=>by
    obtain ⟨kt,et,h1,h2,h3⟩:=ht;obtain ⟨w',hr,hm,hmod⟩:=run_updI h0 h1 h2 (x:=k)
    unfold Oper.wp
    have:(execOp a.eval ⟨none,.mapUpdate t x y v,ty,pos,after,none⟩).run P w=.ok .skip w':=by
      simp [execOp,ha.eval hx,ha.eval hy,ha.eval hv,hr]
    rw [this]
    exact hK _ _ (h _ hm hmod _ (ha.putNone _))
theorem L.makeMapI (hd : Nat.blt d n = true)
    (h:∀ g w',g=w.heap.size→MapI w' g []→Mod [] w w'→L P n Q ops rest ((d,.map (some g)) :: e) w'):L P n Q ops (⟨some d,.makeMap t none,ty,pos,after,none⟩ :: rest) e w :=
  fun a ha=>wpList_plain rfl fun K hK=>by
    unfold Oper.wp
    have:(execOp a.eval ⟨some d,.makeMap t none,ty,pos,after,none⟩).run P w=.ok (.value (.map (some w.heap.size))) (w.alloc (.map #[] 0)):=by
      simp [execOp,run_makeMap]
    rw [this]
    refine hK _ _ (h _ _ rfl ⟨_,_,(MapKept.heap_alloc w _).1,fun e he=>by simp at he,fun x hx=>by cases hx⟩ ⟨rfl,rfl,rfl,?_,fun k hk _=>(MapKept.heap_alloc w _).2 k hk⟩ _ (ha.put hd _))
    show w.heap.size≤(w.heap.push _).size
    simp
end
end Go.Proofs.YthoooolflmbmbaaGreat
