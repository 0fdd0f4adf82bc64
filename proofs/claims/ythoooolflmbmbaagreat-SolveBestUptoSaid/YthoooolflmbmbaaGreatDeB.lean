/- Several texts in one. -/
import Derived.Test.YthoooolflmbmbaaGreatGrB
import Derived.Test.YthoooolflmbmbaaGreatSettle
import Derived.Test.YthoooolflmbmbaaGreatClos
import Derived.Test.YthoooolflmbmbaaGreatGrD
section
namespace Go.Proofs.YthoooolflmbmbaaGreat
open Go.RowKit
set_option linter.unusedVariables false
set_option linter.unusedSimpArgs false
set_option maxRecDepth 10000
def hasV (c:CR) (v:Int):Bool:=c.ts.any (fun t=>decide (t.v=v))
def c0R:CR:=⟨0,[],⟨false,[],[]⟩⟩
def stepP (n:Int) (cs:List CR) (o:List Int) (j:Nat):Prop:=isC (cs.getD j c0R) n=true∧(o.getD j 0=-1∨(hasV (cs.getD j c0R) (o.getD j 0)=true∧∀ k,k<j→o.getD k 0≠o.getD j 0))
instance (n:Int) (cs:List CR) (o:List Int) (j:Nat):Decidable (stepP n cs o j):=by unfold stepP; infer_instance
def chP (n:Int) (cs:List CR) (o:List Int) (i:Nat):Prop:=∀ j,j<i→stepP n cs o j
instance (n:Int) (cs:List CR) (o:List Int) (i:Nat):Decidable (chP n cs o i):=by unfold chP; infer_instance
def ChB (z:Int) (cs:List CR) (o:List Int):Bool:=decide (1≤z∧z≤64∧cs.length≤256∧o.length=cs.length∧chP z cs o cs.length∧firstW (List.range z.toNat) (wsOf z.toNat cs) 0=none)
theorem chP_zero {n:Int} {cs:List CR} {o:List Int}:chP n cs o 0:=fun j h=>by omega
theorem chP_succ {n:Int} {cs:List CR} {o:List Int} {i:Nat} (h:chP n cs o i) (h2:stepP n cs o i):chP n cs o (i + 1):=fun j hj=>by
  rcases Nat.lt_or_ge j i with h3 | h3
  · exact h j h3
  have:j=i:=by omega
  subst this; exact h2
theorem ChB_size {z:Int} {cs:List CR} {o:List Int} (h:z<1∨64<z∨256<cs.length∨o.length≠cs.length):ChB z cs o=false:=decide_eq_false (fun h2=>by omega)
theorem ChB_step {z:Int} {cs:List CR} {o:List Int} {i:Nat} (hi:i<cs.length) (h:¬ stepP z cs o i):ChB z cs o=false:=decide_eq_false (fun h2=>h (h2.2.2.2.2.1 i hi))
theorem ChB_full {n:Nat} {cs:List CR} {o:List Int} (h1:1≤n) (h2:n≤64) (h3:cs.length≤256) (h4:o.length=cs.length) (h5:chP (n:Int) cs o cs.length):ChB (n:Int) cs o=decide (firstW (List.range (held (n:Int))) (wsOf (held (n:Int)) cs) 0=none):=by
  have e:held (n:Int)=n:=by unfold held; omega
  rw [e]
  unfold ChB
  congr 1
  apply propext
  simp only [Int.toNat_natCast]
  constructor
  · intro h; exact h.2.2.2.2.2
  intro h; exact ⟨by omega,by omega,h3,h4,h5,h⟩
def byZ (n:Nat) (o:List Int) (i:Nat):List Int:=(List.range n).map fun v=>fi (who (o.take i) v)
theorem byZ_zero (n:Nat) (o:List Int):byZ n o 0=List.replicate n (-1):=by
  unfold byZ
  apply List.ext_getElem (by simp)
  intro i h1 h2
  simp [who,fi]
theorem byZ_get {n:Nat} (o:List Int) (i:Nat) {v:Nat} (h:v<n):(byZ n o i).getD v 0=fi (who (o.take i) v):=by
  simp [byZ,List.getD_eq_getElem?_getD,h]
theorem who_snoc {o:List Int} {i v:Nat} (hi:i<o.length):who (o.take (i + 1)) v=(who (o.take i) v).or (if o.getD i 0=(v:Int) then some i else none):=by
  unfold who
  rw [List.take_succ_eq_append_getElem hi,List.findIdx?_append]
  congr 1
  have e:o.getD i 0=o[i]:=by simp [List.getD_eq_getElem?_getD,hi]
  have e2:(o.take i).length=i:=by rw [List.length_take]; omega
  rw [e,e2]
  by_cases h:o[i]=(v:Int) <;> simp [List.findIdx?_cons,h]
theorem fi_neg1 (x:Option Nat):fi x=-1↔x=none:=by cases x <;> simp [fi] <;> omega
theorem who_no {o:List Int} {i v:Nat} (hi:i≤o.length):who (o.take i) v=none↔∀ k,k<i→o.getD k 0≠(v:Int):=by
  unfold who
  rw [List.findIdx?_eq_none_iff]
  constructor
  · intro h k hk e
    have h1:=h (o[k]'(by omega)) (List.mem_iff_getElem.2 ⟨k,by rw [List.length_take]; omega,by simp⟩)
    rw [show o[k]'(by omega)=o.getD k 0 by simp [List.getD_eq_getElem?_getD,show k<o.length by omega],e] at h1
    simp at h1
  intro h x hx
  obtain ⟨k,hk,rfl⟩:=List.mem_iff_getElem.1 hx
  rw [List.length_take] at hk
  have:=h k (by omega)
  rw [show o.getD k 0=o[k]'(by omega) by simp [List.getD_eq_getElem?_getD,show k<o.length by omega]] at this
  simpa using this
theorem byZ_skip {n:Nat} {o:List Int} {i:Nat} (hi:i<o.length) (h:o.getD i 0=-1):byZ n o (i + 1)=byZ n o i:=by
  unfold byZ
  apply List.map_congr_left
  intro v _
  rw [who_snoc hi,h,if_neg (by omega)]
  cases who (o.take i) v <;> rfl
theorem byZ_set {n:Nat} {o:List Int} {i v:Nat} (hi:i<o.length) (h:o.getD i 0=(v:Int)) (hv:v<n) (hno:(byZ n o i).getD v 0=-1):byZ n o (i + 1)=(byZ n o i).set v (i:Int):=by
  rw [byZ_get o i hv,fi_neg1] at hno
  apply List.ext_getElem (by simp [byZ])
  intro k h1 h2
  rw [List.getElem_set]
  simp only [byZ,List.getElem_map,List.getElem_range]
  rw [who_snoc hi,h]
  by_cases e:v=k
  · subst e; rw [hno]; simp [fi]
  rw [if_neg e,if_neg (by omega)]; cases who (o.take i) k <;> rfl
theorem hasV_lt {c:CR} {n v:Int} (hc:isC c n=true) (h:hasV c v=true):0≤v∧v<n:=by
  unfold hasV at h
  obtain ⟨t,h1,h2⟩:=List.any_eq_true.1 h;have h3:=isC_all hc t h1
  rw [decide_eq_true_eq] at h2
  omega
def TestT (P:Program) (w:World) (f:FuncId) (us:List Value) (p:TR→Bool):Prop:=∀ (w1:World) (z:TR) (A B:Option Addr) (c e:Nat),Mod [] w w1→Ret P f ([Value.agg #[.int .i64 z.v,.bool z.c.s,.slice A z.c.n.length c,.slice B z.c.d.length e]] ++ us).toArray w1 (fun r w2=>r=.bool (p z)∧Mod [] w1 w2)
theorem TestT.mod {P:Program} {w w':World} {f:FuncId} {us:List Value} {p:TR→Bool} (h:TestT P w f us p) (hm:Mod [] w w'):TestT P w' f us p:=fun w1 z A B c e C1=>h w1 z A B c e (hm.trans C1)
theorem any_no {p:TR→Bool} {ts:List TR} (h:∀ z∈ts,p z=false):ts.any p=false:=by
  rw [List.any_eq_false]; intro z hz; rw [h z hz]; decide
theorem built_CH9 {P:Program} {t:TypeId} {v0 v1 v2:Value} (h1:∃ A k c,v1=.slice A k c) (h2:∃ A k c,v2=.slice A k c) (h:∀ A1 k1 c1 A2 k2 c2,P.built t [(0,v0),(1,.slice A1 k1 c1),(2,.slice A2 k2 c2)]=some #[v0,.slice A1 k1 c1,.slice A2 k2 c2]):P.built t [(0,v0),(1,v1),(2,v2)]=some #[v0,v1,v2]:=by
  obtain ⟨A1,k1,c1,rfl⟩:=h1;obtain ⟨A2,k2,c2,rfl⟩:=h2
  exact h _ _ _ _ _ _
theorem own_form' {w:World} {B el s k:Nat} {v:Value} {xs:List Value} (h:w.ownsRow B el s v k xs):∃ A k c,v=.slice A k c:=let ⟨A,c,e⟩:=own_form h; ⟨A,k,c,e⟩
theorem Lay.rowI {M:List Nat} {w:World} {v:Value} {zs:List Int} (h:Lay rdI M w v zs):Sl [] w 1 v zs.length (intsZ zs):=by
  obtain ⟨css,h1,h2⟩:=h
  have e:css=zs.map (fun z=>[Value.int .i64 z]):=by
    apply List.ext_getElem (by simp [h2.len])
    intro i a b
    have hb:i<zs.length:=by simpa using b
    have h3:css[i]=[Value.int .i64 zs[i]]:=h2.get i css[i] zs[i] (by simp [a]) (by simp [hb])
    rw [h3]; simp
  have e2:∀ l:List Int,(l.map (fun z=>[Value.int .i64 z])).flatten=intsZ l:=fun l=>by
    induction l with
    | nil=>rfl
    | cons x l ih=>simp only [List.map_cons,List.flatten_cons,ih]; rfl
  subst e
  rw [e2] at h1
  exact h1.sub (by simp)
theorem c_CloneI {N9 : List Nat} {w : World} {v : Value} {zs : List Int} (hL : Lay rdI N9 w v zs) (hz : zs.length ≤ 1000000) :
    Ret Tryz.prog 34 #[v] w (fun r w'=>w'.ownsRow w.heap.size 3 1 r zs.length (intsZ zs)∧Mod [] w w'):=by
 obtain ⟨T,t,rfl⟩:=hL.form;have hcap:=hL.capOf;have hmax:=hL.max; unfold maxLen at hmax
 refine Ret.of (vs:=[.slice T zs.length t]) (n:=8) Tryz.func34 rfl rfl rfl rfl ?_
 have C0:Mod [] w w:=Mod.refl _ _
 refine W.sr<|L.b rfl<|L.z<|W.seq<|W.sr<|L.k rfl<|L.v ((R1.nilSl rfl Q26).asB (c:=T.isNone) (rfl)) rfl<|L.nil ?_
 refine X.seq<|W.cond rfl ?_ ?_
 ·
  intro J4
  have hcc_:=J4
  refine W.sr<|L.b rfl<|L.z<|W.ret<|X.thenRet<|X.result1 rfl (.tmp rfl .nil) ?_
  have h9:=hcap.2.2 (Option.isNone_iff_eq_none.1 J4)
  have h8:zs=[]:=List.length_eq_zero_iff.1 (by omega)
  subst h8
  exact ⟨own_nil _ _ _ _,C0⟩
 intro J4
 have hcc_:=J4
 refine W.skip<|X.seq<|W.sr<|L.buildEmpty Q26 rfl ?_
 intro g5 w1 D5
 have ho:World.ownsRow w1 w.heap.size 3 1 (.slice (some ⟨g5,0,none⟩) 0 0) 0 []:=⟨rfl,.inr ⟨g5,0,#[],rfl,New.ge D5 C0.size,D5.blk,Nat.le_refl _,by decide,rfl,rfl⟩⟩
 replace hL:=hL.new D5;replace C0:=C0.tn D5;clear D5
 obtain ⟨v5,hv_v5⟩:∃ v,v=Value.slice (some ⟨g5,0,none⟩) 0 0:=⟨_,rfl⟩
 have hol_v5:ownL v5=[g5]:=by rw [hv_v5]; rfl
 rw [← hv_v5] at ho ⊢
 replace hL:=hL.sub (of_cons hol_v5);clear hv_v5 hol_v5
 refine L.k rfl ?_
 have hrow:=Lay.rowI hL
 refine L.append rfl rfl ho hrow (intsZ_one zs) Q26 tyZ3 (by omega) (by unfold maxLen; omega) C0.size rfl ?_
 intro v7 w2 O7' X7
 replace hL:=hL.gw X7;replace C0:=Mod.oldOwn C0 X7.mod ho;replace ho:=O7'; clear O7';clear X7
 refine L.b rfl<|L.z<|W.ret<|X.result1 rfl (.tmp rfl .nil) ?_
 exact ⟨own_congr ho (by simp) (by simp),C0⟩
theorem c_IndexT {N9 : List Nat} {w : World} {v : Value} {ts : List TR} {f : FuncId} {us : List Value} {p : TR → Bool} (hL : Lay rdT N9 w v ts) (hT : TestT Tryz.prog w f us p) :
    Ret Tryz.prog 110 #[v,.func (.func f) #[] us.toArray] w (fun r w'=>∃ z:Int,r=.int .i64 z∧(0≤z↔ts.any p=true)∧Mod [] w w'):=by
 obtain ⟨T,t,rfl⟩:=hL.form;have hmax:=hL.max; unfold maxLen at hmax
 refine Ret.of (vs:=[.slice T ts.length t,.func (.func f) #[] us.toArray]) (n:=19) Tryz.func110 rfl rfl rfl rfl ?_
 have C0:Mod [] w w:=Mod.refl _ _
 refine W.sr<|L.b rfl<|L.z<|W.seq<|W.sr<|L.k rfl<|L.lL rfl hL Q37<|L.k rfl ?_
 refine L.z<|W.block<|W.loop (ι:=Nat) (fun i=>[(0,.slice T ts.length t),(1,.func (.func f) #[] us.toArray),(7,.int .i64 (ts.length:Int)),(8,.int .i64 (i:Int))]) (fun i w_=>i≤ts.length∧(∀ z∈ts.take i,p z=false)∧Lay rdT N9 w_ (.slice T ts.length t) ts∧Mod [] w w_) (fun i=>ts.length - i) 0 ?_ ?_ ?_
 · repeat' constructor
 ·
  exact ⟨Nat.zero_le _,(fun z h=>by simp at h),hL,C0⟩
 rintro i w1 ⟨hi,hno,hL,C0⟩
 refine W.sr<|L.lt rfl rfl<|L.z<|W.seq<|W.cond rfl ?_ ?_
 ·
  intro J9
  try simp only [bq,ne_eq] at J9
  refine W.skip<|X.seq<|W.seq<|W.block<|W.sr<|L.k rfl<|L.b rfl<|L.z<|W.seq ?_
  refine W.region<|L.k rfl<|L.k rfl<|L.k rfl<|L.aL (j:=i) rfl rfl hL Q37 rfl (by omega) ?_
  obtain ⟨z15,cs15,P15,V15,ds15,rfl,vn15,vd15,rfl,I15,H15⟩:=Lay.elemQ hL (j:=i) (by omega);obtain ⟨A15,c15,rfl⟩:=I15.form;obtain ⟨B15,e15,rfl⟩:=H15.form
  refine L.v (R1.loadE rfl V15 tyG47) rfl<|L.callV rfl rfl (hT _ z15 _ _ _ _ C0) rfl ?_
  rintro _ w2 ⟨rfl,C2⟩
  replace hL:=hL.gr C2;replace C0:=C0.trans C2;clear C2
  refine L.z<|W.cond rfl ?_ ?_
  ·
   intro J16
   have hcc_:=J16
   refine W.sr<|L.k rfl<|L.b rfl<|L.z<|W.ret<|X.blockRet<|X.thenRet<|X.nextRet<|X.blockRet ?_
   refine X.thenRet<|X.result1 rfl (.tmp rfl .nil) ?_
   exact ⟨_,rfl,⟨fun _=>List.any_eq_true.2 ⟨z15,List.mem_of_getElem? P15,J16⟩,fun _=>by omega⟩,C0⟩
  intro J16
  have hcc_:=J16
  refine W.skip<|X.blockEnd<|X.seq<|W.region<|L.inc rfl rfl (by omega)<|L.k rfl<|L.nil<|X.next (i + 1) ?_ ?_ ?_
  · repeat' constructor
  ·
   refine ⟨by omega,fun z hz=>?_,hL,C0⟩
   obtain ⟨hi9,he9⟩:=List.getElem?_eq_some_iff.1 P15
   rw [List.take_succ_eq_append_getElem hi9,he9] at hz
   rcases List.mem_append.1 hz with h9 | h9
   · exact hno z h9
   rw [List.mem_singleton.1 h9]; exact J16
  first | omega | (dsimp only; omega)
 intro J9
 try simp only [bq,ne_eq] at J9
 obtain rfl:i=ts.length:=by omega
 refine W.brk<|W.sr<|L.b rfl<|L.z<|W.ret ?_
 refine X.result1 rfl (.tmp rfl .nil) ?_
 rw [List.take_length] at hno
 exact ⟨_,rfl,⟨fun h9=>by omega,fun h9=>by rw [any_no hno] at h9; cases h9⟩,C0⟩
theorem c_ContainsT {N9 : List Nat} {w : World} {v : Value} {ts : List TR} {f : FuncId} {us : List Value} {p : TR → Bool} (hL : Lay rdT N9 w v ts) (hT : TestT Tryz.prog w f us p) :
    Ret Tryz.prog 76 #[v,.func (.func f) #[] us.toArray] w (fun r w'=>r=.bool (ts.any p)∧Mod [] w w'):=by
 refine Ret.of (vs:=[v,.func (.func f) #[] us.toArray]) (n:=9) Tryz.func76 rfl rfl rfl rfl ?_
 have C0:Mod [] w w:=Mod.refl _ _
 refine W.sr<|L.b rfl<|L.z<|W.sr<|L.k rfl<|L.k rfl<|L.c rfl (c_IndexT hL hT) ?_
 rintro _ w1 ⟨z7,rfl,P7,C1⟩
 replace C0:=C0.trans C1;clear C1
 refine L.v ((R1.ge rfl rfl).asB (c:=(ts.any p)) (by cases h9:ts.any p <;> simp [h9] at P7 ⊢ <;> omega)) rfl<|L.b rfl<|L.z<|W.ret<|X.result1 rfl (.tmp rfl .nil) ?_
 exact ⟨rfl,C0⟩
theorem c_hasF {w : World} {z : TR} {A B : Option Addr} {c e g : Nat} {v : Int} (hb : Blk w g 3 #[.int .i64 v]) :
    Ret Tryz.prog 106 #[.agg #[.int .i64 z.v,.bool z.c.s,.slice A z.c.n.length c,.slice B z.c.d.length e],.pointer (some ⟨g,0,none⟩)] w (fun r w'=>r=.bool (decide (z.v=v))∧Mod [] w w'):=by
 refine Ret.of (vs:=[.agg #[.int .i64 z.v,.bool z.c.s,.slice A z.c.n.length c,.slice B z.c.d.length e],.pointer (some ⟨g,0,none⟩)]) (n:=8) Tryz.func106 rfl rfl rfl rfl ?_
 have C0:Mod [] w w:=Mod.refl _ _
 refine W.sr<|L.box rfl rfl ?_
 intro g2 w1 D2
 replace hb:=hb.gr D2.mod;replace C0:=C0.tn D2;have E2:=D2.blk;clear D2
 refine L.b rfl<|L.z<|W.sr<|L.fA rfl tyF47_0<|L.lF rfl E2 rfl tyP3<|L.lF rfl hb rfl tyP3<|L.v ((R1.eq rfl rfl).asB (c:=(decide (z.v=v))) (rfl)) rfl<|L.b rfl<|L.nil ?_
 refine X.seq<|W.ret<|X.result1 rfl (.tmp rfl .nil) ?_
 exact ⟨rfl,C0⟩
theorem c_has {N9 : List Nat} {w : World} {c : CR} {vt vn vd : Value} (ht : Lay rdT N9 w vt c.ts) (h : U32 N9 w vn c.k.n) (k : U32 N9 w vd c.k.d) {v : Int} :
    Ret Tryz.prog 69 #[.agg #[.int .i64 c.st,vt,.bool c.k.s,vn,vd],.int .i64 v] w (fun r w'=>r=.bool (hasV c v)∧Mod [] w w'):=by
 obtain ⟨T9,t9,rfl⟩:=ht.form;obtain ⟨A9,c9,rfl⟩:=h.form;obtain ⟨B9,e9,rfl⟩:=k.form
 refine Ret.of (vs:=[.agg #[.int .i64 c.st,.slice T9 c.ts.length t9,.bool c.k.s,.slice A9 c.k.n.length c9,.slice B9 c.k.d.length e9],.int .i64 v]) (n:=9) Tryz.func69 rfl rfl rfl rfl ?_
 have C0:Mod [] w w:=Mod.refl _ _
 refine W.sr<|L.box rfl rfl ?_
 intro g2 w1 D2
 replace ht:=ht.new D2;replace C0:=C0.tn D2;have E2:=D2.blk;clear D2
 refine L.box rfl rfl ?_
 intro g3 w2 D3
 replace ht:=ht.new D3;replace C0:=C0.tn D3;replace E2:=E2.gr D3.mod;have E3:=D3.blk;clear D3
 refine L.b rfl<|L.z<|W.sr<|L.fA rfl tyF42_1<|L.lF rfl E2 rfl tyP37<|L.v (R1.makeFunc rfl rfl) rfl ?_
 have hT:TestT Tryz.prog _ 106 [.pointer (some ⟨g3,0,none⟩)] (fun t=>decide (t.v=v)):=fun w1 z A B c e hm=>c_hasF (E3.gr hm)
 refine L.c rfl (c_ContainsT (p:=fun t=>decide (t.v=v)) (us:=[.pointer (some ⟨g3,0,none⟩)]) ht hT) ?_
 rintro _ w3 ⟨rfl,C3⟩
 replace C0:=C0.trans C3;clear C3
 refine L.b rfl<|L.z<|W.ret<|X.result1 rfl (.tmp rfl .nil) ?_
 exact ⟨rfl,C0⟩
theorem c_Mul64 {w : World} {y : Nat} (hy : y ≤ 1000000) :
    Ret Tryz.prog 126 #[.int .u64 ((1:Nat):Int),.int .u64 ((y:Nat):Int)] w (fun r w'=>r=.tuple #[.int .u64 ((0:Nat):Int),.int .u64 ((y:Nat):Int)]∧Mod [] w w'):=by
 refine Ret.of (vs:=[.int .u64 ((1:Nat):Int),.int .u64 ((y:Nat):Int)]) (n:=51) Tryz.func126 rfl rfl rfl rfl ?_
 have C0:Mod [] w w:=Mod.refl _ _
 refine W.sr<|L.b rfl<|L.b rfl<|L.z<|W.sr<|L.k rfl<|L.v ((R1.andL (b:=4294967295) rfl rfl (by omega) (by omega)).as (j:=((1:Nat):Int)) (by decide)) rfl<|L.b rfl ?_
 refine L.z<|W.sr<|L.k rfl<|L.v (R1.shr32 rfl rfl) rfl<|L.b rfl<|L.z<|W.seq<|W.region ?_
 refine L.k rfl<|L.v ((R1.andL (b:=4294967295) rfl rfl (by omega) (by omega)).as (j:=((y:Nat):Int)) (by congr 1; rw [show (4294967295:Nat)=2 ^ 32 - 1 from rfl,Nat.and_two_pow_sub_one_eq_mod]; exact Nat.mod_eq_of_lt (by omega))) rfl<|L.b rfl<|L.z<|W.sr<|L.k rfl<|L.v (R1.shr32 rfl rfl) rfl<|L.b rfl<|L.nil ?_
 refine X.seq<|W.sr<|L.k rfl<|L.k rfl<|L.v ((R1.mulL rfl rfl (by omega)).as (j:=((y:Nat):Int)) (by omega)) rfl<|L.b rfl<|L.z<|W.seq<|W.region ?_
 refine L.k rfl<|L.k rfl<|L.v ((R1.mulL rfl rfl (by omega)).as (j:=((0:Nat):Int)) (by omega)) rfl<|L.k rfl<|L.v (R1.shr32 rfl rfl) rfl<|L.v ((R1.addL rfl rfl (by omega)).as (j:=((0:Nat):Int)) (by first | omega | decide)) rfl<|L.b rfl<|L.z<|W.seq<|W.region ?_
 refine L.k rfl<|L.v ((R1.andL (b:=4294967295) rfl rfl (by omega) (by omega)).as (j:=((0:Nat):Int)) (by first | omega | decide)) rfl<|L.b rfl<|L.z<|W.sr<|L.k rfl<|L.v (R1.shr32 rfl rfl) rfl<|L.b rfl<|L.nil ?_
 refine X.seq<|W.sr<|L.k rfl<|L.k rfl<|L.k rfl<|L.v ((R1.mulL rfl rfl (by omega)).as (j:=((0:Nat):Int)) (by first | omega | decide)) rfl<|L.v ((R1.addL rfl rfl (by omega)).as (j:=((0:Nat):Int)) (by first | omega | decide)) rfl<|L.b rfl<|L.z ?_
 refine W.sr<|L.k rfl<|L.k rfl<|L.v ((R1.mulL rfl rfl (by omega)).as (j:=((0:Nat):Int)) (by first | omega | decide)) rfl<|L.k rfl<|L.v ((R1.addL rfl rfl (by omega)).as (j:=((0:Nat):Int)) (by first | omega | decide)) rfl<|L.k rfl<|L.v (R1.shr32 rfl rfl) rfl<|L.v ((R1.addL rfl rfl (by omega)).as (j:=((0:Nat):Int)) (by first | omega | decide)) rfl<|L.b rfl ?_
 refine L.z<|W.sr<|L.k rfl<|L.k rfl<|L.v ((R1.mulL rfl rfl (by omega)).as (j:=((y:Nat):Int)) (by omega)) rfl<|L.b rfl<|L.z<|W.ret ?_
 refine X.result2 rfl (.tmp rfl (.tmp rfl .nil)) ?_
 exact ⟨rfl,C0⟩
theorem c_Mul {w : World} {y : Nat} (hy : y ≤ 1000000) :
    Ret Tryz.prog 105 #[.int .u64 ((1:Nat):Int),.int .u64 ((y:Nat):Int)] w (fun r w'=>r=.tuple #[.int .u64 ((0:Nat):Int),.int .u64 ((y:Nat):Int)]∧Mod [] w w'):=by
 refine Ret.of (vs:=[.int .u64 ((1:Nat):Int),.int .u64 ((y:Nat):Int)]) (n:=30) Tryz.func105 rfl rfl rfl rfl ?_
 have C0:Mod [] w w:=Mod.refl _ _
 refine W.sr<|L.b rfl<|L.b rfl<|L.z<|W.seq<|W.condF rfl<|W.skip<|X.seq<|W.seq ?_
 refine W.region<|L.k rfl<|L.k rfl<|L.c rfl (c_Mul64 hy) ?_
 rintro _ w1 ⟨rfl,C1⟩
 replace C0:=C0.trans C1;clear C1
 refine L.k rfl<|L.ex rfl rfl<|L.ex rfl rfl<|L.b rfl<|L.b rfl<|L.z<|W.sr<|L.k rfl<|L.k rfl ?_
 refine L.b rfl<|L.b rfl<|L.z<|W.ret<|X.result2 rfl (.tmp rfl (.tmp rfl .nil)) ?_
 exact ⟨rfl,C0⟩
theorem cut_lo9 {g n k:Nat} (h:k<n):cutS (some ⟨g,0,none⟩) n ((k:Int).toNat) n 1=.slice (some ⟨g,k,none⟩) (n - k) (n - k):=by
  have h9:n≠k:=by omega
  simp [cutS,h9,add_lit]
theorem cut_hi9 {g n k:Nat}:cutS (some ⟨g,0,none⟩) n 0 ((k:Int).toNat) 1=.slice (some ⟨g,0,none⟩) k n:=by
  simp [cutS,add_lit]
def fillR (x:Int) (n k:Nat):List Int:=List.replicate k x ++ List.replicate (n - k) 0
theorem fillR_full (x:Int) (n:Nat):fillR x n n=List.replicate n x:=by simp [fillR]
theorem fillR_zero (x:Int) (n:Nat):fillR x n 0=List.replicate n 0:=by simp [fillR]
theorem fillR_len {x:Int} {n k:Nat} (h:k≤n):(intsZ (fillR x n k)).length=n:=by simp [fillR,intsZ]; omega
theorem made_intZ (m:Nat):madeCells (Value.int .i64 0).cells (m * 1)=(intsZ (List.replicate m 0)).toArray:=by
  have:=toList_madeCells_one (.int .i64 0) (m * 1)
  rw [← Array.toList_inj]
  simp only [Value.cells]
  rw [this]
  simp [intsZ]
theorem copy_src {w:World} {g t:Nat} {cur cs:List Value} (hb:Blk w g t cur.toArray) (h:∀ (j:Nat) v,cs[j]?=some v→cur[j]?=some v):∀ (j:Nat) v,cs[j]?=some v→w.cell? ((⟨g,0,none⟩:Addr).add j)=some v:=fun j v hj=>by
  rw [add_lit,hb.cell]; simpa using h j v hj
theorem fill_step9 {x:Int} {n k m:Nat} (h:k + m≤n):(intsZ (fillR x n k)).take k ++ intsZ (List.replicate m x) ++ (intsZ (fillR x n k)).drop (k + (intsZ (List.replicate m x)).length)=intsZ (fillR x n (k + m)):=by
  have e1:(intsZ (fillR x n k)).take k=intsZ (List.replicate k x):=by unfold fillR; rw [intsZ_append,List.take_left' (by simp [intsZ])]
  have e2:(intsZ (fillR x n k)).drop (k + (intsZ (List.replicate m x)).length)=intsZ (List.replicate (n - (k + m)) 0):=by
    unfold fillR
    rw [intsZ_append,List.drop_append]
    simp [intsZ]
    omega
  rw [e1,e2,← intsZ_append,← intsZ_append]
  unfold fillR
  rw [List.replicate_append_replicate]
theorem fill_src {x:Int} {n k m:Nat} (h:m≤k):∀ (j:Nat) v,(intsZ (List.replicate m x))[j]?=some v→(intsZ (fillR x n k))[j]?=some v:=fun j v hj=>by
  obtain ⟨h1,h2⟩:=List.getElem?_eq_some_iff.1 hj
  have h3:j<m:=by simpa [intsZ] using h1
  unfold fillR
  rw [intsZ_append,List.getElem?_append_left (by rw [intsZ_length,List.length_replicate]; omega),← h2]
  simp [intsZ,List.getElem?_replicate,show j<k by omega]
theorem own_full {w:World} {B el g n:Nat} {cs:List Value} (hb:Blk w g el cs.toArray) (hge:B≤g) (hl:cs.length=n) (hn:n≤maxLen):w.ownsRow B el 1 (.slice (some ⟨g,0,none⟩) n n) n cs :=
  ⟨by omega,.inr ⟨g,n,cs.toArray,rfl,hge,hb,Nat.le_refl _,hn,by simp; omega,by simp [List.take_of_length_le,hl]⟩⟩
theorem c_RepeatI {w : World} {g0 n : Nat} {x : Int} (hb : Blk w g0 3 #[.int .i64 x]) (I1 : 1 ≤ n) (hn : n ≤ 1000000) :
    Ret Tryz.prog 68 #[.slice (some ⟨g0,0,none⟩) 1 1,.int .i64 ((n:Nat):Int)] w (fun r w'=>w'.ownsRow w.heap.size 3 1 r n (intsZ (List.replicate n x))∧Mod [] w w'):=by
 refine Ret.of (vs:=[.slice (some ⟨g0,0,none⟩) 1 1,.int .i64 ((n:Nat):Int)]) (n:=48) Tryz.func68 rfl rfl rfl rfl ?_
 have C0:Mod [] w w:=Mod.refl _ _
 refine W.sr<|L.b rfl<|L.z<|W.seq<|W.sr<|L.k rfl<|L.lt rfl rfl<|L.nil ?_
 refine X.seq<|W.cond rfl ?_ ?_
 ·
  intro J10
  try simp only [bq,ne_eq] at J10
  omega
 intro J10
 try simp only [bq,ne_eq] at J10
 refine W.skip<|X.seq<|W.sr<|L.k rfl<|L.v (R1.len rfl Q26) rfl<|L.v (R1.convIL rfl tyI3 tyI117 (by omega)) rfl<|L.k rfl<|L.v (R1.convIL rfl tyI3 tyI117 (by omega)) rfl<|L.c rfl (c_Mul (y:=n) hn) ?_
 rintro _ w1 ⟨rfl,C1⟩
 replace hb:=hb.gr C1;replace C0:=C0.trans C1;clear C1
 refine L.k rfl<|L.ex rfl rfl<|L.ex rfl rfl<|L.b rfl<|L.b rfl<|L.z<|W.seq<|W.sr<|L.k rfl ?_
 refine L.v ((R1.gt rfl rfl).asB (c:=false) (by simp)) rfl<|L.k rfl<|L.p rfl (R1.move rfl)<|L.p rfl ((R1.gt rfl rfl).asB (c:=false) (by simp; omega))<|L.pF rfl rfl<|L.z<|W.condF rfl<|W.skip<|X.seq<|W.seq ?_
 refine W.region<|L.k rfl<|L.v (R1.convLI rfl tyI117 tyI3 (by omega)) rfl<|L.makeSlice (m:=n) rfl rfl rfl rfl Q26 tyZ3 (by omega) (by unfold maxLen; omega) rfl ?_
 intro g30 w2 D30
 replace hb:=hb.gr D30.mod;have K30:=New.ge D30 C0.size;replace C0:=C0.tn D30;have E30:=D30.blk;clear D30
 rw [made_intZ] at E30
 rw [← fillR_zero x n] at E30
 refine L.b rfl<|L.z<|W.sr<|L.k rfl<|L.k rfl<|L.copyAt (cs:=(intsZ (List.replicate 1 x))) rfl rfl E30 (by simp [intsZ]; omega) (copy_src (cur:=[.int .i64 x]) hb (fun j v hj=>hj)) (by rw [fillR_len (by omega)]; simp [intsZ]; omega) (intsZ_one _) Q26 rfl ?_
 intro w3 E30' C3
 replace C0:=C0.old1 C3 K30;clear C3;replace E30:=E30'; clear E30';have e9:=fill_step9 (x:=x) (n:=n) (k:=0) (m:=1) (by omega)
 rw [e9] at E30
 clear e9
 refine L.b rfl<|L.z<|W.seq<|W.block<|W.loop (ι:=Nat) (fun k=>[(7,.slice (some ⟨g30,0,none⟩) n n),(8,.int .i64 ((k:Nat):Int))]) (fun k w_=>1≤k∧k≤n∧w.heap.size≤g30∧Blk w_ g30 3 (intsZ (fillR x n k)).toArray∧Mod [] w w_) (fun k=>n - k) 1 ?_ ?_ ?_
 · exact ⟨rfl,rfl,trivial⟩
 ·
  exact ⟨Nat.le_refl _,I1,K30,E30,C0⟩
 rintro k w4 ⟨hk1,hk,K30,E30,C0⟩
 refine W.seq<|W.sr<|L.k rfl<|L.k rfl<|L.v (R1.len rfl Q26) rfl<|L.lt rfl rfl<|L.z<|W.cond rfl ?_ ?_
 ·
  intro J37
  try simp only [bq,ne_eq] at J37
  refine W.skip<|X.seq<|W.block<|W.drawG [g30] (T:=[]) rfl (by decide +kernel) (NoHang.block (NoHang.next (NoHang.block (NoHang.then NoHang.post)))) (fun w5 C5=>?_)
  replace E30:=E30.gr C5;replace C0:=C0.trans C5
  have G1:Mod [g30] w5 w5:=Mod.refl _ _
  clear C5
  refine D.z 0 rfl (by kernel_rfl) rfl G1<|D.z 1 rfl (by kernel_rfl) rfl G1<|D.z 2 rfl (by kernel_rfl) rfl G1<|D.t 3 rfl (by kernel_rfl) (fun _ hS=>(R1.sliceL rfl rfl Q26 (by omega) (by omega)).asV (v:=.slice (some ⟨g30,k,none⟩) (n - k) (n - k)) (cut_lo9 (by omega))) G1<|D.z 4 rfl (by kernel_rfl) rfl G1<|D.z 5 rfl (by kernel_rfl) rfl G1<|D.t 6 rfl (by kernel_rfl) (fun _ hS=>(R1.sliceH rfl rfl Q26 (by omega) (by omega)).asV (v:=.slice (some ⟨g30,0,none⟩) k n) (cut_hi9)) G1 ?_
  have hl9:(intsZ (List.replicate (min (n - k) k) x)).length=(min (n - k) k):=by simp [intsZ]
  refine D.one 7 rfl (by kernel_rfl) (fun hX=>?_)
  refine L.copyAt (cs:=(intsZ (List.replicate (min (n - k) k) x))) rfl rfl E30 (by simp [intsZ]) (copy_src E30 (fill_src (by omega))) (by rw [fillR_len (by omega)]; simp [intsZ]; omega) (intsZ_one _) Q26 rfl ?_
  intro w6 E30' C6
  replace G1:=G1.trans C6;replace C0:=C0.old1 C6 K30;clear C6;replace E30:=E30'; clear E30'
  refine L.nil (hX _ _ ⟨.inr G1,?_⟩)
  have e9:=fill_step9 (x:=x) (n:=n) (k:=k) (m:=(min (n - k) k)) (by omega)
  rw [e9] at E30
  clear e9
  refine D.t 8 rfl (by kernel_rfl) (fun _ hS=>R1.addI rfl rfl (by omega)) G1<|D.t 9 rfl (by kernel_rfl) (fun _ hS=>R1.assign rfl) G1<|D.done (by decide +kernel) ?_ _
  refine X.blockEnd<|X.next (k + (intsZ (List.replicate (min (n - k) k) x)).length) ?_ ?_ ?_
  · exact ⟨rfl,rfl,trivial⟩
  ·
   exact ⟨by omega,by omega,K30,by rw [hl9]; exact E30,C0⟩
  first | omega | (dsimp only; omega)
 intro J37
 try simp only [bq,ne_eq] at J37
 obtain rfl:k=n:=by omega
 refine W.brk<|W.sr<|L.k rfl<|L.b rfl<|L.z ?_
 refine W.ret<|X.result1 rfl (.tmp rfl .nil) ?_
 rw [fillR_full] at E30
 exact ⟨own_full E30 K30 (by simp [intsZ]) (by unfold maxLen; omega),C0⟩
end Go.Proofs.YthoooolflmbmbaaGreat
end
section
namespace Go.Proofs.YthoooolflmbmbaaGreat
open Go.RowKit
set_option linter.unusedVariables false
set_option linter.unusedSimpArgs false
set_option maxRecDepth 10000
theorem built_CH (A:Option Addr) (k c:Nat) (A1:Option Addr) (k1 c1:Nat) (A2:Option Addr) (k2 c2:Nat):Tryz.prog.built 78 [(0,.slice A k c),(1,.slice A1 k1 c1),(2,.slice A2 k2 c2)]=some #[.slice A k c,.slice A1 k1 c1,.slice A2 k2 c2]:=by kernel_rfl
theorem getD_at {l:List Int} {i:Nat} (h:i<l.length):l[i]=l.getD i 0:=by simp [List.getD_eq_getElem?_getD,h]
theorem c_chosen {M : List Nat} {w : World} {vl vo : Value} {cs : List CR} {os : List Int} {z0 : Int} (hL : Lay rdC M w vl cs) (hO : Lay rdI M w vo os) (hbd : Bd M w) (hsm : ∀ c ∈ cs, SmC 1099511627776 c) :
    Ret Tryz.prog 33 #[vl,vo,.int .i64 z0] w (fun r w'=>∃ p,r=.tuple #[p,.bool (ChB z0 cs os)]∧(ChB z0 cs os=true→∃ g v1 v2,p=.pointer (some ⟨g,0,none⟩)∧Blk w' g 78 #[vl,v1,v2]∧w'.ownsRow w.heap.size 3 1 v1 os.length (intsZ os)∧w'.ownsRow w.heap.size 3 1 v2 z0.toNat (intsZ (byZ z0.toNat os os.length))∧w.heap.size≤g∧v1.ownBlock≠some g∧v2.ownBlock≠some g∧Away v1 v2)∧Mod [] w w'):=by
 obtain ⟨TL,tL,rfl⟩:=hL.form;obtain ⟨TO,tO,rfl⟩:=hO.form;have hmaxL:=hL.max; unfold maxLen at hmaxL;have hmaxO:=hO.max; unfold maxLen at hmaxO
 refine Ret.of (vs:=[.slice TL cs.length tL,.slice TO os.length tO,.int .i64 z0]) (n:=81) Tryz.func33 rfl rfl rfl rfl ?_
 have C0:Mod [] w w:=Mod.refl _ _
 refine W.sr<|L.b rfl<|L.b rfl<|L.z<|W.seq<|W.sr<|L.k rfl<|L.v ((R1.lt rfl rfl).asB (c:=(decide (z0<1))) (rfl)) rfl ?_
 refine L.k rfl ?_
 cases W14:(decide (z0<1))
 ·
  try simp only [bq,ne_eq] at W14
  refine L.p rfl (R1.move rfl)<|L.p rfl ((R1.gt rfl rfl).asB (c:=(decide (64<z0))) (rfl))<|L.pF rfl rfl<|L.k rfl ?_
  cases W18:(decide (64<z0))
  ·
   try simp only [bq,ne_eq] at W18
   refine L.p rfl (R1.move rfl)<|L.p rfl (R1.lenLay rfl hL Q22)<|L.p rfl ((R1.gt rfl rfl).asB (c:=(decide ((256:Int)<(cs.length:Int)))) (rfl))<|L.pF rfl rfl<|L.k rfl ?_
   cases W23:(decide ((256:Int)<(cs.length:Int)))
   ·
    try simp only [bq,ne_eq] at W23
    refine L.p rfl (R1.move rfl)<|L.p rfl (R1.lenLay rfl hO Q26)<|L.p rfl (R1.move rfl)<|L.p rfl (R1.lenLay rfl hL Q22)<|L.p rfl (R1.ne rfl rfl)<|L.pF rfl rfl<|L.z<|W.cond rfl ?_ ?_
    ·
     intro J29
     try simp only [bq,ne_eq] at J29
     refine W.sr<|L.b rfl<|L.b rfl<|L.z<|W.ret<|X.thenRet<|X.result2 rfl (.tmp rfl (.tmp rfl .nil)) ?_
     have hbad:ChB z0 cs os=false:=ChB_size (by omega)
     exact ⟨.pointer none,by rw [hbad],(fun h9=>by rw [hbad] at h9; cases h9),C0⟩
    intro J29
    try simp only [bq,ne_eq] at J29
    obtain ⟨n,rfl⟩:∃ n:Nat,z0=(n:Int):=⟨z0.toNat,by omega⟩
    have I1:1≤n:=by omega
    have I2:n≤64:=by omega
    have hl1:cs.length≤256:=by omega
    have hl2:os.length=cs.length:=by omega
    refine W.skip<|X.seq<|W.sr<|L.k rfl<|L.k rfl<|L.c rfl (c_CloneI hO (by omega)) ?_
    rintro v32 w1 ⟨O32,C1⟩
    replace hL:=hL.ownd O32 C1;replace hO:=hO.ownd O32 C1;replace hbd:=hbd.ownd O32 C1;replace O32:=own_less O32 C0.size;replace C0:=C0.trans C1;clear C1
    refine L.build1 rfl rfl Q26 tyZ3 rfl ?_
    intro g33 w2 D33
    replace hL:=hL.new D33;replace hO:=hO.new D33;replace hbd:=hbd.new D33;have K33:=New.ge D33 C0.size;replace C0:=C0.tn D33;have hno_ho32_g33:=own_ne_new O32 D33;replace O32:=own_gs O32 D33.mod;have E33:=D33.blk;clear D33
    refine L.k rfl<|L.c rfl (c_RepeatI E33 (by omega) (by omega)) ?_
    rintro v35 w3 ⟨O35,C3⟩
    replace hL:=hL.ownd O35 C3;replace hO:=hO.ownd O35 C3;replace hbd:=hbd.ownd O35 C3;have hno_ho35_g33:=own_ne_old O35 E33;have haw_ho32_ho35:=own_away_res O32 O35;replace O35:=own_less O35 C0.size;replace C0:=C0.trans C3;replace O32:=own_gs O32 C3;replace E33:=E33.gr C3;clear C3
    rw [← byZ_zero n os] at O35
    refine L.v (R1.build (vs:=[.slice TL cs.length tL,v32,v35]) rfl (built_CH9 (own_form' O32) (own_form' O35) (built_CH _ _ _))) rfl<|L.box rfl rfl ?_
    intro g37 w4 D37
    replace hL:=hL.new D37;replace hO:=hO.new D37;replace hbd:=hbd.new D37;have K37:=New.ge D37 C0.size;replace C0:=C0.tn D37;have hno_ho32_g37:=own_ne_new O32 D37;replace O32:=own_gs O32 D37.mod;have hno_ho35_g37:=own_ne_new O35 D37;replace O35:=own_gs O35 D37.mod;have E37:=D37.blk;clear D37
    refine L.b rfl<|L.z<|W.seq<|W.sr<|L.k rfl<|L.lL rfl hL Q22<|L.k rfl<|L.z ?_
    refine W.block<|W.loop (ι:=Nat) (fun i=>[(0,.slice TL cs.length tL),(1,.slice TO os.length tO),(2,.int .i64 ((n:Nat):Int)),(8,.pointer (some ⟨g37,0,none⟩)),(38,.slice TL cs.length tL),(39,.int .i64 ((cs.length:Nat):Int)),(40,.int .i64 ((i:Nat):Int))]) (fun i w_=>Lay rdC (g37 :: (ownL v35 ++ (ownL v32 ++ M))) w_ (.slice TL cs.length tL) cs∧Lay rdI (g37 :: (ownL v35 ++ (ownL v32 ++ M))) w_ (.slice TO os.length tO) os∧Bd (g37 :: (ownL v35 ++ (ownL v32 ++ M))) w_∧Blk w_ g37 78 #[.slice TL cs.length tL,v32,v35]∧w_.ownsRow w.heap.size 3 1 v32 os.length (intsZ os)∧w_.ownsRow w.heap.size 3 1 v35 n (intsZ (byZ n os i))∧w.heap.size≤g37∧v32.ownBlock≠some g37∧v35.ownBlock≠some g37∧Away v32 v35∧i≤cs.length∧chP (n:Int) cs os i∧Mod [] w w_) (fun i=>cs.length - i) 0 ?_ ?_ ?_
    · repeat' constructor
    ·
     exact ⟨hL.su,hO.su,hbd.su,E37,O32,O35,K37,hno_ho32_g37,hno_ho35_g37,haw_ho32_ho35,Nat.zero_le _,chP_zero,C0⟩
    rintro i w5 ⟨hL,hO,hbd,E37,O32,O35,K37,hno_ho32_g37,hno_ho35_g37,haw_ho32_ho35,hi,hch,C0⟩
    refine W.sr<|L.lt rfl rfl<|L.z<|W.seq<|W.cond rfl ?_ ?_
    ·
     intro J41
     try simp only [bq,ne_eq] at J41
     refine W.skip<|X.seq<|W.seq<|W.block<|W.sr<|L.k rfl<|L.aL (j:=i) rfl rfl hL Q22 rfl (by omega) ?_
     obtain ⟨z44,cs44,P44,V44,vt44,ds44,rfl,Y44,vn44,vd44,rfl,I44,H44⟩:=Lay.elemQ hL (j:=i) (by omega);obtain ⟨T44,t44,rfl⟩:=Y44.form;obtain ⟨A44,c44,rfl⟩:=I44.form;obtain ⟨B44,e44,rfl⟩:=H44.form
     refine L.v (R1.loadE rfl V44 tyG42) rfl<|L.alloc tyZ42 rfl ?_
     intro g10 w6 D10
     replace hL:=hL.new D10;replace hO:=hO.new D10;replace hbd:=hbd.new D10;have hne_g37_g10:=E37.ne_ D10;replace E37:=E37.gr D10.mod;have hno_ho32_g10:=own_ne_new O32 D10;replace O32:=own_gs O32 D10.mod;have hno_ho35_g10:=own_ne_new O35 D10;replace O35:=own_gs O35 D10.mod;have K10:=New.ge D10 C0.size;replace C0:=C0.tn D10;replace Y44:=Y44.new D10;replace I44:=I44.new D10;replace H44:=H44.new D10;have E10:=D10.blk;clear D10
     refine L.b rfl<|L.storeBox rfl rfl E10 rfl rfl tyG42 ?_
     intro w7 E10' C7
     replace hL:=hL.ms C7;replace hO:=hO.ms C7;replace hbd:=hbd.gr C7;replace E37:=E37.fr C7;replace O32:=own_far O32 C7 hno_ho32_g10;replace O35:=own_far O35 C7 hno_ho35_g10;replace C0:=C0.old1 C7 K10;replace Y44:=Y44.ms C7;replace I44:=I44.ms C7;replace H44:=H44.ms C7;clear C7;replace E10:=E10'; clear E10'
     refine L.z<|W.seq<|W.sr<|L.v (R1.loadBox rfl E10 tyG42) rfl<|L.k rfl<|L.c rfl (c_aff_Is Y44 I44 H44 (n:=(n:Int)) (by omega) hbd (hsm _ (List.mem_of_getElem? P44))) ?_
     rintro _ w8 ⟨rfl,C8⟩
     replace hL:=hL.gr C8;replace hO:=hO.gr C8;replace hbd:=hbd.gr C8;replace E37:=E37.gr C8;replace O32:=own_gs O32 C8;replace O35:=own_gs O35 C8;replace C0:=C0.trans C8;replace Y44:=Y44.gr C8;replace I44:=I44.gr C8;replace H44:=H44.gr C8;replace E10:=E10.gr C8;clear C8
     refine L.v (R1.not rfl) rfl<|L.z<|W.cond rfl ?_ ?_
     ·
      intro J48
      simp only [Bool.not_eq_true',Bool.not_eq_false'] at J48
      refine W.sr<|L.b rfl<|L.b rfl<|L.z<|W.ret<|X.thenRet<|X.blockRet<|X.thenRet<|X.nextRet ?_
      refine X.blockRet<|X.thenRet<|X.result2 rfl (.tmp rfl (.tmp rfl .nil)) ?_
      have hbad:ChB (n:Int) cs os=false:=ChB_step (i:=i) (by omega) (fun h9=>by have h8:=h9.1; rw [getD_of_get P44,J48] at h8; cases h8)
      exact ⟨.pointer none,by rw [hbad],(fun h9=>by rw [hbad] at h9; cases h9),C0⟩
     intro J48
     simp only [Bool.not_eq_true',Bool.not_eq_false'] at J48
     have hC:=J48
     have hgi:cs.getD i c0R=z44:=getD_of_get P44
     refine W.skip<|X.seq<|W.sr<|L.k rfl<|L.k rfl<|L.aL (j:=i) rfl rfl hO Q26 rfl (by omega)<|L.v (R1.loadLI rfl hO tyP3 (by omega) (getD_at _)) rfl<|L.b rfl<|L.z ?_
     refine W.seq<|W.sr<|L.k rfl<|L.v (R1.eq rfl rfl) rfl<|L.z<|W.cond rfl ?_ ?_
     ·
      intro J54
      try simp only [bq,ne_eq] at J54
      refine W.exit<|X.thenExit<|X.here<|X.seq<|W.region<|L.inc rfl rfl (by omega)<|L.k rfl<|L.nil<|X.next (i + 1) ?_ ?_ ?_
      · repeat' constructor
      ·
       exact ⟨hL.su,hO.su,hbd.su,E37,O32,own_congr O35 rfl (by rw [byZ_skip (by omega) J54]),K37,hno_ho32_g37,hno_ho35_g37,haw_ho32_ho35,by omega,chP_succ hch ⟨by rw [hgi]; exact hC,.inl J54⟩,C0⟩
      first | omega | (dsimp only; omega)
     intro J54
     try simp only [bq,ne_eq] at J54
     refine W.skip<|X.seq<|W.seq<|W.sr<|L.v (R1.loadBox rfl E10 tyG42) rfl<|L.k rfl<|L.c rfl (c_has Y44 I44 H44) ?_
     rintro _ w9 ⟨rfl,C9⟩
     replace hL:=hL.gr C9;replace hO:=hO.gr C9;replace hbd:=hbd.gr C9;replace E37:=E37.gr C9;replace O32:=own_gs O32 C9;replace O35:=own_gs O35 C9;replace C0:=C0.trans C9;replace Y44:=Y44.gr C9;replace I44:=I44.gr C9;replace H44:=H44.gr C9;replace E10:=E10.gr C9;clear C9
     refine L.v (R1.not rfl) rfl<|L.k rfl ?_
     cases W59:(!(hasV z44 (os.getD i 0)))
     ·
      simp only [Bool.not_eq_true',Bool.not_eq_false'] at W59
      obtain ⟨hv1,hv2⟩:=hasV_lt hC W59
      refine L.p rfl (R1.move rfl)<|L.p rfl (R1.nilCheck rfl)<|L.p rfl (R1.fieldAt rfl tyF78_2)<|L.p rfl ((R1.loadFld rfl E37 rfl tyP26).asV (v:=v35) rfl)<|L.p rfl (R1.move rfl)<|L.p rfl (R1.atOwn (i:=(os.getD i 0).toNat) rfl rfl O35 Q26 (by omega) (by omega))<|L.p rfl (R1.ldZ rfl O35 (by omega) tyP3)<|L.p rfl ((R1.ne rfl rfl).asB (c:=(decide ((byZ n os i).getD (os.getD i 0).toNat 0≠-1))) (rfl))<|L.pF rfl rfl<|L.z ?_
      refine W.cond rfl ?_ ?_
      ·
       intro J68
       try simp only [bq,ne_eq] at J68
       refine W.sr<|L.b rfl<|L.b rfl<|L.z<|W.ret<|X.thenRet<|X.blockRet<|X.thenRet<|X.nextRet ?_
       refine X.blockRet<|X.thenRet<|X.result2 rfl (.tmp rfl (.tmp rfl .nil)) ?_
       have hbad:ChB (n:Int) cs os=false:=ChB_step (i:=i) (by omega) (fun h9=>by
         have h8:=h9.2
         rw [hgi] at h8
         first
         | (rw [W59] at h8; rcases h8 with h8 | h8; exact J54 h8; exact absurd h8.1 (by decide))
         | (rcases h8 with h8 | h8; exact J54 h8; apply J68; rw [byZ_get os i (by omega),fi_neg1,who_no (by omega)]; intro k hk; have:=h8.2 k hk; omega))
       exact ⟨.pointer none,by rw [hbad],(fun h9=>by rw [hbad] at h9; cases h9),C0⟩
      intro J68
      try simp only [bq,ne_eq] at J68
      refine W.skip<|X.seq<|W.region<|L.k rfl<|L.v (R1.nilCheck rfl) rfl<|L.fA rfl tyF78_2<|L.v ((R1.loadFld rfl E37 rfl tyP26).asV (v:=v35) rfl) rfl<|L.k rfl<|L.k rfl<|L.v (R1.atOwn (i:=(os.getD i 0).toNat) rfl rfl O35 Q26 (by omega) (by omega)) rfl<|L.storeZ rfl rfl O35 (by omega) tyP3 ?_
      intro w10 O35' C10
      replace hL:=hL.mo C10;replace hO:=hO.mo C10;replace hbd:=hbd.gr C10;replace E37:=Blk.ownfar E37 C10 hno_ho35_g37;replace O32:=own_away (s':=1) (el':=0) (k':=0) (B':=0) (ys:=[]) O32 C10 (by first | assumption | exact Away.symm (by assumption));replace C0:=Mod.oldOwn C0 C10 O35;replace Y44:=Y44.mo C10;replace I44:=I44.mo C10;replace H44:=H44.mo C10;clear C10;replace O35:=O35'; clear O35'
      refine L.nil<|X.blockEnd<|X.seq<|W.region<|L.inc rfl rfl (by omega)<|L.k rfl<|L.nil<|X.next (i + 1) ?_ ?_ ?_
      · repeat' constructor
      ·
       have hno9:(byZ n os i).getD (os.getD i 0).toNat 0=-1:=by omega
       exact ⟨hL.su,hO.su,hbd.su,E37,O32,own_congr O35 rfl (by rw [byZ_set (v:=(os.getD i 0).toNat) (by omega) (by omega) (by omega) hno9]),K37,hno_ho32_g37,hno_ho35_g37,haw_ho32_ho35,by omega,chP_succ hch ⟨by rw [hgi]; exact hC,.inr ⟨by rw [hgi]; exact W59,fun k hk=>by have h9:=hno9; rw [byZ_get os i (by omega),fi_neg1,who_no (by omega)] at h9; have:=h9 k hk; omega⟩⟩,C0⟩
      first | omega | (dsimp only; omega)
     simp only [Bool.not_eq_true',Bool.not_eq_false'] at W59
     refine L.o rfl<|L.o rfl<|L.o rfl<|L.o rfl<|L.o rfl<|L.o rfl<|L.o rfl<|L.o rfl<|L.pT rfl rfl<|L.z ?_
     refine W.condT rfl<|W.sr<|L.b rfl<|L.b rfl<|L.z<|W.ret<|X.thenRet<|X.blockRet<|X.thenRet ?_
     refine X.nextRet<|X.blockRet<|X.thenRet<|X.result2 rfl (.tmp rfl (.tmp rfl .nil)) ?_
     have hbad:ChB (n:Int) cs os=false:=ChB_step (i:=i) (by omega) (fun h9=>by
       have h8:=h9.2
       rw [hgi] at h8
       first
       | (rw [W59] at h8; rcases h8 with h8 | h8; exact J54 h8; exact absurd h8.1 (by decide))
       | (rcases h8 with h8 | h8; exact J54 h8; apply J68; rw [byZ_get os i (by omega),fi_neg1,who_no (by omega)]; intro k hk; have:=h8.2 k hk; omega))
     exact ⟨.pointer none,by rw [hbad],(fun h9=>by rw [hbad] at h9; cases h9),C0⟩
    intro J41
    try simp only [bq,ne_eq] at J41
    obtain rfl:i=cs.length:=by omega
    refine W.brk<|W.sr<|L.k rfl<|L.k rfl<|L.k rfl<|L.c rfl (c_Forest hL hbd hsm) ?_
    rintro _ w11 ⟨rfl,C11⟩
    replace E37:=E37.gr C11;replace O32:=own_gs O32 C11;replace O35:=own_gs O35 C11;replace C0:=C0.trans C11;clear C11
    refine L.b rfl<|L.b rfl<|L.z<|W.ret<|X.result2 rfl (.tmp rfl (.tmp rfl .nil)) ?_
    have hfull:=ChB_full I1 I2 hl1 hl2 hch
    rw [hfull]
    exact ⟨_,rfl,fun _=>⟨g37,v32,v35,rfl,E37,O32,by rw [hl2]; exact O35,K37,hno_ho32_g37,hno_ho35_g37,haw_ho32_ho35⟩,C0⟩
   try simp only [bq,ne_eq] at W23
   refine L.o rfl<|L.o rfl<|L.o rfl<|L.o rfl<|L.o rfl<|L.pT rfl rfl<|L.z<|W.condT rfl<|W.seq<|W.region ?_
   refine L.b rfl<|L.b rfl<|L.z<|W.ret<|X.thenRet<|X.result2 rfl (.tmp rfl (.tmp rfl .nil)) ?_
   have hbad:ChB z0 cs os=false:=ChB_size (by omega)
   exact ⟨.pointer none,by rw [hbad],(fun h9=>by rw [hbad] at h9; cases h9),C0⟩
  try simp only [bq,ne_eq] at W18
  refine L.o rfl<|L.o rfl<|L.o rfl<|L.pT rfl rfl<|L.k rfl<|L.o rfl<|L.o rfl<|L.o rfl<|L.o rfl<|L.o rfl<|L.pT rfl rfl ?_
  refine L.z<|W.condT rfl<|W.sr<|L.b rfl<|L.b rfl<|L.z<|W.ret<|X.thenRet ?_
  refine X.result2 rfl (.tmp rfl (.tmp rfl .nil)) ?_
  have hbad:ChB z0 cs os=false:=ChB_size (by omega)
  exact ⟨.pointer none,by rw [hbad],(fun h9=>by rw [hbad] at h9; cases h9),C0⟩
 try simp only [bq,ne_eq] at W14
 refine L.o rfl<|L.o rfl<|L.pT rfl rfl<|L.k rfl<|L.o rfl<|L.o rfl<|L.o rfl<|L.pT rfl rfl<|L.k rfl<|L.o rfl<|L.o rfl ?_
 refine L.o rfl<|L.o rfl<|L.o rfl<|L.pT rfl rfl<|L.z<|W.condT rfl<|W.sr<|L.b rfl<|L.b rfl ?_
 refine L.z<|W.ret<|X.thenRet<|X.result2 rfl (.tmp rfl (.tmp rfl .nil)) ?_
 have hbad:ChB z0 cs os=false:=ChB_size (by omega)
 exact ⟨.pointer none,by rw [hbad],(fun h9=>by rw [hbad] at h9; cases h9),C0⟩
theorem c_dIs {M : List Nat} {w : World} {vl vo : Value} {cs : List CR} {os : List Int} {z0 : Int} (hL : Lay rdC M w vl cs) (hO : Lay rdI M w vo os) (hbd : Bd M w) (hsm : ∀ c ∈ cs, SmC 1099511627776 c) :
    Ret Tryz.prog 41 #[vl,vo,.int .i64 z0] w (fun r w'=>r=.bool (ChB z0 cs os)∧Mod [] w w'):=by
 refine Ret.of (vs:=[vl,vo,.int .i64 z0]) (n:=17) Tryz.func41 rfl rfl rfl rfl ?_
 have C0:Mod [] w w:=Mod.refl _ _
 refine W.sr<|L.b rfl<|L.z<|W.sr<|L.k rfl<|L.k rfl<|L.k rfl<|L.c rfl (c_chosen hL hO hbd hsm) ?_
 rintro _ w1 ⟨p13,rfl,_,C1⟩
 replace C0:=C0.trans C1;clear C1
 refine L.k rfl<|L.ex rfl rfl<|L.ex rfl rfl<|L.b rfl<|L.b rfl<|L.z<|W.sr<|L.k rfl<|L.b rfl ?_
 refine L.z<|W.ret<|X.result1 rfl (.tmp rfl .nil) ?_
 exact ⟨rfl,C0⟩
theorem c_r13_has {N9 : List Nat} {w : World} {c : CR} {vt vn vd : Value} (ht : Lay rdT N9 w vt c.ts) (h : U32 N9 w vn c.k.n) (k : U32 N9 w vd c.k.d) {v : Int} :
    Ret Tryz.prog 85 #[.agg #[.int .i64 c.st,vt,.bool c.k.s,vn,vd],.int .i64 v] w (fun r w'=>r=.bool (hasV c v)∧Mod [] w w'):=by
 obtain ⟨T9,t9,rfl⟩:=ht.form;obtain ⟨A9,c9,rfl⟩:=h.form;obtain ⟨B9,e9,rfl⟩:=k.form;have hmaxt:=ht.max; unfold maxLen at hmaxt
 refine Ret.of (vs:=[.agg #[.int .i64 c.st,.slice T9 c.ts.length t9,.bool c.k.s,.slice A9 c.k.n.length c9,.slice B9 c.k.d.length e9],.int .i64 v]) (n:=21) Tryz.func85 rfl rfl rfl rfl ?_
 have C0:Mod [] w w:=Mod.refl _ _
 refine W.sr<|L.box rfl rfl ?_
 intro g2 w1 D2
 replace ht:=ht.new D2;replace h:=h.new D2;replace k:=k.new D2;replace C0:=C0.tn D2;have E2:=D2.blk;clear D2
 refine L.b rfl<|L.z<|W.seq<|W.sr<|L.b rfl<|L.z<|W.block<|W.loop (ι:=Nat) (fun i=>[(2,.pointer (some ⟨g2,0,none⟩)),(1,.int .i64 v),(5,.int .i64 ((i:Nat):Int))]) (fun i w_=>Lay rdT (g2 :: N9) w_ (.slice T9 c.ts.length t9) c.ts∧Blk w_ g2 42 #[.int .i64 c.st,.slice T9 c.ts.length t9,.bool c.k.s,.slice A9 c.k.n.length c9,.slice B9 c.k.d.length e9]∧i≤c.ts.length∧(∀ z∈c.ts.take i,decide (z.v=v)=false)∧Mod [] w w_) (fun i=>c.ts.length - i) 0 ?_ ?_ ?_
 · exact ⟨rfl,rfl,rfl,trivial⟩
 ·
  exact ⟨ht.su,E2,Nat.zero_le _,(fun z h=>by simp at h),C0⟩
 rintro i w2 ⟨ht,E2,hi,hno,C0⟩
 refine W.seq<|W.sr<|L.k rfl<|L.fA rfl tyF42_1<|L.lF rfl E2 rfl tyP37<|L.lL rfl ht Q37<|L.lt rfl rfl<|L.z<|W.cond rfl ?_ ?_
 ·
  intro J10
  try simp only [bq,ne_eq] at J10
  refine W.skip<|X.seq<|W.seq<|W.block<|W.sr<|L.fA rfl tyF42_1<|L.lF rfl E2 rfl tyP37<|L.k rfl<|L.aL (j:=i) rfl rfl ht Q37 rfl (by omega)<|L.v (R1.fieldAddr rfl tyF47_0) rfl ?_
  obtain ⟨z18,cs18,P18,V18,ds18,rfl,vn18,vd18,rfl,I18,H18⟩:=Lay.elemQ ht (j:=i) (by omega);obtain ⟨A18,c18,rfl⟩:=I18.form;obtain ⟨B18,e18,rfl⟩:=H18.form
  refine L.v (R1.loadEF rfl V18 rfl tyP3) rfl<|L.k rfl<|L.v (R1.eq rfl rfl) rfl<|L.z<|W.cond rfl ?_ ?_
  ·
   intro J20
   try simp only [bq,ne_eq] at J20
   refine W.sr<|L.b rfl<|L.z<|W.ret<|X.blockRet<|X.thenRet<|X.nextRet<|X.blockRet<|X.thenRet ?_
   refine X.result1 rfl (.tmp rfl .nil)<|⟨?_,C0⟩
   have h9:hasV c v=true:=List.any_eq_true.2 ⟨z18,List.mem_of_getElem? P18,decide_eq_true J20⟩
   rw [h9]
  intro J20
  try simp only [bq,ne_eq] at J20
  refine W.skip<|X.blockEnd<|X.seq<|W.region<|L.k rfl<|L.inc rfl rfl (by omega)<|L.b rfl<|L.nil<|X.next (i + 1) ?_ ?_ ?_
  · exact ⟨rfl,rfl,rfl,trivial⟩
  ·
   refine ⟨ht,E2,by omega,fun z hz=>?_,C0⟩
   obtain ⟨hi9,he9⟩:=List.getElem?_eq_some_iff.1 P18
   rw [List.take_succ_eq_append_getElem hi9,he9] at hz
   rcases List.mem_append.1 hz with h9 | h9
   · exact hno z h9
   rw [List.mem_singleton.1 h9]; exact decide_eq_false J20
  first | omega | (dsimp only; omega)
 intro J10
 try simp only [bq,ne_eq] at J10
 obtain rfl:i=c.ts.length:=by omega
 refine W.brk<|W.sr<|L.b rfl<|L.z<|W.ret ?_
 refine X.result1 rfl (.tmp rfl .nil) ?_
 rw [List.take_length] at hno
 refine ⟨?_,C0⟩
 have h9:hasV c v=false:=any_no hno
 rw [h9]
theorem c_r13_Is {M : List Nat} {w : World} {vl vo : Value} {cs : List CR} {os : List Int} {z0 : Int} (hL : Lay rdC M w vl cs) (hO : Lay rdI M w vo os) (hbd : Bd M w) (hsm : ∀ c ∈ cs, SmC 1099511627776 c) :
    Ret Tryz.prog 49 #[vl,vo,.int .i64 z0] w (fun r w'=>r=.bool (ChB z0 cs os)∧Mod [] w w'):=by
 obtain ⟨TL,tL,rfl⟩:=hL.form;obtain ⟨TO,tO,rfl⟩:=hO.form;have hmaxL:=hL.max; unfold maxLen at hmaxL;have hmaxO:=hO.max; unfold maxLen at hmaxO
 refine Ret.of (vs:=[.slice TL cs.length tL,.slice TO os.length tO,.int .i64 z0]) (n:=91) Tryz.func49 rfl rfl rfl rfl ?_
 have C0:Mod [] w w:=Mod.refl _ _
 refine W.sr<|L.b rfl<|L.z<|W.seq<|W.sr<|L.k rfl<|L.v ((R1.lt rfl rfl).asB (c:=(decide (z0<1))) (rfl)) rfl<|L.k rfl ?_
 cases W11:(decide (z0<1))
 ·
  try simp only [bq,ne_eq] at W11
  refine L.p rfl (R1.move rfl)<|L.p rfl ((R1.gt rfl rfl).asB (c:=(decide (64<z0))) (rfl))<|L.pF rfl rfl<|L.k rfl ?_
  cases W15:(decide (64<z0))
  ·
   try simp only [bq,ne_eq] at W15
   refine L.p rfl (R1.move rfl)<|L.p rfl (R1.lenLay rfl hL Q22)<|L.p rfl ((R1.gt rfl rfl).asB (c:=(decide ((256:Int)<(cs.length:Int)))) (rfl))<|L.pF rfl rfl<|L.k rfl ?_
   cases W20:(decide ((256:Int)<(cs.length:Int)))
   ·
    try simp only [bq,ne_eq] at W20
    refine L.p rfl (R1.move rfl)<|L.p rfl (R1.lenLay rfl hO Q26)<|L.p rfl (R1.move rfl)<|L.p rfl (R1.lenLay rfl hL Q22)<|L.p rfl (R1.ne rfl rfl)<|L.pF rfl rfl<|L.z<|W.cond rfl ?_ ?_
    ·
     intro J26
     try simp only [bq,ne_eq] at J26
     refine W.sr<|L.b rfl<|L.z<|W.ret<|X.thenRet<|X.result1 rfl (.tmp rfl .nil) ?_
     have hbad:ChB z0 cs os=false:=ChB_size (by omega)
     rw [hbad]
     exact ⟨rfl,C0⟩
    intro J26
    try simp only [bq,ne_eq] at J26
    obtain ⟨n,rfl⟩:∃ n:Nat,z0=(n:Int):=⟨z0.toNat,by omega⟩
    have I1:1≤n:=by omega
    have I2:n≤64:=by omega
    have hl1:cs.length≤256:=by omega
    have hl2:os.length=cs.length:=by omega
    refine W.skip<|X.seq<|W.seq<|W.sr<|L.b rfl<|L.z<|W.block<|W.loop (ι:=Nat) (fun i=>[(0,.slice TL cs.length tL),(1,.slice TO os.length tO),(2,.int .i64 ((n:Nat):Int)),(7,.int .i64 ((i:Nat):Int))]) (fun i w_=>Lay rdC M w_ (.slice TL cs.length tL) cs∧Lay rdI M w_ (.slice TO os.length tO) os∧Bd M w_∧i≤cs.length∧chP (n:Int) cs os i∧Mod [] w w_) (fun i=>cs.length - i) 0 ?_ ?_ ?_
    · repeat' constructor
    ·
     exact ⟨hL.su,hO.su,hbd.su,Nat.zero_le _,chP_zero,C0⟩
    rintro i w1 ⟨hL,hO,hbd,hi,hch,C0⟩
    refine W.seq<|W.sr<|L.k rfl<|L.k rfl<|L.lL rfl hL Q22<|L.lt rfl rfl<|L.z<|W.cond rfl ?_ ?_
    ·
     intro J30
     try simp only [bq,ne_eq] at J30
     refine W.skip<|X.seq<|W.seq<|W.block<|W.seq<|W.seq<|W.drawW (T:=[]) rfl (by decide +kernel) (NoHang.then (NoHang.then (NoHang.block (NoHang.then (NoHang.next (NoHang.block (NoHang.then NoHang.post))))))) (fun w2 C2=>?_)
     replace hL:=hL.gr C2;replace hO:=hO.gr C2;replace hbd:=hbd.gr C2;replace C0:=C0.trans C2
     have G1:Mod [] w2 w2:=Mod.refl _ _
     clear C2;have hL_s:=hL;have hO_s:=hO
     refine D.z 0 rfl (by kernel_rfl) rfl G1<|D.z 1 rfl (by kernel_rfl) rfl G1<|D.t 2 rfl (by kernel_rfl) (fun _ hS=>R1.atLay (j:=i) rfl rfl (Lay.gr hL_s hS) Q22 rfl (by omega)) G1 ?_
     obtain ⟨z36,cs36,P36,V36,vt36,ds36,rfl,Y36,vn36,vd36,rfl,I36,H36⟩:=Lay.elemQ hL_s (j:=i) (by omega);obtain ⟨T36,t36,rfl⟩:=Y36.form;obtain ⟨A36,c36,rfl⟩:=I36.form;obtain ⟨B36,e36,rfl⟩:=H36.form;replace Y36:=Y36.gr G1;replace I36:=I36.gr G1;replace H36:=H36.gr G1
     refine D.t 3 rfl (by kernel_rfl) (fun _ hS=>R1.loadE rfl (SlE.gr V36 hS) tyG42) G1<|D.z 4 rfl (by kernel_rfl) rfl G1<|D.one 5 rfl (by kernel_rfl) (fun hX=>?_)
     refine L.c rfl (c_ref8_Is Y36 I36 H36 (n:=(n:Int)) (by omega) hbd (hsm _ (List.mem_of_getElem? P36))) ?_
     rintro _ w3 ⟨rfl,C3⟩
     replace hL:=hL.gr C3;replace hO:=hO.gr C3;replace hbd:=hbd.gr C3;replace C0:=C0.trans C3;replace G1:=G1.trans C3;clear C3
     refine L.nil (hX _ _ ⟨.inr G1,?_⟩)
     refine D.t 6 rfl (by kernel_rfl) (fun _ hS=>R1.not rfl) G1<|D.z 7 rfl (by kernel_rfl) rfl G1 ?_
     cases W40:(!(isC z36 (n:Int)))
     ·
      simp only [Bool.not_eq_true',Bool.not_eq_false'] at W40
      refine D.u 8 rfl rfl (by kernel_rfl) (fun _ hS=>R1.move rfl) G1<|D.u 9 rfl rfl (by kernel_rfl) (fun _ hS=>R1.move rfl) G1<|D.u 10 rfl rfl (by kernel_rfl) (fun _ hS=>R1.atLay (j:=i) rfl rfl (Lay.gr hO_s hS) Q26 rfl (by omega)) G1<|D.u 11 rfl rfl (by kernel_rfl) (fun _ hS=>R1.loadLI rfl (Lay.gr hO_s hS) tyP3 (by omega) (getD_at _)) G1<|D.u 12 rfl rfl (by kernel_rfl) (fun _ hS=>(R1.lt rfl rfl).asB (c:=(decide ((os.getD i 0) < -1))) (rfl)) G1<|D.t 13 rfl (by kernel_rfl) (fun _ hS=>R1.pickF rfl rfl) G1<|D.z 14 rfl (by kernel_rfl) rfl G1 ?_
      cases W47:(decide ((os.getD i 0) < -1))
      ·
       try simp only [bq,ne_eq] at W47
       refine D.u 15 rfl rfl (by kernel_rfl) (fun _ hS=>R1.move rfl) G1<|D.u 16 rfl rfl (by kernel_rfl) (fun _ hS=>R1.move rfl) G1<|D.u 17 rfl rfl (by kernel_rfl) (fun _ hS=>R1.atLay (j:=i) rfl rfl (Lay.gr hO_s hS) Q26 rfl (by omega)) G1<|D.u 18 rfl rfl (by kernel_rfl) (fun _ hS=>R1.loadLI rfl (Lay.gr hO_s hS) tyP3 (by omega) (getD_at _)) G1<|D.u 19 rfl rfl (by kernel_rfl) (fun _ hS=>(R1.ge rfl rfl).asB (c:=(decide (0≤(os.getD i 0)))) (rfl)) G1<|D.u 20 rfl rfl (by kernel_rfl) (fun _ hS=>R1.move rfl) G1 ?_
       cases W53:(decide (0≤(os.getD i 0)))
       ·
        try simp only [bq,ne_eq] at W53
        refine D.o 21 rfl rfl (by kernel_rfl) G1<|D.o 22 rfl rfl (by kernel_rfl) G1<|D.o 23 rfl rfl (by kernel_rfl) G1<|D.o 24 rfl rfl (by kernel_rfl) G1<|D.o 25 rfl rfl (by kernel_rfl) G1<|D.o 26 rfl rfl (by kernel_rfl) G1<|D.o 27 rfl rfl (by kernel_rfl) G1<|D.o 28 rfl rfl (by kernel_rfl) G1<|D.o 29 rfl rfl (by kernel_rfl) G1<|D.o 30 rfl rfl (by kernel_rfl) G1<|D.u 31 rfl rfl (by kernel_rfl) (fun _ hS=>R1.pickF rfl rfl) G1 ?_
        refine D.t 32 rfl (by kernel_rfl) (fun _ hS=>R1.pickF rfl rfl) G1<|D.done (by decide +kernel) ?_ _
        refine X.seq<|W.condF rfl<|W.skip<|X.seq<|W.sr<|L.b rfl<|L.z<|W.block ?_
        have hst:(os.getD i 0)=-1∨hasV z36 (os.getD i 0)=true:=by first | exact .inr J65 | exact .inl (by omega)
        refine W.loop (ι:=Nat) (fun k=>[(0,.slice TL cs.length tL),(1,.slice TO os.length tO),(2,.int .i64 ((n:Nat):Int)),(7,.int .i64 ((i:Nat):Int)),(8,.int .i64 ((k:Nat):Int))]) (fun k w_=>Lay rdC M w_ (.slice TL cs.length tL) cs∧Lay rdI M w_ (.slice TO os.length tO) os∧Bd M w_∧chP (n:Int) cs os i∧Mod [] w w_∧k≤i∧(∀ j,j<k→0≤os.getD i 0→os.getD j 0≠os.getD i 0)) (fun k=>i - k) 0 ?_ ?_ ?_
        · repeat' constructor
        ·
         exact ⟨hL.su,hO.su,hbd.su,hch,C0,Nat.zero_le _,(fun j h=>by omega)⟩
        rintro k w4 ⟨hL,hO,hbd,hch,C0,hk,hno⟩
        refine W.seq<|W.sr<|L.k rfl<|L.k rfl<|L.lt rfl rfl<|L.z<|W.cond rfl ?_ ?_
        ·
         intro J68
         try simp only [bq,ne_eq] at J68
         refine W.skip<|X.seq<|W.seq<|W.block<|W.seq<|W.drawW (T:=[]) rfl (by decide +kernel) (NoHang.then (NoHang.block (NoHang.then (NoHang.next (NoHang.block (NoHang.block (NoHang.then (NoHang.next (NoHang.block (NoHang.then NoHang.post)))))))))) (fun w5 C5=>?_)
         replace hL:=hL.gr C5;replace hO:=hO.gr C5;replace hbd:=hbd.gr C5;replace C0:=C0.trans C5
         have G2:Mod [] w5 w5:=Mod.refl _ _
         clear C5
         refine D.z 0 rfl (by kernel_rfl) rfl G2<|D.z 1 rfl (by kernel_rfl) rfl G2<|D.t 2 rfl (by kernel_rfl) (fun _ hS=>R1.atLay (j:=i) rfl rfl (Lay.gr hO hS) Q26 rfl (by omega)) G2<|D.t 3 rfl (by kernel_rfl) (fun _ hS=>R1.loadLI rfl (Lay.gr hO hS) tyP3 (by omega) (getD_at _)) G2<|D.t 4 rfl (by kernel_rfl) (fun _ hS=>(R1.ge rfl rfl).asB (c:=(decide (0≤(os.getD i 0)))) (rfl)) G2<|D.z 5 rfl (by kernel_rfl) rfl G2 ?_
         cases W76:(decide (0≤(os.getD i 0)))
         ·
          try simp only [bq,ne_eq] at W76
          refine D.o 6 rfl rfl (by kernel_rfl) G2<|D.o 7 rfl rfl (by kernel_rfl) G2<|D.o 8 rfl rfl (by kernel_rfl) G2<|D.o 9 rfl rfl (by kernel_rfl) G2<|D.o 10 rfl rfl (by kernel_rfl) G2<|D.o 11 rfl rfl (by kernel_rfl) G2<|D.o 12 rfl rfl (by kernel_rfl) G2<|D.o 13 rfl rfl (by kernel_rfl) G2<|D.o 14 rfl rfl (by kernel_rfl) G2<|D.t 15 rfl (by kernel_rfl) (fun _ hS=>R1.pickF rfl rfl) G2<|D.done (by decide +kernel) ?_ _
          refine X.seq<|W.condF rfl<|W.skip<|X.blockEnd<|X.seq<|W.region<|L.k rfl<|L.inc rfl rfl (by omega)<|L.b rfl<|L.nil<|X.next (k + 1) ?_ ?_ ?_
          · repeat' constructor
          ·
           exact ⟨hL.su,hO.su,hbd.su,hch,C0,by omega,(fun j hj h0=>by rcases Nat.lt_or_ge j k with h9 | h9; exact hno j h9 h0; obtain rfl:j=k:=(by omega); first | exact J86 | omega)⟩
          first | omega | (dsimp only; omega)
         try simp only [bq,ne_eq] at W76
         refine D.u 6 rfl rfl (by kernel_rfl) (fun _ hS=>R1.move rfl) G2<|D.u 7 rfl rfl (by kernel_rfl) (fun _ hS=>R1.move rfl) G2<|D.u 8 rfl rfl (by kernel_rfl) (fun _ hS=>R1.atLay (j:=k) rfl rfl (Lay.gr hO hS) Q26 rfl (by omega)) G2<|D.u 9 rfl rfl (by kernel_rfl) (fun _ hS=>R1.loadLI rfl (Lay.gr hO hS) tyP3 (by omega) (getD_at _)) G2<|D.u 10 rfl rfl (by kernel_rfl) (fun _ hS=>R1.move rfl) G2<|D.u 11 rfl rfl (by kernel_rfl) (fun _ hS=>R1.move rfl) G2<|D.u 12 rfl rfl (by kernel_rfl) (fun _ hS=>R1.atLay (j:=i) rfl rfl (Lay.gr hO hS) Q26 rfl (by omega)) G2<|D.u 13 rfl rfl (by kernel_rfl) (fun _ hS=>R1.loadLI rfl (Lay.gr hO hS) tyP3 (by omega) (getD_at _)) G2<|D.u 14 rfl rfl (by kernel_rfl) (fun _ hS=>(R1.eq rfl rfl).asB (c:=(decide (os.getD k 0=(os.getD i 0)))) (rfl)) G2<|D.t 15 rfl (by kernel_rfl) (fun _ hS=>R1.pickT rfl rfl) G2<|D.done (by decide +kernel) ?_ _
         refine X.seq<|W.cond rfl ?_ ?_
         ·
          intro J86
          try simp only [bq,ne_eq] at J86
          refine W.sr<|L.b rfl<|L.z<|W.ret<|X.blockRet<|X.thenRet<|X.nextRet<|X.blockRet<|X.blockRet ?_
          refine X.thenRet<|X.nextRet<|X.blockRet<|X.thenRet<|X.result1 rfl (.tmp rfl .nil) ?_
          have hbad:ChB (n:Int) cs os=false:=ChB_step (i:=i) (by omega) (fun h9=>by rcases h9.2 with h8 | h8; omega; exact h8.2 k (by omega) J86)
          rw [hbad]
          exact ⟨rfl,C0⟩
         intro J86
         try simp only [bq,ne_eq] at J86
         refine W.skip<|X.blockEnd<|X.seq<|W.region<|L.k rfl<|L.inc rfl rfl (by omega)<|L.b rfl<|L.nil<|X.next (k + 1) ?_ ?_ ?_
         · repeat' constructor
         ·
          exact ⟨hL.su,hO.su,hbd.su,hch,C0,by omega,(fun j hj h0=>by rcases Nat.lt_or_ge j k with h9 | h9; exact hno j h9 h0; obtain rfl:j=k:=(by omega); first | exact J86 | omega)⟩
         first | omega | (dsimp only; omega)
        intro J68
        try simp only [bq,ne_eq] at J68
        obtain rfl:i=k:=by omega
        refine W.exit<|X.thenExit<|X.nextExit<|X.here<|X.blockEnd<|X.seq<|W.region<|L.k rfl<|L.inc rfl rfl (by omega)<|L.b rfl<|L.nil ?_
        refine X.next (i + 1) ?_ ?_ ?_
        · repeat' constructor
        ·
         exact ⟨hL.su,hO.su,hbd.su,by omega,chP_succ hch ⟨by rw [getD_of_get P36]; exact W40,by rw [getD_of_get P36]; rcases hst with h9 | h9; exact .inl h9; exact .inr ⟨h9,fun j hj=>hno j hj (hasV_lt W40 h9).1⟩⟩,C0⟩
        first | omega | (dsimp only; omega)
       try simp only [bq,ne_eq] at W53
       refine D.u 21 rfl rfl (by kernel_rfl) (fun _ hS=>R1.move rfl) G1<|D.u 22 rfl rfl (by kernel_rfl) (fun _ hS=>R1.move rfl) G1<|D.u 23 rfl rfl (by kernel_rfl) (fun _ hS=>R1.atLay (j:=i) rfl rfl (Lay.gr hL_s hS) Q22 rfl (by omega)) G1 ?_
       obtain ⟨z57,cs57,P57,V57,vt57,ds57,rfl,Y57,vn57,vd57,rfl,I57,H57⟩:=Lay.elemQ hL_s (j:=i) (by omega);obtain ⟨T57,t57,rfl⟩:=Y57.form;obtain ⟨A57,c57,rfl⟩:=I57.form;obtain ⟨B57,e57,rfl⟩:=H57.form
       obtain rfl:z36=z57:=by have h9:=P57; rw [P36] at h9; injection h9
       replace Y57:=Y57.gr G1;replace I57:=I57.gr G1;replace H57:=H57.gr G1
       refine D.u 24 rfl rfl (by kernel_rfl) (fun _ hS=>R1.loadE rfl (SlE.gr V57 hS) tyG42) G1<|D.u 25 rfl rfl (by kernel_rfl) (fun _ hS=>R1.move rfl) G1<|D.u 26 rfl rfl (by kernel_rfl) (fun _ hS=>R1.move rfl) G1<|D.u 27 rfl rfl (by kernel_rfl) (fun _ hS=>R1.atLay (j:=i) rfl rfl (Lay.gr hO_s hS) Q26 rfl (by omega)) G1<|D.u 28 rfl rfl (by kernel_rfl) (fun _ hS=>R1.loadLI rfl (Lay.gr hO_s hS) tyP3 (by omega) (getD_at _)) G1<|D.one 29 rfl (by kernel_rfl) (fun hX=>?_)
       refine L.callOn rfl rfl rfl rfl (c_r13_has Y57 I57 H57) rfl ?_
       rintro _ w6 ⟨rfl,C6⟩
       replace hL:=hL.gr C6;replace hO:=hO.gr C6;replace hbd:=hbd.gr C6;replace C0:=C0.trans C6;replace G1:=G1.trans C6;clear C6
       refine L.nil (hX _ _ ⟨.inr G1,?_⟩)
       refine D.u 30 rfl rfl (by kernel_rfl) (fun _ hS=>R1.not rfl) G1<|D.u 31 rfl rfl (by kernel_rfl) (fun _ hS=>R1.pickT rfl rfl) G1<|D.t 32 rfl (by kernel_rfl) (fun _ hS=>R1.pickF rfl rfl) G1<|D.done (by decide +kernel) ?_ _
       refine X.seq<|W.cond rfl ?_ ?_
       ·
        intro J65
        simp only [Bool.not_eq_true',Bool.not_eq_false'] at J65
        refine W.sr<|L.b rfl<|L.z<|W.ret<|X.thenRet<|X.blockRet<|X.thenRet<|X.nextRet<|X.blockRet ?_
        refine X.thenRet<|X.result1 rfl (.tmp rfl .nil) ?_
        have hbad:ChB (n:Int) cs os=false:=ChB_step (i:=i) (by omega) (fun h9=>by
          obtain ⟨h7,h8⟩:=h9
          rw [getD_of_get P36] at h7 h8
          first
          | (rw [W40] at h7; exact absurd h7 (by decide))
          | (rcases h8 with h8 | h8; omega; have h6:=hasV_lt h7 h8.1; first | omega | (rw [J65] at h8; exact absurd h8.1 (by decide))))
        rw [hbad]
        exact ⟨rfl,C0⟩
       intro J65
       simp only [Bool.not_eq_true',Bool.not_eq_false'] at J65
       refine W.skip<|X.seq<|W.sr<|L.b rfl<|L.z<|W.block ?_
       have hst:(os.getD i 0)=-1∨hasV z36 (os.getD i 0)=true:=by first | exact .inr J65 | exact .inl (by omega)
       refine W.loop (ι:=Nat) (fun k=>[(0,.slice TL cs.length tL),(1,.slice TO os.length tO),(2,.int .i64 ((n:Nat):Int)),(7,.int .i64 ((i:Nat):Int)),(8,.int .i64 ((k:Nat):Int))]) (fun k w_=>Lay rdC M w_ (.slice TL cs.length tL) cs∧Lay rdI M w_ (.slice TO os.length tO) os∧Bd M w_∧chP (n:Int) cs os i∧Mod [] w w_∧k≤i∧(∀ j,j<k→0≤os.getD i 0→os.getD j 0≠os.getD i 0)) (fun k=>i - k) 0 ?_ ?_ ?_
       · repeat' constructor
       ·
        exact ⟨hL.su,hO.su,hbd.su,hch,C0,Nat.zero_le _,(fun j h=>by omega)⟩
       rintro k w7 ⟨hL,hO,hbd,hch,C0,hk,hno⟩
       refine W.seq<|W.sr<|L.k rfl<|L.k rfl<|L.lt rfl rfl<|L.z<|W.cond rfl ?_ ?_
       ·
        intro J68
        try simp only [bq,ne_eq] at J68
        refine W.skip<|X.seq<|W.seq<|W.block<|W.seq<|W.drawW (T:=[]) rfl (by decide +kernel) (NoHang.then (NoHang.block (NoHang.then (NoHang.next (NoHang.block (NoHang.block (NoHang.then (NoHang.next (NoHang.block (NoHang.then NoHang.post)))))))))) (fun w8 C8=>?_)
        replace hL:=hL.gr C8;replace hO:=hO.gr C8;replace hbd:=hbd.gr C8;replace C0:=C0.trans C8
        have G3:Mod [] w8 w8:=Mod.refl _ _
        clear C8
        refine D.z 0 rfl (by kernel_rfl) rfl G3<|D.z 1 rfl (by kernel_rfl) rfl G3<|D.t 2 rfl (by kernel_rfl) (fun _ hS=>R1.atLay (j:=i) rfl rfl (Lay.gr hO hS) Q26 rfl (by omega)) G3<|D.t 3 rfl (by kernel_rfl) (fun _ hS=>R1.loadLI rfl (Lay.gr hO hS) tyP3 (by omega) (getD_at _)) G3<|D.t 4 rfl (by kernel_rfl) (fun _ hS=>(R1.ge rfl rfl).asB (c:=(decide (0≤(os.getD i 0)))) (rfl)) G3<|D.z 5 rfl (by kernel_rfl) rfl G3 ?_
        cases W76:(decide (0≤(os.getD i 0)))
        ·
         try simp only [bq,ne_eq] at W76
         refine D.o 6 rfl rfl (by kernel_rfl) G3<|D.o 7 rfl rfl (by kernel_rfl) G3<|D.o 8 rfl rfl (by kernel_rfl) G3<|D.o 9 rfl rfl (by kernel_rfl) G3<|D.o 10 rfl rfl (by kernel_rfl) G3<|D.o 11 rfl rfl (by kernel_rfl) G3<|D.o 12 rfl rfl (by kernel_rfl) G3<|D.o 13 rfl rfl (by kernel_rfl) G3<|D.o 14 rfl rfl (by kernel_rfl) G3<|D.t 15 rfl (by kernel_rfl) (fun _ hS=>R1.pickF rfl rfl) G3<|D.done (by decide +kernel) ?_ _
         refine X.seq<|W.condF rfl<|W.skip<|X.blockEnd<|X.seq<|W.region<|L.k rfl<|L.inc rfl rfl (by omega)<|L.b rfl<|L.nil<|X.next (k + 1) ?_ ?_ ?_
         · repeat' constructor
         ·
          exact ⟨hL.su,hO.su,hbd.su,hch,C0,by omega,(fun j hj h0=>by rcases Nat.lt_or_ge j k with h9 | h9; exact hno j h9 h0; obtain rfl:j=k:=(by omega); first | exact J86 | omega)⟩
         first | omega | (dsimp only; omega)
        try simp only [bq,ne_eq] at W76
        refine D.u 6 rfl rfl (by kernel_rfl) (fun _ hS=>R1.move rfl) G3<|D.u 7 rfl rfl (by kernel_rfl) (fun _ hS=>R1.move rfl) G3<|D.u 8 rfl rfl (by kernel_rfl) (fun _ hS=>R1.atLay (j:=k) rfl rfl (Lay.gr hO hS) Q26 rfl (by omega)) G3<|D.u 9 rfl rfl (by kernel_rfl) (fun _ hS=>R1.loadLI rfl (Lay.gr hO hS) tyP3 (by omega) (getD_at _)) G3<|D.u 10 rfl rfl (by kernel_rfl) (fun _ hS=>R1.move rfl) G3<|D.u 11 rfl rfl (by kernel_rfl) (fun _ hS=>R1.move rfl) G3<|D.u 12 rfl rfl (by kernel_rfl) (fun _ hS=>R1.atLay (j:=i) rfl rfl (Lay.gr hO hS) Q26 rfl (by omega)) G3<|D.u 13 rfl rfl (by kernel_rfl) (fun _ hS=>R1.loadLI rfl (Lay.gr hO hS) tyP3 (by omega) (getD_at _)) G3<|D.u 14 rfl rfl (by kernel_rfl) (fun _ hS=>(R1.eq rfl rfl).asB (c:=(decide (os.getD k 0=(os.getD i 0)))) (rfl)) G3<|D.t 15 rfl (by kernel_rfl) (fun _ hS=>R1.pickT rfl rfl) G3<|D.done (by decide +kernel) ?_ _
        refine X.seq<|W.cond rfl ?_ ?_
        ·
         intro J86
         try simp only [bq,ne_eq] at J86
         refine W.sr<|L.b rfl<|L.z<|W.ret<|X.blockRet<|X.thenRet<|X.nextRet<|X.blockRet<|X.blockRet ?_
         refine X.thenRet<|X.nextRet<|X.blockRet<|X.thenRet<|X.result1 rfl (.tmp rfl .nil) ?_
         have hbad:ChB (n:Int) cs os=false:=ChB_step (i:=i) (by omega) (fun h9=>by rcases h9.2 with h8 | h8; omega; exact h8.2 k (by omega) J86)
         rw [hbad]
         exact ⟨rfl,C0⟩
        intro J86
        try simp only [bq,ne_eq] at J86
        refine W.skip<|X.blockEnd<|X.seq<|W.region<|L.k rfl<|L.inc rfl rfl (by omega)<|L.b rfl<|L.nil<|X.next (k + 1) ?_ ?_ ?_
        · repeat' constructor
        ·
         exact ⟨hL.su,hO.su,hbd.su,hch,C0,by omega,(fun j hj h0=>by rcases Nat.lt_or_ge j k with h9 | h9; exact hno j h9 h0; obtain rfl:j=k:=(by omega); first | exact J86 | omega)⟩
        first | omega | (dsimp only; omega)
       intro J68
       try simp only [bq,ne_eq] at J68
       obtain rfl:i=k:=by omega
       refine W.exit<|X.thenExit<|X.nextExit<|X.here<|X.blockEnd<|X.seq<|W.region<|L.k rfl<|L.inc rfl rfl (by omega)<|L.b rfl<|L.nil ?_
       refine X.next (i + 1) ?_ ?_ ?_
       · repeat' constructor
       ·
        exact ⟨hL.su,hO.su,hbd.su,by omega,chP_succ hch ⟨by rw [getD_of_get P36]; exact W40,by rw [getD_of_get P36]; rcases hst with h9 | h9; exact .inl h9; exact .inr ⟨h9,fun j hj=>hno j hj (hasV_lt W40 h9).1⟩⟩,C0⟩
       first | omega | (dsimp only; omega)
      try simp only [bq,ne_eq] at W47
      refine D.o 15 rfl rfl (by kernel_rfl) G1<|D.o 16 rfl rfl (by kernel_rfl) G1<|D.o 17 rfl rfl (by kernel_rfl) G1<|D.o 18 rfl rfl (by kernel_rfl) G1<|D.o 19 rfl rfl (by kernel_rfl) G1<|D.o 20 rfl rfl (by kernel_rfl) G1<|D.offU 21 rfl rfl rfl rfl (by kernel_rfl) G1 rfl<|D.offU 22 rfl rfl rfl rfl (by kernel_rfl) G1 rfl<|D.offU 23 rfl rfl rfl rfl (by kernel_rfl) G1 rfl<|D.offU 24 rfl rfl rfl rfl (by kernel_rfl) G1 rfl<|D.offU 25 rfl rfl rfl rfl (by kernel_rfl) G1 rfl ?_
      refine D.offU 26 rfl rfl rfl rfl (by kernel_rfl) G1 rfl<|D.offU 27 rfl rfl rfl rfl (by kernel_rfl) G1 rfl<|D.offU 28 rfl rfl rfl rfl (by kernel_rfl) G1 rfl<|D.offU 29 rfl rfl rfl rfl (by kernel_rfl) G1 rfl<|D.offU 30 rfl rfl rfl rfl (by kernel_rfl) G1 rfl<|D.o 31 rfl rfl (by kernel_rfl) G1<|D.t 32 rfl (by kernel_rfl) (fun _ hS=>R1.pickT rfl rfl) G1<|D.done (by decide +kernel) ?_ _
      refine X.seq<|W.condT rfl<|W.sr<|L.b rfl<|L.z<|W.ret<|X.thenRet<|X.blockRet<|X.thenRet ?_
      refine X.nextRet<|X.blockRet<|X.thenRet<|X.result1 rfl (.tmp rfl .nil) ?_
      have hbad:ChB (n:Int) cs os=false:=ChB_step (i:=i) (by omega) (fun h9=>by
        obtain ⟨h7,h8⟩:=h9
        rw [getD_of_get P36] at h7 h8
        first
        | (rw [W40] at h7; exact absurd h7 (by decide))
        | (rcases h8 with h8 | h8; omega; have h6:=hasV_lt h7 h8.1; first | omega | (rw [J65] at h8; exact absurd h8.1 (by decide))))
      rw [hbad]
      exact ⟨rfl,C0⟩
     simp only [Bool.not_eq_true',Bool.not_eq_false'] at W40
     refine D.o 8 rfl rfl (by kernel_rfl) G1<|D.o 9 rfl rfl (by kernel_rfl) G1<|D.o 10 rfl rfl (by kernel_rfl) G1<|D.o 11 rfl rfl (by kernel_rfl) G1<|D.o 12 rfl rfl (by kernel_rfl) G1<|D.t 13 rfl (by kernel_rfl) (fun _ hS=>R1.pickT rfl rfl) G1<|D.z 14 rfl (by kernel_rfl) rfl G1<|D.o 15 rfl rfl (by kernel_rfl) G1<|D.o 16 rfl rfl (by kernel_rfl) G1<|D.o 17 rfl rfl (by kernel_rfl) G1<|D.o 18 rfl rfl (by kernel_rfl) G1 ?_
     refine D.o 19 rfl rfl (by kernel_rfl) G1<|D.o 20 rfl rfl (by kernel_rfl) G1<|D.offU 21 rfl rfl rfl rfl (by kernel_rfl) G1 rfl<|D.offU 22 rfl rfl rfl rfl (by kernel_rfl) G1 rfl<|D.offU 23 rfl rfl rfl rfl (by kernel_rfl) G1 rfl<|D.offU 24 rfl rfl rfl rfl (by kernel_rfl) G1 rfl<|D.offU 25 rfl rfl rfl rfl (by kernel_rfl) G1 rfl<|D.offU 26 rfl rfl rfl rfl (by kernel_rfl) G1 rfl<|D.offU 27 rfl rfl rfl rfl (by kernel_rfl) G1 rfl<|D.offU 28 rfl rfl rfl rfl (by kernel_rfl) G1 rfl<|D.offU 29 rfl rfl rfl rfl (by kernel_rfl) G1 rfl ?_
     refine D.offU 30 rfl rfl rfl rfl (by kernel_rfl) G1 rfl<|D.o 31 rfl rfl (by kernel_rfl) G1<|D.t 32 rfl (by kernel_rfl) (fun _ hS=>R1.pickT rfl rfl) G1<|D.done (by decide +kernel) ?_ _
     refine X.seq<|W.condT rfl<|W.sr<|L.b rfl<|L.z<|W.ret<|X.thenRet<|X.blockRet<|X.thenRet ?_
     refine X.nextRet<|X.blockRet<|X.thenRet<|X.result1 rfl (.tmp rfl .nil) ?_
     have hbad:ChB (n:Int) cs os=false:=ChB_step (i:=i) (by omega) (fun h9=>by
       obtain ⟨h7,h8⟩:=h9
       rw [getD_of_get P36] at h7 h8
       first
       | (rw [W40] at h7; exact absurd h7 (by decide))
       | (rcases h8 with h8 | h8; omega; have h6:=hasV_lt h7 h8.1; first | omega | (rw [J65] at h8; exact absurd h8.1 (by decide))))
     rw [hbad]
     exact ⟨rfl,C0⟩
    intro J30
    try simp only [bq,ne_eq] at J30
    obtain rfl:i=cs.length:=by omega
    refine W.brk<|W.sr<|L.k rfl<|L.k rfl<|L.c rfl (c_r11_First hL hbd hsm) ?_
    rintro _ w9 ⟨rfl,C9⟩
    replace C0:=C0.trans C9;clear C9
    refine L.v ((R1.lt rfl rfl).asB (c:=(decide (firstW (List.range (held (n:Int))) (wsOf (held (n:Int)) cs) 0=none))) (fi_neg _)) rfl<|L.b rfl<|L.z<|W.ret<|X.result1 rfl (.tmp rfl .nil) ?_
    rw [ChB_full I1 I2 hl1 hl2 hch]
    exact ⟨rfl,C0⟩
   try simp only [bq,ne_eq] at W20
   refine L.o rfl<|L.o rfl<|L.o rfl<|L.o rfl<|L.o rfl<|L.pT rfl rfl<|L.z<|W.condT rfl<|W.seq<|W.region ?_
   refine L.b rfl<|L.z<|W.ret<|X.thenRet<|X.result1 rfl (.tmp rfl .nil) ?_
   have hbad:ChB z0 cs os=false:=ChB_size (by omega)
   rw [hbad]
   exact ⟨rfl,C0⟩
  try simp only [bq,ne_eq] at W15
  refine L.o rfl<|L.o rfl<|L.o rfl<|L.pT rfl rfl<|L.k rfl<|L.o rfl<|L.o rfl<|L.o rfl<|L.o rfl<|L.o rfl<|L.pT rfl rfl ?_
  refine L.z<|W.condT rfl<|W.sr<|L.b rfl<|L.z<|W.ret<|X.thenRet<|X.result1 rfl (.tmp rfl .nil) ?_
  have hbad:ChB z0 cs os=false:=ChB_size (by omega)
  rw [hbad]
  exact ⟨rfl,C0⟩
 try simp only [bq,ne_eq] at W11
 refine L.o rfl<|L.o rfl<|L.pT rfl rfl<|L.k rfl<|L.o rfl<|L.o rfl<|L.o rfl<|L.pT rfl rfl<|L.k rfl<|L.o rfl<|L.o rfl ?_
 refine L.o rfl<|L.o rfl<|L.o rfl<|L.pT rfl rfl<|L.z<|W.condT rfl<|W.sr<|L.b rfl<|L.nil ?_
 refine X.seq<|W.ret<|X.thenRet<|X.result1 rfl (.tmp rfl .nil) ?_
 have hbad:ChB z0 cs os=false:=ChB_size (by omega)
 rw [hbad]
 exact ⟨rfl,C0⟩
end Go.Proofs.YthoooolflmbmbaaGreat
end
