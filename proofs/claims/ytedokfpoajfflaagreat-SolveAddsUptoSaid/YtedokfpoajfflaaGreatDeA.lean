/- Walks: what the functions compute. -/
import Derived.Test.YtedokfpoajfflaaGreatGrB
import Derived.Test.YtedokfpoajfflaaGreatSettle
import Derived.Test.YtedokfpoajfflaaGreatClos
namespace Go.Proofs.YtedokfpoajfflaaGreat
open Go.RowKit
set_option linter.unusedVariables false
set_option linter.unusedSimpArgs false
set_option maxRecDepth 10000
def hasV (c:CR) (v:Int):Bool:=c.ts.any (fun t=>decide (t.v=v))
def c0R:CR:=⟨0,[],⟨false,[],[]⟩⟩
def stepP (n:Int) (cs:List CR) (o:List Int) (j:Nat):Prop:=isC (cs.getD j c0R) n=true∧(o.getD j 0=-1∨(hasV (cs.getD j c0R) (o.getD j 0)=true∧∀ k,k<j→o.getD k 0≠o.getD j 0))
instance (n:Int) (cs:List CR) (o:List Int) (j:Nat):Decidable (stepP n cs o j):=by unfold stepP; infer_instance
def chP (n:Int) (cs:List CR) (o:List Int) (i:Nat):Prop:=∀ j,j<i→stepP n cs o j
instance (n:Int) (cs:List CR) (o:List Int) (i:Nat):Decidable (chP n cs o i):=by unfold chP; infer_instance
def ChB (z:Int) (cs:List CR) (o:List Int):Bool:=decide (1≤z∧z≤64∧cs.length≤256∧o.length=cs.length∧chP z cs o cs.length∧firstW (List.range z.toNat) (wsOf z.toNat cs) 0=none)
theorem chP_zero {n:Int} {cs:List CR} {o:List Int}:chP n cs o 0:=fun j h=>by omega
theorem chP_succ {n:Int} {cs:List CR} {o:List Int} {i:Nat} (h:chP n cs o i) (h2:stepP n cs o i):chP n cs o (i + 1):=fun j hj=>by
  rcases Nat.lt_or_ge j i with h3 | h3
  · exact h j h3
  have:j=i:=by omega
  subst this; exact h2
theorem ChB_size {z:Int} {cs:List CR} {o:List Int} (h:z<1∨64<z∨256<cs.length∨o.length≠cs.length):ChB z cs o=false:=decide_eq_false (fun h2=>by omega)
theorem ChB_step {z:Int} {cs:List CR} {o:List Int} {i:Nat} (hi:i<cs.length) (h:¬ stepP z cs o i):ChB z cs o=false:=decide_eq_false (fun h2=>h (h2.2.2.2.2.1 i hi))
theorem ChB_full {n:Nat} {cs:List CR} {o:List Int} (h1:1≤n) (h2:n≤64) (h3:cs.length≤256) (h4:o.length=cs.length) (h5:chP (n:Int) cs o cs.length):ChB (n:Int) cs o=decide (firstW (List.range (held (n:Int))) (wsOf (held (n:Int)) cs) 0=none):=by
  have e:held (n:Int)=n:=by unfold held; omega
  rw [e]
  unfold ChB
  congr 1
  apply propext
  simp only [Int.toNat_natCast]
  constructor
  · intro h; exact h.2.2.2.2.2
  intro h; exact ⟨by omega,by omega,h3,h4,h5,h⟩
def byZ (n:Nat) (o:List Int) (i:Nat):List Int:=(List.range n).map fun v=>fi (who (o.take i) v)
theorem byZ_zero (n:Nat) (o:List Int):byZ n o 0=List.replicate n (-1):=by
  unfold byZ
  apply List.ext_getElem (by simp)
  intro i h1 h2
  simp [who,fi]
theorem byZ_get {n:Nat} (o:List Int) (i:Nat) {v:Nat} (h:v<n):(byZ n o i).getD v 0=fi (who (o.take i) v):=by
  simp [byZ,List.getD_eq_getElem?_getD,h]
theorem who_snoc {o:List Int} {i v:Nat} (hi:i<o.length):who (o.take (i + 1)) v=(who (o.take i) v).or (if o.getD i 0=(v:Int) then some i else none):=by
  unfold who
  rw [List.take_succ_eq_append_getElem hi,List.findIdx?_append]
  congr 1
  have e:o.getD i 0=o[i]:=by simp [List.getD_eq_getElem?_getD,hi]
  have e2:(o.take i).length=i:=by rw [List.length_take]; omega
  rw [e,e2]
  by_cases h:o[i]=(v:Int) <;> simp [List.findIdx?_cons,h]
theorem fi_neg1 (x:Option Nat):fi x=-1↔x=none:=by cases x <;> simp [fi] <;> omega
theorem who_no {o:List Int} {i v:Nat} (hi:i≤o.length):who (o.take i) v=none↔∀ k,k<i→o.getD k 0≠(v:Int):=by
  unfold who
  rw [List.findIdx?_eq_none_iff]
  constructor
  · intro h k hk e
    have h1:=h (o[k]'(by omega)) (List.mem_iff_getElem.2 ⟨k,by rw [List.length_take]; omega,by simp⟩)
    rw [show o[k]'(by omega)=o.getD k 0 by simp [List.getD_eq_getElem?_getD,show k<o.length by omega],e] at h1
    simp at h1
  intro h x hx
  obtain ⟨k,hk,rfl⟩:=List.mem_iff_getElem.1 hx
  rw [List.length_take] at hk
  have:=h k (by omega)
  rw [show o.getD k 0=o[k]'(by omega) by simp [List.getD_eq_getElem?_getD,show k<o.length by omega]] at this
  simpa using this
theorem byZ_skip {n:Nat} {o:List Int} {i:Nat} (hi:i<o.length) (h:o.getD i 0=-1):byZ n o (i + 1)=byZ n o i:=by
  unfold byZ
  apply List.map_congr_left
  intro v _
  rw [who_snoc hi,h,if_neg (by omega)]
  cases who (o.take i) v <;> rfl
theorem byZ_set {n:Nat} {o:List Int} {i v:Nat} (hi:i<o.length) (h:o.getD i 0=(v:Int)) (hv:v<n) (hno:(byZ n o i).getD v 0=-1):byZ n o (i + 1)=(byZ n o i).set v (i:Int):=by
  rw [byZ_get o i hv,fi_neg1] at hno
  apply List.ext_getElem (by simp [byZ])
  intro k h1 h2
  rw [List.getElem_set]
  simp only [byZ,List.getElem_map,List.getElem_range]
  rw [who_snoc hi,h]
  by_cases e:v=k
  · subst e; rw [hno]; simp [fi]
  rw [if_neg e,if_neg (by omega)]; cases who (o.take i) k <;> rfl
theorem hasV_lt {c:CR} {n v:Int} (hc:isC c n=true) (h:hasV c v=true):0≤v∧v<n:=by
  unfold hasV at h
  obtain ⟨t,h1,h2⟩:=List.any_eq_true.1 h;have h3:=isC_all hc t h1
  rw [decide_eq_true_eq] at h2
  omega
def TestT (P:Program) (w:World) (f:FuncId) (us:List Value) (p:TR→Bool):Prop:=∀ (w1:World) (z:TR) (A B:Option Addr) (c e:Nat),Mod [] w w1→Ret P f ([Value.agg #[.int .i64 z.v,.bool z.c.s,.slice A z.c.n.length c,.slice B z.c.d.length e]] ++ us).toArray w1 (fun r w2=>r=.bool (p z)∧Mod [] w1 w2)
theorem TestT.mod {P:Program} {w w':World} {f:FuncId} {us:List Value} {p:TR→Bool} (h:TestT P w f us p) (hm:Mod [] w w'):TestT P w' f us p:=fun w1 z A B c e hm1=>h w1 z A B c e (hm.trans hm1)
theorem any_no {p:TR→Bool} {ts:List TR} (h:∀ z∈ts,p z=false):ts.any p=false:=by
  rw [List.any_eq_false]; intro z hz; rw [h z hz]; decide
theorem built_CH9 {P:Program} {t:TypeId} {v0 v1 v2:Value} (h1:∃ A k c,v1=.slice A k c) (h2:∃ A k c,v2=.slice A k c) (h:∀ A1 k1 c1 A2 k2 c2,P.built t [(0,v0),(1,.slice A1 k1 c1),(2,.slice A2 k2 c2)]=some #[v0,.slice A1 k1 c1,.slice A2 k2 c2]):P.built t [(0,v0),(1,v1),(2,v2)]=some #[v0,v1,v2]:=by
  obtain ⟨A1,k1,c1,rfl⟩:=h1;obtain ⟨A2,k2,c2,rfl⟩:=h2
  exact h _ _ _ _ _ _
theorem own_form' {w:World} {B el s k:Nat} {v:Value} {xs:List Value} (h:w.ownsRow B el s v k xs):∃ A k c,v=.slice A k c:=let ⟨A,c,e⟩:=own_form h; ⟨A,k,c,e⟩
theorem Lay.rowI {M:List Nat} {w:World} {v:Value} {zs:List Int} (h:Lay rdI M w v zs):Sl [] w 1 v zs.length (intsZ zs):=by
  obtain ⟨css,h1,h2⟩:=h
  have e:css=zs.map (fun z=>[Value.int .i64 z]):=by
    apply List.ext_getElem (by simp [h2.len])
    intro i a b
    have hb:i<zs.length:=by simpa using b
    have h3:css[i]=[Value.int .i64 zs[i]]:=h2.get i css[i] zs[i] (by simp [a]) (by simp [hb])
    rw [h3]; simp
  have e2:∀ l:List Int,(l.map (fun z=>[Value.int .i64 z])).flatten=intsZ l:=fun l=>by
    induction l with
    | nil=>rfl
    | cons x l ih=>simp only [List.map_cons,List.flatten_cons,ih]; rfl
  subst e
  rw [e2] at h1
  exact h1.sub (by simp)
theorem c_CloneI {N9 : List Nat} {w : World} {v : Value} {zs : List Int} (hL : Lay rdI N9 w v zs) (hz : zs.length ≤ 1000000) :
    Ret Tryz.prog 37 #[v] w (fun r w'=>w'.ownsRow w.heap.size 3 1 r zs.length (intsZ zs)∧Mod [] w w'):=by
 obtain ⟨T,t,rfl⟩:=hL.form;have hcap:=hL.capOf;have hmax:=hL.max; unfold maxLen at hmax
 refine Ret.of (vs:=[.slice T zs.length t]) (n:=8) Tryz.func37 rfl rfl rfl rfl ?_
 have hm0:Mod [] w w:=Mod.refl _ _
 refine W.seq<|W.region<|L.a rfl rfl<|L.nil<|X.seq<|W.seq<|W.seq<|W.region<|L.m rfl rfl<|L.v ((R1.nilSl rfl tyS29).asB (c:=T.isNone) (rfl)) rfl<|L.nil ?_
 refine X.seq<|W.cond rfl ?_ ?_
 ·
  intro hc4
  have hcc_:=hc4
  refine W.seq<|W.region<|L.a rfl rfl<|L.nil<|X.seq<|W.ret<|X.thenRet<|X.result1 rfl (.tmp rfl .nil) ?_
  have h9:=hcap.2.2 (Option.isNone_iff_eq_none.1 hc4)
  have h8:zs=[]:=List.length_eq_zero_iff.1 (by omega)
  subst h8
  exact ⟨own_nil _ _ _ _,hm0⟩
 intro hc4
 have hcc_:=hc4
 refine W.skip<|X.seq<|W.seq<|W.region<|L.buildEmpty tyS29 rfl ?_
 intro g5 w1 hN5
 have ho:World.ownsRow w1 w.heap.size 3 1 (.slice (some ⟨g5,0,none⟩) 0 0) 0 []:=⟨rfl,.inr ⟨g5,0,#[],rfl,New.ge hN5 hm0.size,hN5.blk,Nat.le_refl _,by decide,rfl,rfl⟩⟩
 replace hL:=hL.new hN5;replace hm0:=hm0.trans (hN5.mod.mono (by simp));clear hN5
 obtain ⟨v5,hv_v5⟩:∃ v,v=Value.slice (some ⟨g5,0,none⟩) 0 0:=⟨_,rfl⟩
 have hol_v5:ownL v5=[g5]:=by rw [hv_v5]; rfl
 rw [← hv_v5] at ho ⊢
 replace hL:=hL.sub (of_cons hol_v5);clear hv_v5 hol_v5
 refine L.m rfl rfl ?_
 have hrow:=Lay.rowI hL
 refine L.append rfl rfl ho hrow (intsZ_one zs) tyS29 tyZ3 (by omega) (by unfold maxLen; omega) hm0.size rfl ?_
 intro v7 w2 ho7' hG7
 replace hL:=hL.grew2 hG7 (by first | exact mem_own | (intro b hb; simp [hb]));replace hm0:=Mod.oldOwn hm0 hG7.mod ho;replace ho:=ho7'; clear ho7';clear hG7
 refine L.a rfl rfl<|L.nil<|X.seq<|W.ret<|X.result1 rfl (.tmp rfl .nil) ?_
 exact ⟨own_congr ho (by simp) (by simp),hm0⟩
theorem c_IndexT {N9 : List Nat} {w : World} {v : Value} {ts : List TR} {f : FuncId} {us : List Value} {p : TR → Bool} (hL : Lay rdT N9 w v ts) (hT : TestT Tryz.prog w f us p) :
    Ret Tryz.prog 103 #[v,.func (.func f) #[] us.toArray] w (fun r w'=>∃ z:Int,r=.int .i64 z∧(0≤z↔ts.any p=true)∧Mod [] w w'):=by
 obtain ⟨T,t,rfl⟩:=hL.form;have hmax:=hL.max; unfold maxLen at hmax
 refine Ret.of (vs:=[.slice T ts.length t,.func (.func f) #[] us.toArray]) (n:=19) Tryz.func103 rfl rfl rfl rfl ?_
 have hm0:Mod [] w w:=Mod.refl _ _
 refine W.seq<|W.region<|L.a rfl rfl<|L.nil<|X.seq<|W.seq<|W.seq<|W.region<|L.m rfl rfl<|L.v (R1.lenLay rfl hL tyS44) rfl<|L.m rfl rfl ?_
 refine L.nil<|X.seq<|W.block<|W.loop (ι:=Nat) (fun i=>[(0,.slice T ts.length t),(1,.func (.func f) #[] us.toArray),(7,.int .i64 (ts.length:Int)),(8,.int .i64 (i:Int))]) (fun i w_=>i≤ts.length∧(∀ z∈ts.take i,p z=false)∧Lay rdT N9 w_ (.slice T ts.length t) ts∧Mod [] w w_) (fun i=>ts.length - i) 0 ?_ ?_ ?_
 · exact ⟨rfl,rfl,rfl,rfl,trivial⟩
 ·
  exact ⟨Nat.zero_le _,(fun z h=>by simp at h),hL,hm0⟩
 rintro i w1 ⟨hi,hno,hL,hm0⟩
 refine W.seq<|W.region<|L.v (R1.lt rfl rfl) rfl<|L.nil<|X.seq<|W.seq<|W.cond rfl ?_ ?_
 ·
  intro hc9
  try simp only [bq,ne_eq] at hc9
  refine W.skip<|X.seq<|W.seq<|W.block<|W.seq<|W.region<|L.m rfl rfl<|L.a rfl rfl<|L.nil<|X.seq<|W.seq ?_
  refine W.region<|L.m rfl rfl<|L.m rfl rfl<|L.m rfl rfl<|L.v (R1.atLay (j:=i) rfl rfl hL tyS44 rfl (by omega)) rfl ?_
  obtain ⟨z15,cs15,hz15,hE15,ds15,rfl,vn15,vd15,rfl,hn15,hd15⟩:=Lay.elemQ hL (j:=i) (by omega);obtain ⟨A15,c15,rfl⟩:=hn15.form;obtain ⟨B15,e15,rfl⟩:=hd15.form
  refine L.v (R1.loadE rfl hE15 tyG43) rfl<|L.callV rfl rfl (hT _ z15 _ _ _ _ hm0) rfl ?_
  rintro _ w2 ⟨rfl,hm2⟩
  replace hL:=hL.gr hm2;replace hm0:=hm0.trans hm2;clear hm2
  refine L.nil<|X.seq<|W.cond rfl ?_ ?_
  ·
   intro hc16
   have hcc_:=hc16
   refine W.seq<|W.region<|L.m rfl rfl<|L.a rfl rfl<|L.nil<|X.seq<|W.ret<|X.blockRet<|X.thenRet<|X.nextRet<|X.blockRet ?_
   refine X.thenRet<|X.result1 rfl (.tmp rfl .nil) ?_
   exact ⟨_,rfl,⟨fun _=>List.any_eq_true.2 ⟨z15,List.mem_of_getElem? hz15,hc16⟩,fun _=>by omega⟩,hm0⟩
  intro hc16
  have hcc_:=hc16
  refine W.skip<|X.blockEnd<|X.seq<|W.region<|L.v (R1.addI (b:=1) rfl rfl (by omega)) rfl<|L.m rfl rfl<|L.nil<|X.next (i + 1) ?_ ?_ ?_
  · exact ⟨rfl,rfl,rfl,rfl,trivial⟩
  ·
   refine ⟨by omega,fun z hz=>?_,hL,hm0⟩
   obtain ⟨hi9,he9⟩:=List.getElem?_eq_some_iff.1 hz15
   rw [List.take_succ_eq_append_getElem hi9,he9] at hz
   rcases List.mem_append.1 hz with h9 | h9
   · exact hno z h9
   rw [List.mem_singleton.1 h9]; exact hc16
  first | omega | (dsimp only; omega)
 intro hc9
 try simp only [bq,ne_eq] at hc9
 obtain rfl:i=ts.length:=by omega
 refine W.exit<|X.thenExit<|X.nextExit<|X.here<|X.seq<|W.seq<|W.region<|L.a rfl rfl<|L.nil<|X.seq<|W.ret ?_
 refine X.result1 rfl (.tmp rfl .nil) ?_
 rw [List.take_length] at hno
 exact ⟨_,rfl,⟨fun h9=>by omega,fun h9=>by rw [any_no hno] at h9; cases h9⟩,hm0⟩
theorem c_ContainsT {N9 : List Nat} {w : World} {v : Value} {ts : List TR} {f : FuncId} {us : List Value} {p : TR → Bool} (hL : Lay rdT N9 w v ts) (hT : TestT Tryz.prog w f us p) :
    Ret Tryz.prog 76 #[v,.func (.func f) #[] us.toArray] w (fun r w'=>r=.bool (ts.any p)∧Mod [] w w'):=by
 refine Ret.of (vs:=[v,.func (.func f) #[] us.toArray]) (n:=9) Tryz.func76 rfl rfl rfl rfl ?_
 have hm0:Mod [] w w:=Mod.refl _ _
 refine W.seq<|W.region<|L.a rfl rfl<|L.nil<|X.seq<|W.seq<|W.region<|L.m rfl rfl<|L.m rfl rfl<|L.call rfl (c_IndexT hL hT) rfl ?_
 rintro _ w1 ⟨z7,rfl,hz7,hm1⟩
 replace hm0:=hm0.trans hm1;clear hm1
 refine L.v ((R1.ge rfl rfl).asB (c:=(ts.any p)) (by cases h9:ts.any p <;> simp [h9] at hz7 ⊢ <;> omega)) rfl<|L.a rfl rfl<|L.nil<|X.seq<|W.ret<|X.result1 rfl (.tmp rfl .nil) ?_
 exact ⟨rfl,hm0⟩
theorem c_hasF {w : World} {z : TR} {A B : Option Addr} {c e g : Nat} {v : Int} (hb : Blk w g 3 #[.int .i64 v]) :
    Ret Tryz.prog 99 #[.agg #[.int .i64 z.v,.bool z.c.s,.slice A z.c.n.length c,.slice B z.c.d.length e],.pointer (some ⟨g,0,none⟩)] w (fun r w'=>r=.bool (decide (z.v=v))∧Mod [] w w'):=by
 refine Ret.of (vs:=[.agg #[.int .i64 z.v,.bool z.c.s,.slice A z.c.n.length c,.slice B z.c.d.length e],.pointer (some ⟨g,0,none⟩)]) (n:=8) Tryz.func99 rfl rfl rfl rfl ?_
 have hm0:Mod [] w w:=Mod.refl _ _
 refine W.seq<|W.region<|L.box rfl rfl ?_
 intro g2 w1 hN2
 replace hb:=Blk.gr hb hN2.mod;replace hm0:=hm0.trans (hN2.mod.mono (by simp));have hb2:=hN2.blk;clear hN2
 refine L.a rfl rfl<|L.nil<|X.seq<|W.seq<|W.region<|L.v (R1.fieldAt rfl tyF43_0) rfl<|L.v (R1.loadFld rfl hb2 rfl tyP3) rfl<|L.v (R1.loadFld rfl hb rfl tyP3) rfl<|L.v ((R1.eq rfl rfl).asB (c:=(decide (z.v=v))) (rfl)) rfl<|L.a rfl rfl<|L.nil ?_
 refine X.seq<|W.ret<|X.result1 rfl (.tmp rfl .nil) ?_
 exact ⟨rfl,hm0⟩
theorem c_has {N9 : List Nat} {w : World} {c : CR} {vt vn vd : Value} (ht : Lay rdT N9 w vt c.ts) (h : U32 N9 w vn c.k.n) (k : U32 N9 w vd c.k.d) {v : Int} :
    Ret Tryz.prog 69 #[.agg #[.int .i64 c.st,vt,.bool c.k.s,vn,vd],.int .i64 v] w (fun r w'=>r=.bool (hasV c v)∧Mod [] w w'):=by
 obtain ⟨T9,t9,rfl⟩:=ht.form;obtain ⟨A9,c9,rfl⟩:=h.form;obtain ⟨B9,e9,rfl⟩:=k.form
 refine Ret.of (vs:=[.agg #[.int .i64 c.st,.slice T9 c.ts.length t9,.bool c.k.s,.slice A9 c.k.n.length c9,.slice B9 c.k.d.length e9],.int .i64 v]) (n:=9) Tryz.func69 rfl rfl rfl rfl ?_
 have hm0:Mod [] w w:=Mod.refl _ _
 refine W.seq<|W.region<|L.box rfl rfl ?_
 intro g2 w1 hN2
 replace ht:=ht.new hN2;replace hm0:=hm0.trans (hN2.mod.mono (by simp));have hb2:=hN2.blk;clear hN2
 refine L.box rfl rfl ?_
 intro g3 w2 hN3
 replace ht:=ht.new hN3;replace hm0:=hm0.trans (hN3.mod.mono (by simp));replace hb2:=Blk.gr hb2 hN3.mod;have hb3:=hN3.blk;clear hN3
 refine L.a rfl rfl<|L.nil<|X.seq<|W.seq<|W.region<|L.v (R1.fieldAt rfl tyF47_1) rfl<|L.v (R1.loadFld rfl hb2 rfl tyP44) rfl<|L.v (R1.makeFunc rfl rfl) rfl ?_
 have hT:TestT Tryz.prog _ 99 [.pointer (some ⟨g3,0,none⟩)] (fun t=>decide (t.v=v)):=fun w1 z A B c e hm=>c_hasF (Blk.gr hb3 hm)
 refine L.call rfl (c_ContainsT (p:=fun t=>decide (t.v=v)) (us:=[.pointer (some ⟨g3,0,none⟩)]) ht hT) rfl ?_
 rintro _ w3 ⟨rfl,hm3⟩
 replace hm0:=hm0.trans hm3;clear hm3
 refine L.a rfl rfl<|L.nil<|X.seq<|W.ret<|X.result1 rfl (.tmp rfl .nil) ?_
 exact ⟨rfl,hm0⟩
theorem c_Mul64 {w : World} {y : Nat} (hy : y ≤ 1000000) :
    Ret Tryz.prog 117 #[.int .u64 ((1:Nat):Int),.int .u64 ((y:Nat):Int)] w (fun r w'=>r=.tuple #[.int .u64 ((0:Nat):Int),.int .u64 ((y:Nat):Int)]∧Mod [] w w'):=by
 refine Ret.of (vs:=[.int .u64 ((1:Nat):Int),.int .u64 ((y:Nat):Int)]) (n:=51) Tryz.func117 rfl rfl rfl rfl ?_
 have hm0:Mod [] w w:=Mod.refl _ _
 refine W.seq<|W.region<|L.a rfl rfl<|L.a rfl rfl<|L.nil<|X.seq<|W.seq<|W.region<|L.m rfl rfl<|L.v ((R1.andL (b:=4294967295) rfl rfl (by omega) (by omega)).as (j:=((1:Nat):Int)) (by decide)) rfl<|L.a rfl rfl ?_
 refine L.nil<|X.seq<|W.seq<|W.region<|L.m rfl rfl<|L.v (R1.shr32 rfl rfl) rfl<|L.a rfl rfl<|L.nil<|X.seq<|W.seq<|W.region ?_
 refine L.m rfl rfl<|L.v ((R1.andL (b:=4294967295) rfl rfl (by omega) (by omega)).as (j:=((y:Nat):Int)) (by congr 1; rw [show (4294967295:Nat)=2 ^ 32 - 1 from rfl,Nat.and_two_pow_sub_one_eq_mod]; exact Nat.mod_eq_of_lt (by omega))) rfl<|L.a rfl rfl<|L.nil<|X.seq<|W.seq<|W.region<|L.m rfl rfl<|L.v (R1.shr32 rfl rfl) rfl<|L.a rfl rfl<|L.nil ?_
 refine X.seq<|W.seq<|W.region<|L.m rfl rfl<|L.m rfl rfl<|L.v ((R1.mulL rfl rfl (by omega)).as (j:=((y:Nat):Int)) (by omega)) rfl<|L.a rfl rfl<|L.nil<|X.seq<|W.seq<|W.region ?_
 refine L.m rfl rfl<|L.m rfl rfl<|L.v ((R1.mulL rfl rfl (by omega)).as (j:=((0:Nat):Int)) (by omega)) rfl<|L.m rfl rfl<|L.v (R1.shr32 rfl rfl) rfl<|L.v ((R1.addL rfl rfl (by omega)).as (j:=((0:Nat):Int)) (by first | omega | decide)) rfl<|L.a rfl rfl<|L.nil<|X.seq<|W.seq<|W.region ?_
 refine L.m rfl rfl<|L.v ((R1.andL (b:=4294967295) rfl rfl (by omega) (by omega)).as (j:=((0:Nat):Int)) (by first | omega | decide)) rfl<|L.a rfl rfl<|L.nil<|X.seq<|W.seq<|W.region<|L.m rfl rfl<|L.v (R1.shr32 rfl rfl) rfl<|L.a rfl rfl<|L.nil ?_
 refine X.seq<|W.seq<|W.region<|L.m rfl rfl<|L.m rfl rfl<|L.m rfl rfl<|L.v ((R1.mulL rfl rfl (by omega)).as (j:=((0:Nat):Int)) (by first | omega | decide)) rfl<|L.v ((R1.addL rfl rfl (by omega)).as (j:=((0:Nat):Int)) (by first | omega | decide)) rfl<|L.a rfl rfl<|L.nil<|X.seq ?_
 refine W.seq<|W.region<|L.m rfl rfl<|L.m rfl rfl<|L.v ((R1.mulL rfl rfl (by omega)).as (j:=((0:Nat):Int)) (by first | omega | decide)) rfl<|L.m rfl rfl<|L.v ((R1.addL rfl rfl (by omega)).as (j:=((0:Nat):Int)) (by first | omega | decide)) rfl<|L.m rfl rfl<|L.v (R1.shr32 rfl rfl) rfl<|L.v ((R1.addL rfl rfl (by omega)).as (j:=((0:Nat):Int)) (by first | omega | decide)) rfl<|L.a rfl rfl ?_
 refine L.nil<|X.seq<|W.seq<|W.region<|L.m rfl rfl<|L.m rfl rfl<|L.v ((R1.mulL rfl rfl (by omega)).as (j:=((y:Nat):Int)) (by omega)) rfl<|L.a rfl rfl<|L.nil<|X.seq<|W.ret ?_
 refine X.result2 rfl (.tmp rfl (.tmp rfl .nil)) ?_
 exact ⟨rfl,hm0⟩
theorem c_Mul {w : World} {y : Nat} (hy : y ≤ 1000000) :
    Ret Tryz.prog 98 #[.int .u64 ((1:Nat):Int),.int .u64 ((y:Nat):Int)] w (fun r w'=>r=.tuple #[.int .u64 ((0:Nat):Int),.int .u64 ((y:Nat):Int)]∧Mod [] w w'):=by
 refine Ret.of (vs:=[.int .u64 ((1:Nat):Int),.int .u64 ((y:Nat):Int)]) (n:=30) Tryz.func98 rfl rfl rfl rfl ?_
 have hm0:Mod [] w w:=Mod.refl _ _
 refine W.seq<|W.region<|L.a rfl rfl<|L.a rfl rfl<|L.nil<|X.seq<|W.seq<|W.condF rfl<|W.skip<|X.seq<|W.seq ?_
 refine W.region<|L.m rfl rfl<|L.m rfl rfl<|L.call rfl (c_Mul64 hy) rfl ?_
 rintro _ w1 ⟨rfl,hm1⟩
 replace hm0:=hm0.trans hm1;clear hm1
 refine L.m rfl rfl<|L.v (R1.extract rfl rfl) rfl<|L.v (R1.extract rfl rfl) rfl<|L.a rfl rfl<|L.a rfl rfl<|L.nil<|X.seq<|W.seq<|W.region<|L.m rfl rfl<|L.m rfl rfl ?_
 refine L.a rfl rfl<|L.a rfl rfl<|L.nil<|X.seq<|W.ret<|X.result2 rfl (.tmp rfl (.tmp rfl .nil)) ?_
 exact ⟨rfl,hm0⟩
theorem cut_lo9 {g n k:Nat} (h:k<n):cutS (some ⟨g,0,none⟩) n ((k:Int).toNat) n 1=.slice (some ⟨g,k,none⟩) (n - k) (n - k):=by
  have h9:n≠k:=by omega
  simp [cutS,h9,add_lit]
theorem cut_hi9 {g n k:Nat}:cutS (some ⟨g,0,none⟩) n 0 ((k:Int).toNat) 1=.slice (some ⟨g,0,none⟩) k n:=by
  simp [cutS,add_lit]
def fillR (x:Int) (n k:Nat):List Int:=List.replicate k x ++ List.replicate (n - k) 0
theorem fillR_full (x:Int) (n:Nat):fillR x n n=List.replicate n x:=by simp [fillR]
theorem fillR_zero (x:Int) (n:Nat):fillR x n 0=List.replicate n 0:=by simp [fillR]
theorem fillR_len {x:Int} {n k:Nat} (h:k≤n):(intsZ (fillR x n k)).length=n:=by simp [fillR,intsZ]; omega
theorem made_intZ (m:Nat):madeCells (Value.int .i64 0).cells (m * 1)=(intsZ (List.replicate m 0)).toArray:=by
  have:=toList_madeCells_one (.int .i64 0) (m * 1)
  rw [← Array.toList_inj]
  simp only [Value.cells]
  rw [this]
  simp [intsZ]
theorem copy_src {w:World} {g t:Nat} {cur cs:List Value} (hb:Blk w g t cur.toArray) (h:∀ (j:Nat) v,cs[j]?=some v→cur[j]?=some v):∀ (j:Nat) v,cs[j]?=some v→w.cell? ((⟨g,0,none⟩:Addr).add j)=some v:=fun j v hj=>by
  rw [add_lit,hb.cell]; simpa using h j v hj
theorem fill_step9 {x:Int} {n k m:Nat} (h:k + m≤n):(intsZ (fillR x n k)).take k ++ intsZ (List.replicate m x) ++ (intsZ (fillR x n k)).drop (k + (intsZ (List.replicate m x)).length)=intsZ (fillR x n (k + m)):=by
  have e1:(intsZ (fillR x n k)).take k=intsZ (List.replicate k x):=by unfold fillR; rw [intsZ_append,List.take_left' (by simp [intsZ])]
  have e2:(intsZ (fillR x n k)).drop (k + (intsZ (List.replicate m x)).length)=intsZ (List.replicate (n - (k + m)) 0):=by
    unfold fillR
    rw [intsZ_append,List.drop_append]
    simp [intsZ]
    omega
  rw [e1,e2,← intsZ_append,← intsZ_append]
  unfold fillR
  rw [List.replicate_append_replicate]
theorem fill_src {x:Int} {n k m:Nat} (h:m≤k):∀ (j:Nat) v,(intsZ (List.replicate m x))[j]?=some v→(intsZ (fillR x n k))[j]?=some v:=fun j v hj=>by
  obtain ⟨h1,h2⟩:=List.getElem?_eq_some_iff.1 hj
  have h3:j<m:=by simpa [intsZ] using h1
  unfold fillR
  rw [intsZ_append,List.getElem?_append_left (by rw [intsZ_length,List.length_replicate]; omega),← h2]
  simp [intsZ,List.getElem?_replicate,show j<k by omega]
theorem own_full {w:World} {B el g n:Nat} {cs:List Value} (hb:Blk w g el cs.toArray) (hge:B≤g) (hl:cs.length=n) (hn:n≤maxLen):w.ownsRow B el 1 (.slice (some ⟨g,0,none⟩) n n) n cs :=
  ⟨by omega,.inr ⟨g,n,cs.toArray,rfl,hge,hb,Nat.le_refl _,hn,by simp; omega,by simp [List.take_of_length_le,hl]⟩⟩
theorem c_RepeatI {w : World} {g0 n : Nat} {x : Int} (hb : Blk w g0 3 #[.int .i64 x]) (hn1 : 1 ≤ n) (hn : n ≤ 1000000) :
    Ret Tryz.prog 68 #[.slice (some ⟨g0,0,none⟩) 1 1,.int .i64 ((n:Nat):Int)] w (fun r w'=>w'.ownsRow w.heap.size 3 1 r n (intsZ (List.replicate n x))∧Mod [] w w'):=by
 refine Ret.of (vs:=[.slice (some ⟨g0,0,none⟩) 1 1,.int .i64 ((n:Nat):Int)]) (n:=48) Tryz.func68 rfl rfl rfl rfl ?_
 have hm0:Mod [] w w:=Mod.refl _ _
 refine W.seq<|W.region<|L.a rfl rfl<|L.nil<|X.seq<|W.seq<|W.seq<|W.region<|L.m rfl rfl<|L.v (R1.lt rfl rfl) rfl<|L.nil ?_
 refine X.seq<|W.cond rfl ?_ ?_
 ·
  intro hc10
  try simp only [bq,ne_eq] at hc10
  omega
 intro hc10
 try simp only [bq,ne_eq] at hc10
 refine W.skip<|X.seq<|W.seq<|W.region<|L.m rfl rfl<|L.v (R1.len rfl tyS29) rfl<|L.v (R1.convIL rfl tyI3 tyI90 (by omega)) rfl<|L.m rfl rfl<|L.v (R1.convIL rfl tyI3 tyI90 (by omega)) rfl<|L.call rfl (c_Mul (y:=n) hn) rfl ?_
 rintro _ w1 ⟨rfl,hm1⟩
 replace hb:=Blk.gr hb hm1;replace hm0:=hm0.trans hm1;clear hm1
 refine L.m rfl rfl<|L.v (R1.extract rfl rfl) rfl<|L.v (R1.extract rfl rfl) rfl<|L.a rfl rfl<|L.a rfl rfl<|L.nil<|X.seq<|W.seq<|W.seq<|W.region<|L.m rfl rfl ?_
 refine L.v ((R1.gt rfl rfl).asB (c:=false) (by simp)) rfl<|L.m rfl rfl<|L.on rfl rfl rfl (R1.move rfl) rfl<|L.on rfl rfl rfl ((R1.gt rfl rfl).asB (c:=false) (by simp; omega)) rfl<|L.v (R1.pickF rfl rfl) rfl<|L.nil<|X.seq<|W.condF rfl<|W.skip<|X.seq<|W.seq ?_
 refine W.region<|L.m rfl rfl<|L.v (R1.convLI rfl tyI90 tyI3 (by omega)) rfl<|L.makeSlice (m:=n) rfl rfl rfl rfl tyS29 tyZ3 (by omega) (by unfold maxLen; omega) rfl ?_
 intro g30 w2 hN30
 replace hb:=Blk.gr hb hN30.mod;have hge_g30:=New.ge hN30 hm0.size;replace hm0:=hm0.trans (hN30.mod.mono (by simp));have hb30:=hN30.blk;clear hN30
 rw [made_intZ] at hb30
 rw [← fillR_zero x n] at hb30
 refine L.a rfl rfl<|L.nil<|X.seq<|W.seq<|W.region<|L.m rfl rfl<|L.m rfl rfl<|L.copyAt (cs:=(intsZ (List.replicate 1 x))) rfl rfl hb30 (by simp [intsZ]; omega) (copy_src (cur:=[.int .i64 x]) hb (fun j v hj=>hj)) (by rw [fillR_len (by omega)]; simp [intsZ]; omega) (intsZ_one _) tyS29 rfl ?_
 intro w3 hb30' hm3
 replace hm0:=hm0.old1 hm3 hge_g30;clear hm3;replace hb30:=hb30'; clear hb30';have e9:=fill_step9 (x:=x) (n:=n) (k:=0) (m:=1) (by omega)
 rw [e9] at hb30
 clear e9
 refine L.a rfl rfl<|L.nil<|X.seq<|W.seq<|W.block<|W.loop (ι:=Nat) (fun k=>[(7,.slice (some ⟨g30,0,none⟩) n n),(8,.int .i64 ((k:Nat):Int))]) (fun k w_=>1≤k∧k≤n∧w.heap.size≤g30∧Blk w_ g30 3 (intsZ (fillR x n k)).toArray∧Mod [] w w_) (fun k=>n - k) 1 ?_ ?_ ?_
 · exact ⟨rfl,rfl,trivial⟩
 ·
  exact ⟨Nat.le_refl _,hn1,hge_g30,hb30,hm0⟩
 rintro k w4 ⟨hk1,hk,hge_g30,hb30,hm0⟩
 refine W.seq<|W.seq<|W.region<|L.m rfl rfl<|L.m rfl rfl<|L.v (R1.len rfl tyS29) rfl<|L.v (R1.lt rfl rfl) rfl<|L.nil<|X.seq<|W.cond rfl ?_ ?_
 ·
  intro hc37
  try simp only [bq,ne_eq] at hc37
  refine W.skip<|X.seq<|W.block<|W.drawG [g30] (T:=[]) rfl (by decide +kernel) (NoHang.block (NoHang.next (NoHang.block (NoHang.then NoHang.post)))) (fun w5 hm5=>?_)
  replace hb30:=Blk.gr hb30 hm5;replace hm0:=hm0.trans hm5
  have hS1:Mod [g30] w5 w5:=Mod.refl _ _
  clear hm5
  refine D.m 0 rfl (by kernel_rfl) rfl hS1 rfl<|D.m 1 rfl (by kernel_rfl) rfl hS1 rfl<|D.m 2 rfl (by kernel_rfl) rfl hS1 rfl<|D.take 3 rfl (by kernel_rfl) (fun w_ hS=>((R1.sliceL rfl rfl tyS29 (by omega) (by omega)).asV (v:=.slice (some ⟨g30,k,none⟩) (n - k) (n - k)) (cut_lo9 (by omega)))) hS1 rfl<|D.m 4 rfl (by kernel_rfl) rfl hS1 rfl<|D.m 5 rfl (by kernel_rfl) rfl hS1 rfl<|D.take 6 rfl (by kernel_rfl) (fun w_ hS=>((R1.sliceH rfl rfl tyS29 (by omega) (by omega)).asV (v:=.slice (some ⟨g30,0,none⟩) k n) (cut_hi9))) hS1 rfl ?_
  have hl9:(intsZ (List.replicate (min (n - k) k) x)).length=(min (n - k) k):=by simp [intsZ]
  refine D.one 7 rfl (by kernel_rfl) (fun hX=>?_)
  refine L.copyAt (cs:=(intsZ (List.replicate (min (n - k) k) x))) rfl rfl hb30 (by simp [intsZ]) (copy_src hb30 (fill_src (by omega))) (by rw [fillR_len (by omega)]; simp [intsZ]; omega) (intsZ_one _) tyS29 rfl ?_
  intro w6 hb30' hm6
  replace hS1:=hS1.trans hm6;replace hm0:=hm0.old1 hm6 hge_g30;clear hm6;replace hb30:=hb30'; clear hb30'
  refine L.nil (hX _ _ ⟨.inr hS1,?_⟩)
  have e9:=fill_step9 (x:=x) (n:=n) (k:=k) (m:=(min (n - k) k)) (by omega)
  rw [e9] at hb30
  clear e9
  refine D.take 8 rfl (by kernel_rfl) (fun w_ hS=>(R1.addI rfl rfl (by omega))) hS1 rfl<|D.take 9 rfl (by kernel_rfl) (fun w_ hS=>(R1.assign rfl)) hS1 rfl<|D.done (by decide +kernel) ?_ _
  refine X.blockEnd<|X.next (k + (intsZ (List.replicate (min (n - k) k) x)).length) ?_ ?_ ?_
  · exact ⟨rfl,rfl,trivial⟩
  ·
   exact ⟨by omega,by omega,hge_g30,by rw [hl9]; exact hb30,hm0⟩
  first | omega | (dsimp only; omega)
 intro hc37
 try simp only [bq,ne_eq] at hc37
 obtain rfl:k=n:=by omega
 refine W.exit<|X.thenExit<|X.nextExit<|X.here<|X.seq<|W.seq<|W.region<|L.m rfl rfl<|L.a rfl rfl<|L.nil<|X.seq ?_
 refine W.ret<|X.result1 rfl (.tmp rfl .nil) ?_
 rw [fillR_full] at hb30
 exact ⟨own_full hb30 hge_g30 (by simp [intsZ]) (by unfold maxLen; omega),hm0⟩
end Go.Proofs.YtedokfpoajfflaaGreat
