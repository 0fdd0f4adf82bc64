/- Several texts in one. -/
import Derived.Test.YtedokfpoajfflaaGreatRuD
import Derived.Test.YtedokfpoajfflaaGreatDeG
section
namespace Go.Proofs.YtedokfpoajfflaaGreat
open Go.RowKit
set_option linter.unusedVariables false
set_option linter.unusedSimpArgs false
set_option maxRecDepth 10000
def emptyB (c:CR):Bool:=decide (c.ts.length=0) && decide (QR.val c.k=0)
def mayP (cs:List CR) (os:List Int) (n:Nat):Prop:=1≤n∧n≤64∧cs.length≤256∧os.length=cs.length∧∀ c∈cs,isC c (n:Int)=true
instance (cs:List CR) (os:List Int) (n:Nat):Decidable (mayP cs os n):=by unfold mayP; infer_instance
def badB (cs:List CR) (outs:List Int) (i:Nat):Bool:=decide ((cs.getD i c0R).st=0) && (decide (outs.getD i 0<0) && !emptyB (cs.getD i c0R))
def badF (cs:List CR) (outs:List Int):Option Nat:=(List.range cs.length).find? (badB cs outs)
def phZ (cs:List CR) (os:List Int) (val:List QR):(List Int × List QR) × Int × Int :=
  if mayP cs os val.length then
    match firstW (List.range val.length) (wsOf val.length cs) 0 with
    | some i=>(([],[]),(i:Int),9)
    | none=>if ChB (val.length:Int) cs os=true then
        match badF cs (setZ (val.length:Int) cs os) with
        | some i=>(([],[]),(i:Int),10)
        | none=>if (runZ cs (setZ (val.length:Int) cs os) val).2.2≠0 then (([],[]),(runZ cs (setZ (val.length:Int) cs os) val).2.1,(runZ cs (setZ (val.length:Int) cs os) val).2.2) else ((setZ (val.length:Int) cs os,(runZ cs (setZ (val.length:Int) cs os) val).1),-1,0)
      else (([],[]),-1,1)
  else (([],[]),-1,1)
theorem phZ_no {cs:List CR} {os:List Int} {val:List QR} (h:¬ mayP cs os val.length):phZ cs os val=(([],[]),-1,1):=by unfold phZ; rw [if_neg h]
theorem phZ_ring {cs:List CR} {os:List Int} {val:List QR} {i:Nat} (h:mayP cs os val.length) (h2:firstW (List.range val.length) (wsOf val.length cs) 0=some i):phZ cs os val=(([],[]),(i:Int),9):=by unfold phZ; rw [if_pos h,h2]
theorem phZ_cho {cs:List CR} {os:List Int} {val:List QR} (h:mayP cs os val.length) (h2:firstW (List.range val.length) (wsOf val.length cs) 0=none) (h3:ChB (val.length:Int) cs os=false):phZ cs os val=(([],[]),-1,1):=by unfold phZ; rw [if_pos h,h2]; simp only [h3]; rfl
theorem phZ_bad {cs:List CR} {os:List Int} {val:List QR} {i:Nat} (h:mayP cs os val.length) (h2:firstW (List.range val.length) (wsOf val.length cs) 0=none) (h3:ChB (val.length:Int) cs os=true) (h4:badF cs (setZ (val.length:Int) cs os)=some i):phZ cs os val=(([],[]),(i:Int),10):=by unfold phZ; rw [if_pos h,h2]; simp only [h3,h4,if_true]
theorem phZ_run {cs:List CR} {os:List Int} {val:List QR} (h:mayP cs os val.length) (h2:firstW (List.range val.length) (wsOf val.length cs) 0=none) (h3:ChB (val.length:Int) cs os=true) (h4:badF cs (setZ (val.length:Int) cs os)=none):phZ cs os val=if (runZ cs (setZ (val.length:Int) cs os) val).2.2≠0 then (([],[]),(runZ cs (setZ (val.length:Int) cs os) val).2.1,(runZ cs (setZ (val.length:Int) cs os) val).2.2) else ((setZ (val.length:Int) cs os,(runZ cs (setZ (val.length:Int) cs os) val).1),-1,0):=by unfold phZ; rw [if_pos h,h2]; simp only [h3,h4,if_true]
theorem held_eq {n:Nat} (h:n≤64):held (n:Int)=n:=by unfold held; omega
theorem badF_at {cs:List CR} {outs:List Int} {i:Nat} (hi:i<cs.length) (h:badB cs outs i=true) (hno:∀ j,j<i→badB cs outs j=false):badF cs outs=some i:=find_at hi h hno
theorem badF_no {cs:List CR} {outs:List Int} (hno:∀ j,j<cs.length→badB cs outs j=false):badF cs outs=none:=find_no hno
theorem built_S9 {P:Program} {t:TypeId} {v0 v1:Value} (h1:∃ A k c,v0=.slice A k c) (h2:∃ A k c,v1=.slice A k c) (h:∀ A1 k1 c1 A2 k2 c2,P.built t [(0,.slice A1 k1 c1),(1,.slice A2 k2 c2)]=some #[.slice A1 k1 c1,.slice A2 k2 c2]):P.built t [(0,v0),(1,v1)]=some #[v0,v1]:=by
  obtain ⟨A1,k1,c1,rfl⟩:=h1;obtain ⟨A2,k2,c2,rfl⟩:=h2
  exact h _ _ _ _ _ _
theorem one_S {v0 v1:Value} (h1:∃ A k c,v0=.slice A k c) (h2:∃ A k c,v1=.slice A k c):([v0,v1].all fun x=>x.oneCell')=true:=by
  obtain ⟨A1,k1,c1,rfl⟩:=h1;obtain ⟨A2,k2,c2,rfl⟩:=h2
  rfl
theorem lay_form' {α:Type} {R:Rd α} {M:List Nat} {w:World} {v:Value} {as_:List α} (h:Lay R M w v as_):∃ A k c,v=.slice A k c:=let ⟨A,c,e⟩:=h.form; ⟨A,_,c,e⟩
theorem badB_snoc {cs:List CR} {outs:List Int} {i j:Nat} {z:CR} (hno:∀ j,j<i→badB cs outs j=false) (hj:j<i + 1) (hz:cs[i]?=some z) (h:(decide (z.st=0) && (decide (outs.getD i 0<0) && !emptyB z))=false):badB cs outs j=false:=by
  rcases Nat.lt_or_ge j i with h9 | h9
  · exact hno j h9
  obtain rfl:j=i:=by omega
  unfold badB; rw [getD_of_get hz]; exact h
theorem nat_of {z:Int} {cs:List CR} {os:List Int} (h:ChB z cs os=true):∃ n:Nat,z=(n:Int)∧1≤n∧n≤64:=by
  obtain ⟨h1,h2,_⟩:=ChB_true h
  exact ⟨z.toNat,by omega,by omega,by omega⟩
theorem setZ_yes {n:Nat} {cs:List CR} {os:List Int} (h:ChB (n:Int) cs os=true):setZ (n:Int) cs os=setlZ n cs os:=by unfold setZ; rw [if_pos h,Int.toNat_natCast]
theorem chb_set {z:Int} {cs:List CR} {os:List Int} (h:ChB z cs os=true):ChB z cs (setZ z cs os)=true:=by
  obtain ⟨n,rfl,_⟩:=nat_of h
  rw [setZ_yes h]
  exact ChoZ.back h (setlZ_cho (ChoZ.of h)).c
theorem setZ_len {z:Int} {cs:List CR} {os:List Int} (h:ChB z cs os=true):(setZ z cs os).length=cs.length:=by
  obtain ⟨n,rfl,_⟩:=nat_of h
  rw [setZ_yes h]; exact (setlZ_cho (ChoZ.of h)).len
def TestC (P:Program) (w:World) (N9:List Nat) (f:FuncId) (us:List Value) (cs:List CR) (p:CR→Bool):Prop:=∀ (w1:World) (z:CR) (T A B:Option Addr) (t a b:Nat),z∈cs→Mod [] w w1→Lay rdT N9 w1 (.slice T z.ts.length t) z.ts→U32 N9 w1 (.slice A z.k.n.length a) z.k.n→U32 N9 w1 (.slice B z.k.d.length b) z.k.d→Ret P f ([Value.agg #[.int .i64 z.st,.slice T z.ts.length t,.bool z.k.s,.slice A z.k.n.length a,.slice B z.k.d.length b]] ++ us).toArray w1 (fun r w2=>r=.bool (p z)∧Mod [] w1 w2)
theorem anyC_no {p:CR→Bool} {ts:List CR} (h:∀ z∈ts,p z=false):ts.any p=false:=by
  rw [List.any_eq_false]; intro z hz; rw [h z hz]; decide
theorem c_IndexC {N9 : List Nat} {w : World} {v : Value} {cs : List CR} {f : FuncId} {us : List Value} {p : CR → Bool} (hL : Lay rdC N9 w v cs) (hT : TestC Tryz.prog w N9 f us cs p) :
    Ret Tryz.prog 33 #[v,.func (.func f) #[] us.toArray] w (fun r w'=>∃ z:Int,r=.int .i64 z∧(0≤z↔cs.any p=true)∧Mod [] w w'):=by
 obtain ⟨TL,tL,rfl⟩:=hL.form;have hmax:=hL.max; unfold maxLen at hmax
 refine Ret.of (vs:=[.slice TL cs.length tL,.func (.func f) #[] us.toArray]) (n:=19) Tryz.func33 rfl rfl rfl rfl ?_
 have hm0:Mod [] w w:=Mod.refl _ _
 refine W.seq<|W.region<|L.a rfl rfl<|L.nil<|X.seq<|W.seq<|W.seq<|W.region<|L.m rfl rfl<|L.v (R1.lenLay rfl hL tyS22) rfl<|L.m rfl rfl ?_
 refine L.nil<|X.seq<|W.block<|W.loop (ι:=Nat) (fun i=>[(0,.slice TL cs.length tL),(1,.func (.func f) #[] us.toArray),(7,.int .i64 ((cs.length:Nat):Int)),(8,.int .i64 ((i:Nat):Int))]) (fun i w_=>i≤cs.length∧(∀ z∈cs.take i,p z=false)∧Lay rdC N9 w_ (.slice TL cs.length tL) cs∧Mod [] w w_) (fun i=>cs.length - i) 0 ?_ ?_ ?_
 · exact ⟨rfl,rfl,rfl,rfl,trivial⟩
 ·
  exact ⟨Nat.zero_le _,(fun z h=>by simp at h),hL,hm0⟩
 rintro i w1 ⟨hi,hno,hL,hm0⟩
 refine W.seq<|W.region<|L.v (R1.lt rfl rfl) rfl<|L.nil<|X.seq<|W.seq<|W.cond rfl ?_ ?_
 ·
  intro hc9
  try simp only [bq,ne_eq] at hc9
  refine W.skip<|X.seq<|W.seq<|W.block<|W.seq<|W.region<|L.m rfl rfl<|L.a rfl rfl<|L.nil<|X.seq<|W.seq ?_
  refine W.region<|L.m rfl rfl<|L.m rfl rfl<|L.m rfl rfl<|L.v (R1.atLay (j:=i) rfl rfl hL tyS22 rfl (by omega)) rfl ?_
  obtain ⟨z15,cs15,hz15,hE15,vt15,ds15,rfl,ht15,vn15,vd15,rfl,hn15,hd15⟩:=Lay.elemQ hL (j:=i) (by omega);obtain ⟨T15,t15,rfl⟩:=ht15.form;obtain ⟨A15,c15,rfl⟩:=hn15.form;obtain ⟨B15,e15,rfl⟩:=hd15.form
  refine L.v (R1.loadE rfl hE15 tyG47) rfl<|L.callV rfl rfl (hT _ z15 _ _ _ _ _ _ (List.mem_of_getElem? hz15) hm0 ht15 hn15 hd15) rfl ?_
  rintro _ w2 ⟨rfl,hm2⟩
  replace hL:=hL.gr hm2;replace hm0:=hm0.trans hm2;clear hm2
  refine L.nil<|X.seq<|W.cond rfl ?_ ?_
  ·
   intro hc16
   have hcc_:=hc16
   refine W.seq<|W.region<|L.m rfl rfl<|L.a rfl rfl<|L.nil<|X.seq<|W.ret<|X.blockRet<|X.thenRet<|X.nextRet<|X.blockRet ?_
   refine X.thenRet<|X.result1 rfl (.tmp rfl .nil) ?_
   exact ⟨_,rfl,⟨fun _=>List.any_eq_true.2 ⟨z15,List.mem_of_getElem? hz15,hc16⟩,fun _=>by omega⟩,hm0⟩
  intro hc16
  have hcc_:=hc16
  refine W.skip<|X.blockEnd<|X.seq<|W.region<|L.v (R1.addI (b:=1) rfl rfl (by omega)) rfl<|L.m rfl rfl<|L.nil<|X.next (i + 1) ?_ ?_ ?_
  · exact ⟨rfl,rfl,rfl,rfl,trivial⟩
  ·
   refine ⟨by omega,fun z hz=>?_,hL,hm0⟩
   obtain ⟨hi9,he9⟩:=List.getElem?_eq_some_iff.1 hz15
   rw [List.take_succ_eq_append_getElem hi9,he9] at hz
   rcases List.mem_append.1 hz with h9 | h9
   · exact hno z h9
   rw [List.mem_singleton.1 h9]; exact hc16
  first | omega | (dsimp only; omega)
 intro hc9
 try simp only [bq,ne_eq] at hc9
 obtain rfl:i=cs.length:=by omega
 refine W.exit<|X.thenExit<|X.nextExit<|X.here<|X.seq<|W.seq<|W.region<|L.a rfl rfl<|L.nil<|X.seq<|W.ret ?_
 refine X.result1 rfl (.tmp rfl .nil) ?_
 rw [List.take_length] at hno
 exact ⟨_,rfl,⟨fun h9=>by omega,fun h9=>by rw [anyC_no hno] at h9; cases h9⟩,hm0⟩
theorem c_ContainsC {N9 : List Nat} {w : World} {v : Value} {cs : List CR} {f : FuncId} {us : List Value} {p : CR → Bool} (hL : Lay rdC N9 w v cs) (hT : TestC Tryz.prog w N9 f us cs p) :
    Ret Tryz.prog 14 #[v,.func (.func f) #[] us.toArray] w (fun r w'=>r=.bool (cs.any p)∧Mod [] w w'):=by
 refine Ret.of (vs:=[v,.func (.func f) #[] us.toArray]) (n:=9) Tryz.func14 rfl rfl rfl rfl ?_
 have hm0:Mod [] w w:=Mod.refl _ _
 refine W.seq<|W.region<|L.a rfl rfl<|L.nil<|X.seq<|W.seq<|W.region<|L.m rfl rfl<|L.m rfl rfl<|L.call rfl (c_IndexC hL hT) rfl ?_
 rintro _ w1 ⟨z7,rfl,hz7,hm1⟩
 replace hm0:=hm0.trans hm1;clear hm1
 refine L.v ((R1.ge rfl rfl).asB (c:=(cs.any p)) (by cases h9:cs.any p <;> simp [h9] at hz7 ⊢ <;> omega)) rfl<|L.a rfl rfl<|L.nil<|X.seq<|W.ret<|X.result1 rfl (.tmp rfl .nil) ?_
 exact ⟨rfl,hm0⟩
theorem c_PhF {M N9 : List Nat} {w : World} {c : CR} {vt vn vd : Value} (ht : Lay rdT N9 w vt c.ts) (h : U32 N9 w vn c.k.n) (k : U32 N9 w vd c.k.d) (hbd : Bd M w) (hsm : SmC 1099511627776 c) {g n : Nat} (hb : Blk w g 3 #[.int .i64 (n : Int)]) (hn : n ≤ 1000000) :
    Ret Tryz.prog 15 #[.agg #[.int .i64 c.st,vt,.bool c.k.s,vn,vd],.pointer (some ⟨g,0,none⟩)] w (fun r w'=>r=.bool (!isC c (n:Int))∧Mod [] w w'):=by
 obtain ⟨T9,t9,rfl⟩:=ht.form;obtain ⟨A9,c9,rfl⟩:=h.form;obtain ⟨B9,e9,rfl⟩:=k.form
 refine Ret.of (vs:=[.agg #[.int .i64 c.st,.slice T9 c.ts.length t9,.bool c.k.s,.slice A9 c.k.n.length c9,.slice B9 c.k.d.length e9],.pointer (some ⟨g,0,none⟩)]) (n:=8) Tryz.func15 rfl rfl rfl rfl ?_
 have hm0:Mod [] w w:=Mod.refl _ _
 refine W.seq<|W.region<|L.box rfl rfl ?_
 intro g2 w1 hN2
 replace ht:=ht.new hN2;replace h:=h.new hN2;replace k:=k.new hN2;replace hbd:=hbd.new hN2;replace hb:=Blk.gr hb hN2.mod;replace hm0:=hm0.trans (hN2.mod.mono (by simp));have hb2:=hN2.blk;clear hN2
 refine L.a rfl rfl<|L.nil<|X.seq<|W.seq<|W.region<|L.v (R1.loadBox rfl hb2 tyG47) rfl<|L.v (R1.loadFld rfl hb rfl tyP3) rfl<|L.call rfl (c_aff_Is ht h k (n:=(n:Int)) (by omega) hbd hsm) rfl ?_
 rintro _ w2 ⟨rfl,hm2⟩
 replace hm0:=hm0.trans hm2;clear hm2
 refine L.v (R1.not rfl) rfl<|L.a rfl rfl<|L.nil<|X.seq<|W.ret<|X.result1 rfl (.tmp rfl .nil) ?_
 exact ⟨rfl,hm0⟩
theorem c_idle {M N9 : List Nat} {w : World} {c : CR} {vt vn vd : Value} (ht : Lay rdT N9 w vt c.ts) (h : U32 N9 w vn c.k.n) (k : U32 N9 w vd c.k.d) (hbd : Bd M w) (hsm : SmC 1099511627776 c) :
    Ret Tryz.prog 19 #[.agg #[.int .i64 c.st,vt,.bool c.k.s,vn,vd]] w (fun r w'=>r=.bool (emptyB c)∧Mod [] w w'):=by
 obtain ⟨T9,t9,rfl⟩:=ht.form;obtain ⟨A9,c9,rfl⟩:=h.form;obtain ⟨B9,e9,rfl⟩:=k.form
 refine Ret.of (vs:=[.agg #[.int .i64 c.st,.slice T9 c.ts.length t9,.bool c.k.s,.slice A9 c.k.n.length c9,.slice B9 c.k.d.length e9]]) (n:=12) Tryz.func19 rfl rfl rfl rfl ?_
 have hm0:Mod [] w w:=Mod.refl _ _
 refine W.seq<|W.region<|L.box rfl rfl ?_
 intro g1 w1 hN1
 replace ht:=ht.new hN1;replace h:=h.new hN1;replace k:=k.new hN1;replace hbd:=hbd.new hN1;replace hm0:=hm0.trans (hN1.mod.mono (by simp));have hb1:=hN1.blk;clear hN1
 refine L.a rfl rfl<|L.nil<|X.seq<|W.seq<|W.region<|L.v (R1.fieldAt rfl tyF47_1) rfl<|L.v (R1.loadFld rfl hb1 rfl tyP44) rfl<|L.v (R1.lenLay rfl ht tyS44) rfl<|L.v ((R1.eq rfl rfl).asB (c:=(decide (c.ts.length=0))) (by rw [decide_eq_decide]; omega)) rfl<|L.m rfl rfl ?_
 cases hgd7:(decide (c.ts.length=0))
 ·
  have hcc_:=hgd7
  refine L.off rfl rfl rfl rfl rfl<|L.off rfl rfl rfl rfl rfl<|L.off rfl rfl rfl rfl rfl<|L.v (R1.pickF rfl rfl) rfl<|L.a rfl rfl<|L.nil<|X.seq<|W.ret<|X.result1 rfl (.tmp rfl .nil)<|⟨?_,hm0⟩
  unfold emptyB
  rw [hgd7]
  rfl
 have hcc_:=hgd7
 refine L.on rfl rfl rfl (R1.fieldAt rfl tyF47_2) rfl<|L.on rfl rfl rfl (R1.loadBoxAt (ds:=[.bool c.k.s,.slice A9 c.k.n.length c9,.slice B9 c.k.d.length e9]) rfl hb1 rfl tyG26) rfl<|L.callOn rfl rfl rfl rfl (c_rat_Zero (q:=(QR.val c.k)) rfl h k hbd hsm.2.1.1 hsm.2.1.2) rfl ?_
 rintro _ w2 ⟨rfl,hm2⟩
 replace hm0:=hm0.trans hm2;clear hm2
 refine L.v (R1.pickT rfl rfl) rfl<|L.a rfl rfl<|L.nil<|X.seq<|W.ret<|X.result1 rfl (.tmp rfl .nil)<|⟨?_,hm0⟩
 unfold emptyB
 rw [hgd7]
 rfl
theorem c_r15_Empty {M N9 : List Nat} {w : World} {c : CR} {vt vn vd : Value} (ht : Lay rdT N9 w vt c.ts) (h : U32 N9 w vn c.k.n) (k : U32 N9 w vd c.k.d) (hbd : Bd M w) (hsm : SmC 1099511627776 c) :
    Ret Tryz.prog 24 #[.agg #[.int .i64 c.st,vt,.bool c.k.s,vn,vd]] w (fun r w'=>r=.bool (emptyB c)∧Mod [] w w'):=by
 obtain ⟨T9,t9,rfl⟩:=ht.form;obtain ⟨A9,c9,rfl⟩:=h.form;obtain ⟨B9,e9,rfl⟩:=k.form
 refine Ret.of (vs:=[.agg #[.int .i64 c.st,.slice T9 c.ts.length t9,.bool c.k.s,.slice A9 c.k.n.length c9,.slice B9 c.k.d.length e9]]) (n:=12) Tryz.func24 rfl rfl rfl rfl ?_
 have hm0:Mod [] w w:=Mod.refl _ _
 refine W.seq<|W.region<|L.box rfl rfl ?_
 intro g1 w1 hN1
 replace ht:=ht.new hN1;replace h:=h.new hN1;replace k:=k.new hN1;replace hbd:=hbd.new hN1;replace hm0:=hm0.trans (hN1.mod.mono (by simp));have hb1:=hN1.blk;clear hN1
 refine L.a rfl rfl<|L.nil<|X.seq<|W.seq<|W.region<|L.v (R1.fieldAt rfl tyF47_1) rfl<|L.v (R1.loadFld rfl hb1 rfl tyP44) rfl<|L.v (R1.lenLay rfl ht tyS44) rfl<|L.v ((R1.eq rfl rfl).asB (c:=(decide (c.ts.length=0))) (by rw [decide_eq_decide]; omega)) rfl<|L.m rfl rfl ?_
 cases hgd7:(decide (c.ts.length=0))
 ·
  have hcc_:=hgd7
  refine L.off rfl rfl rfl rfl rfl<|L.off rfl rfl rfl rfl rfl<|L.off rfl rfl rfl rfl rfl<|L.v (R1.pickF rfl rfl) rfl<|L.a rfl rfl<|L.nil<|X.seq<|W.ret<|X.result1 rfl (.tmp rfl .nil)<|⟨?_,hm0⟩
  unfold emptyB
  rw [hgd7]
  rfl
 have hcc_:=hgd7
 refine L.on rfl rfl rfl (R1.fieldAt rfl tyF47_2) rfl<|L.on rfl rfl rfl (R1.loadBoxAt (ds:=[.bool c.k.s,.slice A9 c.k.n.length c9,.slice B9 c.k.d.length e9]) rfl hb1 rfl tyG26) rfl<|L.callOn rfl rfl rfl rfl (c_ref2_Zero (q:=(QR.val c.k)) rfl h k hbd hsm.2.1.1 hsm.2.1.2) rfl ?_
 rintro _ w2 ⟨rfl,hm2⟩
 replace hm0:=hm0.trans hm2;clear hm2
 refine L.v (R1.pickT rfl rfl) rfl<|L.a rfl rfl<|L.nil<|X.seq<|W.ret<|X.result1 rfl (.tmp rfl .nil)<|⟨?_,hm0⟩
 unfold emptyB
 rw [hgd7]
 rfl
end Go.Proofs.YtedokfpoajfflaaGreat
end
section
namespace Go.Proofs.YtedokfpoajfflaaGreat
open Go.RowKit
set_option linter.unusedVariables false
set_option linter.unusedSimpArgs false
set_option maxRecDepth 10000
theorem built_S0:Tryz.prog.built 31 []=some #[.slice none 0 0,.slice none 0 0]:=by kernel_rfl
theorem built_S2 (A:Option Addr) (k c:Nat) (B:Option Addr) (m d:Nat):Tryz.prog.built 31 [(0,.slice A k c),(1,.slice B m d)]=some #[.slice A k c,.slice B m d]:=by kernel_rfl
set_option maxHeartbeats 1000000 in
theorem c_Phase {M : List Nat} {w : World} {vl vo vv : Value} {cs : List CR} {os : List Int} {val : List QR} (hL : Lay rdC M w vl cs) (hO : Lay rdI M w vo os) (hv : Lay rdQ M w vv val) (hbd : Bd M w) (hsm : ∀ c ∈ cs, SmC 150 c) (hsv : ∀ q ∈ val, SmQ 16 q) (hcl : cs.length ≤ 12) :
    Ret Tryz.prog 6 #[vl,.agg #[vo,vv]] w (fun r w'=>∃ a b,r=.tuple #[.agg #[a,b],.int .i64 (phZ cs os val).2.1,.int .i64 (phZ cs os val).2.2]∧Lay rdI M w' a (phZ cs os val).1.1∧Lay rdQ M w' b (phZ cs os val).1.2∧Mod [] w w'):=by
 obtain ⟨TL,tL,rfl⟩:=hL.form;obtain ⟨TO,tO,rfl⟩:=hO.form;obtain ⟨TV,tV,rfl⟩:=hv.form;have hmaxL:=hL.max; unfold maxLen at hmaxL;have hmaxO:=hO.max; unfold maxLen at hmaxO;have hmaxV:=hv.max; unfold maxLen at hmaxV
 have hsmL:∀ c∈cs,SmC 1099511627776 c:=fun c hc=>smC_up (hsm c hc) (by decide)
 refine Ret.of (vs:=[.slice TL cs.length tL,.agg #[.slice TO os.length tO,.slice TV val.length tV]]) (n:=104) Tryz.func6 rfl rfl rfl rfl ?_
 have hm0:Mod [] w w:=Mod.refl _ _
 refine W.seq<|W.region<|L.box rfl rfl ?_
 intro g3 w1 hN3
 replace hL:=hL.new hN3;replace hO:=hO.new hN3;replace hv:=hv.new hN3;replace hbd:=hbd.new hN3;replace hm0:=hm0.trans (hN3.mod.mono (by simp));have hb3:=hN3.blk;clear hN3
 refine L.alloc tyZ31 rfl ?_
 intro g4 w2 hN4
 replace hL:=hL.new hN4;replace hO:=hO.new hN4;replace hv:=hv.new hN4;replace hbd:=hbd.new hN4;have hge_g4:=New.ge hN4 hm0.size;replace hm0:=hm0.trans (hN4.mod.mono (by simp));replace hb3:=Blk.gr hb3 hN4.mod;have hb4:=hN4.blk;clear hN4
 refine L.a rfl rfl<|L.a rfl rfl<|L.nil<|X.seq<|W.seq<|W.region<|L.v (R1.fieldAt rfl tyF31_1) rfl<|L.v (R1.loadFld rfl hb3 rfl tyP23) rfl<|L.v (R1.lenLay rfl hv tyS23) rfl<|L.alloc tyZ3 rfl ?_
 intro g7 w3 hN7
 replace hL:=hL.new hN7;replace hO:=hO.new hN7;replace hv:=hv.new hN7;replace hbd:=hbd.new hN7;have hge_g7:=New.ge hN7 hm0.size;replace hm0:=hm0.trans (hN7.mod.mono (by simp));have hne_g3_g7:=hb3.ne_ hN7;replace hb3:=Blk.gr hb3 hN7.mod;have hne_g4_g7:=hb4.ne_ hN7;replace hb4:=Blk.gr hb4 hN7.mod;have hb7:=hN7.blk;clear hN7
 refine L.store rfl rfl hb7 (by decide) rfl tyP3 ?_
 intro w4 hb7' hm4
 replace hL:=hL.mod hm4 (by simp);replace hO:=hO.mod hm4 (by simp);replace hv:=hv.mod hm4 (by simp);replace hbd:=hbd.gr hm4;replace hm0:=hm0.old1 hm4 hge_g7;replace hb3:=Blk.far hb3 hm4 (by first | exact hne_g3_g7 | exact (hne_g7_g3).symm);replace hb4:=Blk.far hb4 hm4 (by first | exact hne_g4_g7 | exact (hne_g7_g4).symm);clear hm4;replace hb7:=hb7'; clear hb7'
 replace hb7:Blk _ g7 3 #[.int .i64 (val.length:Int)]:=hb7
 refine L.nil<|X.seq<|W.seq<|W.seq<|W.region<|L.v ((R1.loadFld rfl hb7 rfl tyP3).asV (v:=.int .i64 ((val.length:Nat):Int)) (rfl)) rfl<|L.v ((R1.lt rfl rfl).asB (c:=(decide ((val.length:Int)<1))) (rfl)) rfl<|L.m rfl rfl ?_
 cases hgd21:(decide ((val.length:Int)<1))
 ·
  try simp only [bq,ne_eq] at hgd21
  refine L.on rfl rfl rfl ((R1.loadFld rfl hb7 rfl tyP3).asV (v:=.int .i64 ((val.length:Nat):Int)) (rfl)) rfl<|L.on rfl rfl rfl ((R1.gt rfl rfl).asB (c:=(decide (64<(val.length:Int)))) (rfl)) rfl<|L.v (R1.pickF rfl rfl) rfl<|L.m rfl rfl ?_
  cases hgd25:(decide (64<(val.length:Int)))
  ·
   try simp only [bq,ne_eq] at hgd25
   refine L.on rfl rfl rfl (R1.move rfl) rfl<|L.on rfl rfl rfl (R1.lenLay rfl hL tyS22) rfl<|L.on rfl rfl rfl ((R1.gt rfl rfl).asB (c:=(decide ((256:Int)<(cs.length:Int)))) (rfl)) rfl<|L.v (R1.pickF rfl rfl) rfl<|L.m rfl rfl ?_
   cases hgd30:(decide ((256:Int)<(cs.length:Int)))
   ·
    try simp only [bq,ne_eq] at hgd30
    refine L.on rfl rfl rfl (R1.fieldAt rfl tyF31_0) rfl<|L.on rfl rfl rfl (R1.loadFld rfl hb3 rfl tyP29) rfl<|L.on rfl rfl rfl (R1.lenLay rfl hO tyS29) rfl<|L.on rfl rfl rfl (R1.move rfl) rfl<|L.on rfl rfl rfl (R1.lenLay rfl hL tyS22) rfl<|L.on rfl rfl rfl ((R1.ne rfl rfl).asB (c:=(decide ((os.length:Int)≠(cs.length:Int)))) (rfl)) rfl<|L.v (R1.pickF rfl rfl) rfl<|L.m rfl rfl ?_
    cases hgd38:(decide ((os.length:Int)≠(cs.length:Int)))
    ·
     try simp only [bq,ne_eq] at hgd38
     refine L.on rfl rfl rfl (R1.move rfl) rfl<|L.on rfl rfl rfl (R1.makeFunc rfl rfl) rfl ?_
     have hT9:TestC Tryz.prog _ (g7 :: g4 :: g3 :: M) 15 [.pointer (some ⟨g7,0,none⟩)] cs (fun c=>!isC c (val.length:Int)):=fun w1 z T A B t a b hz hm k1 k2 k3=>c_PhF k1 k2 k3 (hbd.gr hm) (hsmL z hz) (Blk.gr hb7 hm) (by omega)
     refine L.callOn rfl rfl rfl rfl (c_ContainsC hL hT9) rfl ?_
     rintro _ w5 ⟨rfl,hm5⟩
     replace hL:=hL.gr hm5;replace hO:=hO.gr hm5;replace hv:=hv.gr hm5;replace hbd:=hbd.gr hm5;replace hm0:=hm0.trans hm5;replace hb3:=Blk.gr hb3 hm5;replace hb4:=Blk.gr hb4 hm5;replace hb7:=Blk.gr hb7 hm5;clear hm5
     refine L.v (R1.pickF rfl rfl) rfl<|L.nil<|X.seq<|W.cond rfl ?_ ?_
     ·
      intro hc42
      have hcc_:=hc42
      refine W.seq<|W.region<|L.v (R1.build (vs:=[]) rfl built_S0) rfl<|L.storeBox rfl rfl hb4 rfl rfl tyG31 ?_
      intro w6 hb4' hm6
      replace hm0:=hm0.old1 hm6 hge_g4;clear hm6;replace hb4:=hb4'; clear hb4'
      refine L.a rfl rfl<|L.a rfl rfl<|L.nil<|X.seq<|W.ret<|X.thenRet<|X.result3 rfl (.cell rfl (loadVar_blk hb4 tyG31) (.tmp rfl (.tmp rfl .nil))) ?_
      rw [phZ_no (by rintro ⟨h1,h2,h3,h4,h5⟩; first | omega | (obtain ⟨z,hz,hz2⟩:=List.any_eq_true.1 hc42; rw [h5 z hz] at hz2; exact absurd hz2 (by decide)))]
      exact ⟨_,_,rfl,Lay.nil rfl,Lay.nil rfl,hm0⟩
     intro hc42
     have hcc_:=hc42
     have hmay:mayP cs os val.length:=⟨by omega,by omega,by omega,by omega,fun c hc=>by have h9:=List.any_eq_false.1 hc42 c hc; simpa using h9⟩
     have hh9:held (val.length:Int)=val.length:=held_eq hmay.2.1
     obtain ⟨q1,q2,q3,q4,q5⟩:=hmay
     refine W.skip<|X.seq<|W.seq<|W.seq<|W.region<|L.m rfl rfl<|L.v ((R1.loadFld rfl hb7 rfl tyP3).asV (v:=.int .i64 ((val.length:Nat):Int)) (rfl)) rfl<|L.call rfl (c_First hL hbd hsmL) rfl ?_
     rintro _ w7 ⟨rfl,hm7⟩
     replace hL:=hL.gr hm7;replace hO:=hO.gr hm7;replace hv:=hv.gr hm7;replace hbd:=hbd.gr hm7;replace hm0:=hm0.trans hm7;replace hb3:=Blk.gr hb3 hm7;replace hb4:=Blk.gr hb4 hm7;replace hb7:=Blk.gr hb7 hm7;clear hm7
     refine L.a rfl rfl<|L.nil<|X.seq<|W.seq<|W.region<|L.m rfl rfl<|L.v ((R1.ge rfl rfl).asB (c:=(decide (firstW (List.range (held (val.length:Int))) (wsOf (held (val.length:Int)) cs) 0≠none))) (fi_geq _)) rfl<|L.nil<|X.seq<|W.cond rfl ?_ ?_
     ·
      intro hc48
      try simp only [bq,ne_eq] at hc48
      rw [hh9] at hc48
      obtain ⟨ir,hir⟩:=Option.ne_none_iff_exists'.1 hc48
      refine W.seq<|W.region<|L.v (R1.build (vs:=[]) rfl built_S0) rfl<|L.m rfl rfl<|L.storeBox rfl rfl hb4 rfl rfl tyG31 ?_
      intro w8 hb4' hm8
      replace hm0:=hm0.old1 hm8 hge_g4;clear hm8;replace hb4:=hb4'; clear hb4'
      refine L.a rfl rfl<|L.a rfl rfl<|L.nil<|X.seq<|W.ret<|X.thenRet<|X.result3 rfl (.cell rfl (loadVar_blk hb4 tyG31) (.tmp rfl (.tmp rfl .nil))) ?_
      rw [hh9,hir]
      rw [phZ_ring ⟨q1,q2,q3,q4,q5⟩ hir]
      exact ⟨_,_,rfl,Lay.nil rfl,Lay.nil rfl,hm0⟩
     intro hc48
     try simp only [bq,ne_eq] at hc48
     have hc48b:firstW (List.range val.length) (wsOf val.length cs) 0=none:=by rw [hh9] at hc48; simpa using hc48
     refine W.skip<|X.seq<|W.seq<|W.region<|L.m rfl rfl<|L.v (R1.fieldAt rfl tyF31_0) rfl<|L.v (R1.loadFld rfl hb3 rfl tyP29) rfl<|L.v ((R1.loadFld rfl hb7 rfl tyP3).asV (v:=.int .i64 ((val.length:Nat):Int)) (rfl)) rfl ?_
     have hlt4:=Blk.lt hb4;have hbd4:=hbd
     refine L.call rfl (c_Settle hL hO hbd hsmL (by omega) (by omega)) rfl ?_
     rintro _ w9 ⟨v56,rfl,ho56,hm9⟩
     replace hL:=hL.gr hm9;replace hO:=hO.gr hm9;replace hv:=hv.gr hm9;replace hbd:=hbd.gr hm9;replace hm0:=hm0.trans hm9;replace hb3:=Blk.gr hb3 hm9;replace hb4:=Blk.gr hb4 hm9;clear hm9;have hR:=Lay.of_Z (M:=g4 :: M) ho56 (fun g h1 h2=>by have h5:=(own_ge ho56 g h1).1; exact (List.mem_cons.1 h2).elim (fun h3=>by rw [h3] at h5; omega) (fun h3=>by have h6:=hbd4 g (by simp [h3]); omega));clear ho56 hbd4
     refine L.m rfl rfl<|L.v (R1.extract rfl rfl) rfl<|L.v (R1.extract rfl rfl) rfl<|L.a rfl rfl<|L.a rfl rfl<|L.nil<|X.seq<|W.seq<|W.seq<|W.region<|L.m rfl rfl ?_
     refine L.v (R1.not rfl) rfl<|L.nil<|X.seq<|W.cond rfl ?_ ?_
     ·
      intro hc60
      simp only [Bool.not_eq_true',Bool.not_eq_false'] at hc60
      refine W.seq<|W.region<|L.v (R1.build (vs:=[]) rfl built_S0) rfl<|L.storeBox rfl rfl hb4 rfl rfl tyG31 ?_
      intro w10 hb4' hm10
      replace hm0:=hm0.old1 hm10 hge_g4;clear hm10;replace hb4:=hb4'; clear hb4'
      refine L.a rfl rfl<|L.a rfl rfl<|L.nil<|X.seq<|W.ret<|X.thenRet<|X.result3 rfl (.cell rfl (loadVar_blk hb4 tyG31) (.tmp rfl (.tmp rfl .nil))) ?_
      rw [phZ_cho ⟨q1,q2,q3,q4,q5⟩ hc48b hc60]
      exact ⟨_,_,rfl,Lay.nil rfl,Lay.nil rfl,hm0⟩
     intro hc60
     simp only [Bool.not_eq_true',Bool.not_eq_false'] at hc60
     have hsl:=setZ_len hc60
     refine W.skip<|X.seq<|W.seq<|W.seq<|W.region<|L.m rfl rfl<|L.v (R1.lenLay rfl hL tyS22) rfl<|L.m rfl rfl<|L.nil<|X.seq<|W.block ?_
     refine W.loop (ι:=Nat) (fun i=>[(0,.slice TL cs.length tL),(3,.pointer (some ⟨g3,0,none⟩)),(4,.pointer (some ⟨g4,0,none⟩)),(9,v56),(62,.slice TL cs.length tL),(63,.int .i64 ((cs.length:Nat):Int)),(64,.int .i64 ((i:Nat):Int))]) (fun i w_=>Lay rdC (g7 :: g4 :: g3 :: M) w_ (.slice TL cs.length tL) cs∧Lay rdI (g7 :: g4 :: g3 :: M) w_ (.slice TO os.length tO) os∧Lay rdQ (g7 :: g4 :: g3 :: M) w_ (.slice TV val.length tV) val∧Bd (g7 :: g4 :: g3 :: M) w_∧Lay rdI (g4 :: M) w_ v56 (setZ (val.length:Int) cs os)∧Blk w_ g3 31 #[.slice TO os.length tO,.slice TV val.length tV]∧Blk w_ g4 31 #[.slice none 0 0,.slice none 0 0]∧i≤cs.length∧(∀ j,j<i→badB cs (setZ (val.length:Int) cs os) j=false)∧Mod [] w w_) (fun i=>cs.length - i) 0 ?_ ?_ ?_
     · exact ⟨rfl,rfl,rfl,rfl,rfl,rfl,rfl,trivial⟩
     ·
      exact ⟨hL.su,hO.su,hv.su,hbd.su,hR.su,hb3,hb4,Nat.zero_le _,(fun j h=>by omega),hm0⟩
     rintro i w11 ⟨hL,hO,hv,hbd,hR,hb3,hb4,hi,hno,hm0⟩
     refine W.seq<|W.region<|L.v (R1.lt rfl rfl) rfl<|L.nil<|X.seq<|W.seq<|W.cond rfl ?_ ?_
     ·
      intro hc65
      try simp only [bq,ne_eq] at hc65
      refine W.skip<|X.seq<|W.seq<|W.block<|W.seq<|W.region<|L.m rfl rfl<|L.v (R1.atLay (j:=i) rfl rfl hL tyS22 rfl (by omega)) rfl ?_
      obtain ⟨z68,cs68,hz68,hE68,vt68,ds68,rfl,ht68,vn68,vd68,rfl,hn68,hd68⟩:=Lay.elemQ hL (j:=i) (by omega);obtain ⟨T68,t68,rfl⟩:=ht68.form;obtain ⟨A68,c68,rfl⟩:=hn68.form;obtain ⟨B68,e68,rfl⟩:=hd68.form
      refine L.v (R1.loadE rfl hE68 tyG47) rfl<|L.alloc tyZ47 rfl ?_
      intro g12 w12 hN12
      replace hL:=hL.new hN12;replace hO:=hO.new hN12;replace hv:=hv.new hN12;replace hbd:=hbd.new hN12;replace hR:=hR.new hN12;have hne_g3_g12:=hb3.ne_ hN12;replace hb3:=Blk.gr hb3 hN12.mod;have hne_g4_g12:=hb4.ne_ hN12;replace hb4:=Blk.gr hb4 hN12.mod;have hge_g12:=New.ge hN12 hm0.size;replace hm0:=hm0.trans (hN12.mod.mono (by simp));replace ht68:=ht68.new hN12;replace hn68:=hn68.new hN12;replace hd68:=hd68.new hN12;have hb12:=hN12.blk;clear hN12
      refine L.a rfl rfl<|L.storeBox rfl rfl hb12 rfl rfl tyG47 ?_
      intro w13 hb12' hm13
      replace hL:=hL.mod hm13 (by simp);replace hO:=hO.mod hm13 (by simp);replace hv:=hv.mod hm13 (by simp);replace hbd:=hbd.gr hm13;replace hR:=hR.mod hm13 (by simp);replace hb3:=Blk.far hb3 hm13 (by first | exact hne_g3_g12 | exact (hne_g12_g3).symm);replace hb4:=Blk.far hb4 hm13 (by first | exact hne_g4_g12 | exact (hne_g12_g4).symm);replace hm0:=hm0.old1 hm13 hge_g12;replace ht68:=ht68.mod hm13 (by simp);replace hn68:=hn68.mod hm13 (by simp);replace hd68:=hd68.mod hm13 (by simp);clear hm13;replace hb12:=hb12'; clear hb12'
      refine L.nil<|X.seq<|W.seq<|W.region<|L.v (R1.fieldAt rfl tyF47_0) rfl<|L.v (R1.loadFld rfl hb12 rfl tyP3) rfl<|L.v ((R1.eq rfl rfl).asB (c:=(decide (z68.st=0))) (rfl)) rfl<|L.m rfl rfl ?_
      cases hgd72:(decide (z68.st=0))
      ·
       try simp only [bq,ne_eq] at hgd72
       refine L.off rfl rfl rfl rfl rfl<|L.off rfl rfl rfl rfl rfl<|L.off rfl rfl rfl rfl rfl<|L.off rfl rfl rfl rfl rfl<|L.off rfl rfl rfl rfl rfl<|L.v (R1.pickF rfl rfl) rfl<|L.m rfl rfl<|L.off rfl rfl rfl rfl rfl<|L.off rfl rfl rfl rfl rfl<|L.off rfl rfl rfl rfl rfl<|L.v (R1.pickF rfl rfl) rfl ?_
       refine L.nil<|X.seq<|W.condF rfl<|W.skip<|X.blockEnd<|X.seq<|W.region<|L.v (R1.addI (b:=1) rfl rfl (by omega)) rfl<|L.m rfl rfl<|L.nil<|X.next (i + 1) ?_ ?_ ?_
       · exact ⟨rfl,rfl,rfl,rfl,rfl,rfl,rfl,trivial⟩
       ·
        exact ⟨hL.su,hO.su,hv.su,hbd.su,hR.su,hb3,hb4,by omega,(fun j hj=>badB_snoc hno hj hz68 (by rw [decide_eq_false hgd72,Bool.false_and])),hm0⟩
       first | omega | (dsimp only; omega)
      try simp only [bq,ne_eq] at hgd72
      refine L.on rfl rfl rfl (R1.move rfl) rfl<|L.on rfl rfl rfl (R1.move rfl) rfl<|L.on rfl rfl rfl (R1.atLay (j:=i) rfl rfl hR tyS29 rfl (by omega)) rfl<|L.on rfl rfl rfl (R1.loadLI rfl hR tyP3 (by omega) (getD_at _)) rfl<|L.on rfl rfl rfl ((R1.lt rfl rfl).asB (c:=(decide (((setZ (val.length:Int) cs os).getD i 0)<0))) (rfl)) rfl<|L.v (R1.pickT rfl rfl) rfl<|L.m rfl rfl ?_
      cases hgd79:(decide (((setZ (val.length:Int) cs os).getD i 0)<0))
      ·
       try simp only [bq,ne_eq] at hgd79
       refine L.off rfl rfl rfl rfl rfl<|L.off rfl rfl rfl rfl rfl<|L.off rfl rfl rfl rfl rfl<|L.v (R1.pickF rfl rfl) rfl<|L.nil<|X.seq<|W.condF rfl<|W.skip<|X.blockEnd<|X.seq<|W.region ?_
       refine L.v (R1.addI (b:=1) rfl rfl (by omega)) rfl<|L.m rfl rfl<|L.nil<|X.next (i + 1) ?_ ?_ ?_
       · exact ⟨rfl,rfl,rfl,rfl,rfl,rfl,rfl,trivial⟩
       ·
        exact ⟨hL.su,hO.su,hv.su,hbd.su,hR.su,hb3,hb4,by omega,(fun j hj=>badB_snoc hno hj hz68 (by rw [decide_eq_false (p:=((setZ (val.length:Int) cs os).getD i 0)<0) (by omega)]; simp)),hm0⟩
       first | omega | (dsimp only; omega)
      try simp only [bq,ne_eq] at hgd79
      refine L.on rfl rfl rfl (R1.loadBox rfl hb12 tyG47) rfl<|L.callOn rfl rfl rfl rfl (c_idle ht68 hn68 hd68 hbd (hsmL _ (List.mem_of_getElem? hz68))) rfl ?_
      rintro _ w14 ⟨rfl,hm14⟩
      replace hL:=hL.gr hm14;replace hO:=hO.gr hm14;replace hv:=hv.gr hm14;replace hbd:=hbd.gr hm14;replace hR:=hR.gr hm14;replace hb3:=Blk.gr hb3 hm14;replace hb4:=Blk.gr hb4 hm14;replace hm0:=hm0.trans hm14;clear hm14
      refine L.on rfl rfl rfl (R1.not rfl) rfl<|L.v (R1.pickT rfl rfl) rfl<|L.nil<|X.seq<|W.cond rfl ?_ ?_
      ·
       intro hc83
       simp only [Bool.not_eq_true',Bool.not_eq_false'] at hc83
       refine W.seq<|W.region<|L.v (R1.build (vs:=[]) rfl built_S0) rfl<|L.m rfl rfl<|L.storeBox rfl rfl hb4 rfl rfl tyG31 ?_
       intro w15 hb4' hm15
       replace hm0:=hm0.old1 hm15 hge_g4;clear hm15;replace hb4:=hb4'; clear hb4'
       refine L.a rfl rfl<|L.a rfl rfl<|L.nil<|X.seq<|W.ret<|X.blockRet<|X.thenRet<|X.nextRet<|X.blockRet<|X.thenRet<|X.result3 rfl (.cell rfl (loadVar_blk hb4 tyG31) (.tmp rfl (.tmp rfl .nil))) ?_
       have hb9:badB cs (setZ (val.length:Int) cs os) i=true:=by unfold badB; rw [getD_of_get hz68,decide_eq_true hgd72,decide_eq_true (p:=((setZ (val.length:Int) cs os).getD i 0)<0) (by omega),hc83]; rfl
       rw [phZ_bad ⟨q1,q2,q3,q4,q5⟩ hc48b hc60 (badF_at (by omega) hb9 hno)]
       exact ⟨_,_,rfl,Lay.nil rfl,Lay.nil rfl,hm0⟩
      intro hc83
      simp only [Bool.not_eq_true',Bool.not_eq_false'] at hc83
      refine W.skip<|X.blockEnd<|X.seq<|W.region<|L.v (R1.addI (b:=1) rfl rfl (by omega)) rfl<|L.m rfl rfl<|L.nil<|X.next (i + 1) ?_ ?_ ?_
      · exact ⟨rfl,rfl,rfl,rfl,rfl,rfl,rfl,trivial⟩
      ·
       exact ⟨hL.su,hO.su,hv.su,hbd.su,hR.su,hb3,hb4,by omega,(fun j hj=>badB_snoc hno hj hz68 (by rw [hc83]; simp)),hm0⟩
      first | omega | (dsimp only; omega)
     intro hc65
     try simp only [bq,ne_eq] at hc65
     obtain rfl:i=cs.length:=by omega
     have hbad:=badF_no hno;have hph:=phZ_run ⟨q1,q2,q3,q4,q5⟩ hc48b hc60 hbad
     refine W.exit<|X.thenExit<|X.nextExit<|X.here<|X.seq<|W.seq<|W.region<|L.m rfl rfl<|L.m rfl rfl<|L.v (R1.fieldAt rfl tyF31_1) rfl<|L.v (R1.loadFld rfl hb3 rfl tyP23) rfl ?_
     refine L.call rfl (c_Run (hL.sub (M':=g4 :: M) (by intro b hb; simp only [List.mem_cons] at hb ⊢; grind)) hR (hv.sub (M':=g4 :: M) (by intro b hb; simp only [List.mem_cons] at hb ⊢; grind)) (hbd.sub (by intro b hb; simp only [List.mem_cons] at hb ⊢; grind)) hsm hsv) rfl ?_
     rintro _ w16 ⟨v92,rfl,hQ,hm16⟩
     replace hR:=hR.gr hm16;replace hb4:=Blk.gr hb4 hm16;replace hm0:=hm0.trans hm16;clear hm16
     refine L.m rfl rfl<|L.v (R1.extract rfl rfl) rfl<|L.v (R1.extract rfl rfl) rfl<|L.v (R1.extract rfl rfl) rfl<|L.a rfl rfl<|L.a rfl rfl<|L.a rfl rfl<|L.nil<|X.seq<|W.seq<|W.seq ?_
     refine W.region<|L.m rfl rfl<|L.v ((R1.ne rfl rfl).asB (c:=(decide ((runZ cs (setZ (val.length:Int) cs os) val).2.2≠0))) (rfl)) rfl<|L.nil<|X.seq<|W.cond rfl ?_ ?_
     ·
      intro hc97
      try simp only [bq,ne_eq] at hc97
      refine W.seq<|W.region<|L.v (R1.build (vs:=[]) rfl built_S0) rfl<|L.m rfl rfl<|L.m rfl rfl<|L.storeBox rfl rfl hb4 rfl rfl tyG31 ?_
      intro w17 hb4' hm17
      replace hm0:=hm0.old1 hm17 hge_g4;clear hm17;replace hb4:=hb4'; clear hb4'
      refine L.a rfl rfl<|L.a rfl rfl<|L.nil<|X.seq<|W.ret<|X.thenRet<|X.result3 rfl (.cell rfl (loadVar_blk hb4 tyG31) (.tmp rfl (.tmp rfl .nil))) ?_
      rw [if_pos hc97] at hph
      rw [hph]
      exact ⟨_,_,rfl,Lay.nil rfl,Lay.nil rfl,hm0⟩
     intro hc97
     try simp only [bq,ne_eq] at hc97
     refine W.skip<|X.seq<|W.seq<|W.region<|L.m rfl rfl<|L.m rfl rfl<|L.v (R1.build (vs:=[v56,v92]) rfl (built_S9 (lay_form' hR) (lay_form' hQ) built_S2)) rfl<|L.storeBox rfl rfl hb4 rfl (one_S (lay_form' hR) (lay_form' hQ)) tyG31 ?_
     intro w18 hb4' hm18
     replace hR:=hR.mod hm18 (by simp);replace hm0:=hm0.old1 hm18 hge_g4;replace hQ:=hQ.mod hm18 (by simp);clear hm18;replace hb4:=hb4'; clear hb4'
     refine L.a rfl rfl<|L.a rfl rfl<|L.nil<|X.seq<|W.ret<|X.result3 rfl (.cell rfl (loadVar_blk hb4 tyG31) (.tmp rfl (.tmp rfl .nil))) ?_
     rw [if_neg (by simpa using hc97)] at hph
     rw [hph]
     exact ⟨_,_,rfl,hR.sub (by intro b hb; simp [hb]),hQ.sub (by intro b hb; simp [hb]),hm0⟩
    try simp only [bq,ne_eq] at hgd38
    refine L.off rfl rfl rfl rfl rfl<|L.off rfl rfl rfl rfl rfl<|L.off rfl rfl rfl rfl rfl<|L.v (R1.pickT rfl rfl) rfl<|L.nil<|X.seq<|W.condT rfl<|W.seq<|W.region<|L.v (R1.build (vs:=[]) rfl built_S0) rfl<|L.storeBox rfl rfl hb4 rfl rfl tyG31 ?_
    intro w19 hb4' hm19
    replace hm0:=hm0.old1 hm19 hge_g4;clear hm19;replace hb4:=hb4'; clear hb4'
    refine L.a rfl rfl<|L.a rfl rfl<|L.nil<|X.seq<|W.ret<|X.thenRet<|X.result3 rfl (.cell rfl (loadVar_blk hb4 tyG31) (.tmp rfl (.tmp rfl .nil))) ?_
    rw [phZ_no (by rintro ⟨h1,h2,h3,h4,h5⟩; first | omega | (obtain ⟨z,hz,hz2⟩:=List.any_eq_true.1 hc42; rw [h5 z hz] at hz2; exact absurd hz2 (by decide)))]
    exact ⟨_,_,rfl,Lay.nil rfl,Lay.nil rfl,hm0⟩
   try simp only [bq,ne_eq] at hgd30
   refine L.off rfl rfl rfl rfl rfl<|L.off rfl rfl rfl rfl rfl<|L.off rfl rfl rfl rfl rfl<|L.off rfl rfl rfl rfl rfl<|L.off rfl rfl rfl rfl rfl<|L.off rfl rfl rfl rfl rfl<|L.v (R1.pickT rfl rfl) rfl<|L.m rfl rfl<|L.off rfl rfl rfl rfl rfl<|L.off rfl rfl rfl rfl rfl<|L.off rfl rfl rfl rfl rfl ?_
   refine L.v (R1.pickT rfl rfl) rfl<|L.nil<|X.seq<|W.condT rfl<|W.seq<|W.region<|L.v (R1.build (vs:=[]) rfl built_S0) rfl<|L.storeBox rfl rfl hb4 rfl rfl tyG31 ?_
   intro w20 hb4' hm20
   replace hm0:=hm0.old1 hm20 hge_g4;clear hm20;replace hb4:=hb4'; clear hb4'
   refine L.a rfl rfl<|L.a rfl rfl<|L.nil<|X.seq<|W.ret<|X.thenRet<|X.result3 rfl (.cell rfl (loadVar_blk hb4 tyG31) (.tmp rfl (.tmp rfl .nil))) ?_
   rw [phZ_no (by rintro ⟨h1,h2,h3,h4,h5⟩; first | omega | (obtain ⟨z,hz,hz2⟩:=List.any_eq_true.1 hc42; rw [h5 z hz] at hz2; exact absurd hz2 (by decide)))]
   exact ⟨_,_,rfl,Lay.nil rfl,Lay.nil rfl,hm0⟩
  try simp only [bq,ne_eq] at hgd25
  refine L.off rfl rfl rfl rfl rfl<|L.off rfl rfl rfl rfl rfl<|L.off rfl rfl rfl rfl rfl<|L.v (R1.pickT rfl rfl) rfl<|L.m rfl rfl<|L.off rfl rfl rfl rfl rfl<|L.off rfl rfl rfl rfl rfl<|L.off rfl rfl rfl rfl rfl<|L.off rfl rfl rfl rfl rfl<|L.off rfl rfl rfl rfl rfl<|L.off rfl rfl rfl rfl rfl ?_
  refine L.v (R1.pickT rfl rfl) rfl<|L.m rfl rfl<|L.off rfl rfl rfl rfl rfl<|L.off rfl rfl rfl rfl rfl<|L.off rfl rfl rfl rfl rfl<|L.v (R1.pickT rfl rfl) rfl<|L.nil<|X.seq<|W.condT rfl<|W.seq<|W.region ?_
  refine L.v (R1.build (vs:=[]) rfl built_S0) rfl<|L.storeBox rfl rfl hb4 rfl rfl tyG31 ?_
  intro w21 hb4' hm21
  replace hm0:=hm0.old1 hm21 hge_g4;clear hm21;replace hb4:=hb4'; clear hb4'
  refine L.a rfl rfl<|L.a rfl rfl<|L.nil<|X.seq<|W.ret<|X.thenRet<|X.result3 rfl (.cell rfl (loadVar_blk hb4 tyG31) (.tmp rfl (.tmp rfl .nil))) ?_
  rw [phZ_no (by rintro ⟨h1,h2,h3,h4,h5⟩; first | omega | (obtain ⟨z,hz,hz2⟩:=List.any_eq_true.1 hc42; rw [h5 z hz] at hz2; exact absurd hz2 (by decide)))]
  exact ⟨_,_,rfl,Lay.nil rfl,Lay.nil rfl,hm0⟩
 try simp only [bq,ne_eq] at hgd21
 refine L.off rfl rfl rfl rfl rfl<|L.off rfl rfl rfl rfl rfl<|L.v (R1.pickT rfl rfl) rfl<|L.m rfl rfl<|L.off rfl rfl rfl rfl rfl<|L.off rfl rfl rfl rfl rfl<|L.off rfl rfl rfl rfl rfl<|L.v (R1.pickT rfl rfl) rfl<|L.m rfl rfl<|L.off rfl rfl rfl rfl rfl<|L.off rfl rfl rfl rfl rfl ?_
 refine L.off rfl rfl rfl rfl rfl<|L.off rfl rfl rfl rfl rfl<|L.off rfl rfl rfl rfl rfl<|L.off rfl rfl rfl rfl rfl<|L.v (R1.pickT rfl rfl) rfl<|L.m rfl rfl<|L.off rfl rfl rfl rfl rfl<|L.off rfl rfl rfl rfl rfl<|L.off rfl rfl rfl rfl rfl<|L.v (R1.pickT rfl rfl) rfl<|L.nil ?_
 refine X.seq<|W.condT rfl<|W.seq<|W.region<|L.v (R1.build (vs:=[]) rfl built_S0) rfl<|L.storeBox rfl rfl hb4 rfl rfl tyG31 ?_
 intro w22 hb4' hm22
 replace hm0:=hm0.old1 hm22 hge_g4;clear hm22;replace hb4:=hb4'; clear hb4'
 refine L.a rfl rfl<|L.a rfl rfl<|L.nil<|X.seq<|W.ret<|X.thenRet<|X.result3 rfl (.cell rfl (loadVar_blk hb4 tyG31) (.tmp rfl (.tmp rfl .nil))) ?_
 rw [phZ_no (by rintro ⟨h1,h2,h3,h4,h5⟩; first | omega | (obtain ⟨z,hz,hz2⟩:=List.any_eq_true.1 hc42; rw [h5 z hz] at hz2; exact absurd hz2 (by decide)))]
 exact ⟨_,_,rfl,Lay.nil rfl,Lay.nil rfl,hm0⟩
end Go.Proofs.YtedokfpoajfflaaGreat
end
section
namespace Go.Proofs.YtedokfpoajfflaaGreat
open Go.RowKit
set_option linter.unusedVariables false
set_option linter.unusedSimpArgs false
set_option maxRecDepth 10000
theorem built_T0:Tryz.prog.built 36 []=some #[.slice none 0 0,.slice none 0 0]:=by kernel_rfl
theorem built_T2 (A:Option Addr) (k c:Nat) (B:Option Addr) (m d:Nat):Tryz.prog.built 36 [(0,.slice A k c),(1,.slice B m d)]=some #[.slice A k c,.slice B m d]:=by kernel_rfl
theorem c_may {M : List Nat} {w : World} {vl vo vv : Value} {cs : List CR} {os : List Int} {val : List QR} (hL : Lay rdC M w vl cs) (hO : Lay rdI M w vo os) (hv : Lay rdQ M w vv val) (hbd : Bd M w) (hsm : ∀ c ∈ cs, SmC 150 c) (hsv : ∀ q ∈ val, SmQ 16 q) :
    Ret Tryz.prog 21 #[vl,.agg #[vo,vv]] w (fun r w'=>r=.bool (decide (mayP cs os val.length))∧Mod [] w w'):=by
 obtain ⟨TL,tL,rfl⟩:=hL.form;obtain ⟨TO,tO,rfl⟩:=hO.form;obtain ⟨TV,tV,rfl⟩:=hv.form;have hmaxL:=hL.max; unfold maxLen at hmaxL;have hmaxO:=hO.max; unfold maxLen at hmaxO;have hmaxV:=hv.max; unfold maxLen at hmaxV
 have hsmL:∀ c∈cs,SmC 1099511627776 c:=fun c hc=>smC_up (hsm c hc) (by decide)
 refine Ret.of (vs:=[.slice TL cs.length tL,.agg #[.slice TO os.length tO,.slice TV val.length tV]]) (n:=42) Tryz.func21 rfl rfl rfl rfl ?_
 have hm0:Mod [] w w:=Mod.refl _ _
 refine W.seq<|W.region<|L.box rfl rfl ?_
 intro g3 w1 hN3
 replace hL:=hL.new hN3;replace hO:=hO.new hN3;replace hv:=hv.new hN3;replace hbd:=hbd.new hN3;replace hm0:=hm0.trans (hN3.mod.mono (by simp));have hb3:=hN3.blk;clear hN3
 refine L.a rfl rfl<|L.nil<|X.seq<|W.seq<|W.region<|L.v (R1.fieldAt rfl tyF36_1) rfl<|L.v (R1.loadFld rfl hb3 rfl tyP23) rfl<|L.v (R1.lenLay rfl hv tyS23) rfl<|L.a rfl rfl<|L.nil<|X.seq ?_
 refine W.seq<|W.seq<|W.region<|L.m rfl rfl<|L.v ((R1.lt rfl rfl).asB (c:=(decide ((val.length:Int)<1))) (rfl)) rfl<|L.m rfl rfl ?_
 cases hgd12:(decide ((val.length:Int)<1))
 ·
  try simp only [bq,ne_eq] at hgd12
  refine L.on rfl rfl rfl (R1.move rfl) rfl<|L.on rfl rfl rfl ((R1.gt rfl rfl).asB (c:=(decide (64<(val.length:Int)))) (rfl)) rfl<|L.v (R1.pickF rfl rfl) rfl<|L.m rfl rfl ?_
  cases hgd16:(decide (64<(val.length:Int)))
  ·
   try simp only [bq,ne_eq] at hgd16
   refine L.on rfl rfl rfl (R1.move rfl) rfl<|L.on rfl rfl rfl (R1.lenLay rfl hL tyS22) rfl<|L.on rfl rfl rfl ((R1.gt rfl rfl).asB (c:=(decide ((256:Int)<(cs.length:Int)))) (rfl)) rfl<|L.v (R1.pickF rfl rfl) rfl<|L.m rfl rfl ?_
   cases hgd21:(decide ((256:Int)<(cs.length:Int)))
   ·
    try simp only [bq,ne_eq] at hgd21
    refine L.on rfl rfl rfl (R1.fieldAt rfl tyF36_0) rfl<|L.on rfl rfl rfl (R1.loadFld rfl hb3 rfl tyP29) rfl<|L.on rfl rfl rfl (R1.lenLay rfl hO tyS29) rfl<|L.on rfl rfl rfl (R1.move rfl) rfl<|L.on rfl rfl rfl (R1.lenLay rfl hL tyS22) rfl<|L.on rfl rfl rfl ((R1.ne rfl rfl).asB (c:=(decide ((os.length:Int)≠(cs.length:Int)))) (rfl)) rfl<|L.v (R1.pickF rfl rfl) rfl<|L.nil<|X.seq<|W.cond rfl ?_ ?_
    ·
     intro hc28
     try simp only [bq,ne_eq] at hc28
     refine W.seq<|W.region<|L.a rfl rfl<|L.nil<|X.seq<|W.ret<|X.thenRet<|X.result1 rfl (.tmp rfl .nil) ?_
     rw [decide_eq_false (by rintro ⟨h1,h2,h3,h4,_⟩; omega)]
     exact ⟨rfl,hm0⟩
    intro hc28
    try simp only [bq,ne_eq] at hc28
    refine W.skip<|X.seq<|W.seq<|W.seq<|W.region<|L.a rfl rfl<|L.nil<|X.seq<|W.block<|W.loop (ι:=Nat) (fun i=>[(0,.slice TL cs.length tL),(5,.int .i64 ((val.length:Nat):Int)),(6,.int .i64 ((i:Nat):Int))]) (fun i w_=>Lay rdC (g3 :: M) w_ (.slice TL cs.length tL) cs∧Bd (g3 :: M) w_∧i≤cs.length∧(∀ c∈cs.take i,isC c (val.length:Int)=true)∧Mod [] w w_) (fun i=>cs.length - i) 0 ?_ ?_ ?_
    · exact ⟨rfl,rfl,rfl,trivial⟩
    ·
     exact ⟨hL.su,hbd.su,Nat.zero_le _,(fun c h=>by simp at h),hm0⟩
    rintro i w2 ⟨hL,hbd,hi,hall,hm0⟩
    refine W.seq<|W.seq<|W.region<|L.m rfl rfl<|L.m rfl rfl<|L.v (R1.lenLay rfl hL tyS22) rfl<|L.v (R1.lt rfl rfl) rfl<|L.nil<|X.seq<|W.cond rfl ?_ ?_
    ·
     intro hc32
     try simp only [bq,ne_eq] at hc32
     refine W.skip<|X.seq<|W.seq<|W.block<|W.seq<|W.region<|L.m rfl rfl<|L.m rfl rfl<|L.v (R1.atLay (j:=i) rfl rfl hL tyS22 rfl (by omega)) rfl ?_
     obtain ⟨z38,cs38,hz38,hE38,vt38,ds38,rfl,ht38,vn38,vd38,rfl,hn38,hd38⟩:=Lay.elemQ hL (j:=i) (by omega);obtain ⟨T38,t38,rfl⟩:=ht38.form;obtain ⟨A38,c38,rfl⟩:=hn38.form;obtain ⟨B38,e38,rfl⟩:=hd38.form
     refine L.v (R1.loadE rfl hE38 tyG47) rfl<|L.m rfl rfl<|L.call rfl (c_ref8_Is ht38 hn38 hd38 (n:=(val.length:Int)) (by omega) hbd (hsmL _ (List.mem_of_getElem? hz38))) rfl ?_
     rintro _ w3 ⟨rfl,hm3⟩
     replace hL:=hL.gr hm3;replace hbd:=hbd.gr hm3;replace hm0:=hm0.trans hm3;clear hm3
     refine L.v (R1.not rfl) rfl<|L.nil<|X.seq<|W.cond rfl ?_ ?_
     ·
      intro hc41
      simp only [Bool.not_eq_true',Bool.not_eq_false'] at hc41
      refine W.seq<|W.region<|L.a rfl rfl<|L.nil<|X.seq<|W.ret<|X.blockRet<|X.thenRet<|X.nextRet<|X.blockRet<|X.thenRet ?_
      refine X.result1 rfl (.tmp rfl .nil) ?_
      rw [decide_eq_false (by rintro ⟨_,_,_,_,h5⟩; rw [h5 _ (List.mem_of_getElem? hz38)] at hc41; exact absurd hc41 (by decide))]
      exact ⟨rfl,hm0⟩
     intro hc41
     simp only [Bool.not_eq_true',Bool.not_eq_false'] at hc41
     refine W.skip<|X.blockEnd<|X.seq<|W.region<|L.m rfl rfl<|L.v (R1.addI (b:=1) rfl rfl (by omega)) rfl<|L.a rfl rfl<|L.nil<|X.next (i + 1) ?_ ?_ ?_
     · exact ⟨rfl,rfl,rfl,trivial⟩
     ·
      refine ⟨hL,hbd,by omega,fun c hc=>?_,hm0⟩
      obtain ⟨hk9,he9⟩:=List.getElem?_eq_some_iff.1 hz38
      rw [List.take_succ_eq_append_getElem hk9,he9] at hc
      rcases List.mem_append.1 hc with h9 | h9
      · exact hall c h9
      rw [List.mem_singleton.1 h9]; exact hc41
     first | omega | (dsimp only; omega)
    intro hc32
    try simp only [bq,ne_eq] at hc32
    obtain rfl:i=cs.length:=by omega
    refine W.exit<|X.thenExit<|X.nextExit<|X.here<|X.seq<|W.seq<|W.region<|L.a rfl rfl<|L.nil<|X.seq<|W.ret ?_
    refine X.result1 rfl (.tmp rfl .nil) ?_
    rw [List.take_length] at hall
    rw [decide_eq_true (show mayP cs os val.length from ⟨by omega,by omega,by omega,by omega,hall⟩)]
    exact ⟨rfl,hm0⟩
   try simp only [bq,ne_eq] at hgd21
   refine L.off rfl rfl rfl rfl rfl<|L.off rfl rfl rfl rfl rfl<|L.off rfl rfl rfl rfl rfl<|L.off rfl rfl rfl rfl rfl<|L.off rfl rfl rfl rfl rfl<|L.off rfl rfl rfl rfl rfl<|L.v (R1.pickT rfl rfl) rfl<|L.nil<|X.seq<|W.condT rfl<|W.seq ?_
   refine W.region<|L.a rfl rfl<|L.nil<|X.seq<|W.ret<|X.thenRet<|X.result1 rfl (.tmp rfl .nil) ?_
   rw [decide_eq_false (by rintro ⟨h1,h2,h3,h4,_⟩; omega)]
   exact ⟨rfl,hm0⟩
  try simp only [bq,ne_eq] at hgd16
  refine L.off rfl rfl rfl rfl rfl<|L.off rfl rfl rfl rfl rfl<|L.off rfl rfl rfl rfl rfl<|L.v (R1.pickT rfl rfl) rfl<|L.m rfl rfl<|L.off rfl rfl rfl rfl rfl<|L.off rfl rfl rfl rfl rfl<|L.off rfl rfl rfl rfl rfl<|L.off rfl rfl rfl rfl rfl<|L.off rfl rfl rfl rfl rfl<|L.off rfl rfl rfl rfl rfl ?_
  refine L.v (R1.pickT rfl rfl) rfl<|L.nil<|X.seq<|W.condT rfl<|W.seq<|W.region<|L.a rfl rfl<|L.nil<|X.seq<|W.ret<|X.thenRet ?_
  refine X.result1 rfl (.tmp rfl .nil) ?_
  rw [decide_eq_false (by rintro ⟨h1,h2,h3,h4,_⟩; omega)]
  exact ⟨rfl,hm0⟩
 try simp only [bq,ne_eq] at hgd12
 refine L.off rfl rfl rfl rfl rfl<|L.off rfl rfl rfl rfl rfl<|L.v (R1.pickT rfl rfl) rfl<|L.m rfl rfl<|L.off rfl rfl rfl rfl rfl<|L.off rfl rfl rfl rfl rfl<|L.off rfl rfl rfl rfl rfl<|L.v (R1.pickT rfl rfl) rfl<|L.m rfl rfl<|L.off rfl rfl rfl rfl rfl<|L.off rfl rfl rfl rfl rfl ?_
 refine L.off rfl rfl rfl rfl rfl<|L.off rfl rfl rfl rfl rfl<|L.off rfl rfl rfl rfl rfl<|L.off rfl rfl rfl rfl rfl<|L.v (R1.pickT rfl rfl) rfl<|L.nil<|X.seq<|W.condT rfl<|W.seq<|W.region<|L.a rfl rfl ?_
 refine L.nil<|X.seq<|W.ret<|X.thenRet<|X.result1 rfl (.tmp rfl .nil) ?_
 rw [decide_eq_false (by rintro ⟨h1,h2,h3,h4,_⟩; omega)]
 exact ⟨rfl,hm0⟩
set_option maxHeartbeats 1000000 in
theorem c_r15_Phase {M : List Nat} {w : World} {vl vo vv : Value} {cs : List CR} {os : List Int} {val : List QR} (hL : Lay rdC M w vl cs) (hO : Lay rdI M w vo os) (hv : Lay rdQ M w vv val) (hbd : Bd M w) (hsm : ∀ c ∈ cs, SmC 150 c) (hsv : ∀ q ∈ val, SmQ 16 q) :
    Ret Tryz.prog 8 #[vl,.agg #[vo,vv]] w (fun r w'=>∃ a b,r=.tuple #[.agg #[a,b],.int .i64 (phZ cs os val).2.1,.int .i64 (phZ cs os val).2.2]∧Lay rdI [] w' a (phZ cs os val).1.1∧Lay rdQ [] w' b (phZ cs os val).1.2∧Mod [] w w'):=by
 obtain ⟨TL,tL,rfl⟩:=hL.form;obtain ⟨TO,tO,rfl⟩:=hO.form;obtain ⟨TV,tV,rfl⟩:=hv.form;have hmaxL:=hL.max; unfold maxLen at hmaxL;have hmaxO:=hO.max; unfold maxLen at hmaxO;have hmaxV:=hv.max; unfold maxLen at hmaxV
 have hsmL:∀ c∈cs,SmC 1099511627776 c:=fun c hc=>smC_up (hsm c hc) (by decide)
 refine Ret.of (vs:=[.slice TL cs.length tL,.agg #[.slice TO os.length tO,.slice TV val.length tV]]) (n:=87) Tryz.func8 rfl rfl rfl rfl ?_
 have hm0:Mod [] w w:=Mod.refl _ _
 refine W.seq<|W.region<|L.box rfl rfl ?_
 intro g3 w1 hN3
 replace hL:=hL.new hN3;replace hO:=hO.new hN3;replace hv:=hv.new hN3;replace hbd:=hbd.new hN3;replace hm0:=hm0.trans (hN3.mod.mono (by simp));have hb3:=hN3.blk;clear hN3
 refine L.alloc tyZ36 rfl ?_
 intro g4 w2 hN4
 replace hL:=hL.new hN4;replace hO:=hO.new hN4;replace hv:=hv.new hN4;replace hbd:=hbd.new hN4;have hge_g4:=New.ge hN4 hm0.size;replace hm0:=hm0.trans (hN4.mod.mono (by simp));replace hb3:=Blk.gr hb3 hN4.mod;have hb4:=hN4.blk;clear hN4
 refine L.a rfl rfl<|L.a rfl rfl<|L.nil<|X.seq<|W.seq<|W.region<|L.v (R1.fieldAt rfl tyF36_1) rfl<|L.v (R1.loadFld rfl hb3 rfl tyP23) rfl<|L.v (R1.lenLay rfl hv tyS23) rfl<|L.a rfl rfl<|L.nil ?_
 refine X.seq<|W.seq<|W.seq<|W.region<|L.m rfl rfl<|L.v (R1.loadBox rfl hb3 tyG36) rfl<|L.call rfl (c_may hL hO hv hbd hsm hsv) rfl ?_
 rintro _ w3 ⟨rfl,hm3⟩
 replace hL:=hL.gr hm3;replace hO:=hO.gr hm3;replace hv:=hv.gr hm3;replace hbd:=hbd.gr hm3;replace hm0:=hm0.trans hm3;replace hb3:=Blk.gr hb3 hm3;replace hb4:=Blk.gr hb4 hm3;clear hm3
 refine L.v (R1.not rfl) rfl<|L.nil<|X.seq<|W.cond rfl ?_ ?_
 ·
  intro hc21
  simp only [Bool.not_eq_true',Bool.not_eq_false'] at hc21
  have hmay:=of_decide_eq_false hc21
  refine W.seq<|W.region<|L.v (R1.build (vs:=[]) rfl built_T0) rfl<|L.storeBox rfl rfl hb4 rfl rfl tyG36 ?_
  intro w4 hb4' hm4
  replace hm0:=hm0.old1 hm4 hge_g4;clear hm4;replace hb4:=hb4'; clear hb4'
  refine L.a rfl rfl<|L.a rfl rfl<|L.nil<|X.seq<|W.ret<|X.thenRet<|X.result3 rfl (.cell rfl (loadVar_blk hb4 tyG36) (.tmp rfl (.tmp rfl .nil))) ?_
  rw [phZ_no hmay]
  exact ⟨_,_,rfl,Lay.nil rfl,Lay.nil rfl,hm0⟩
 intro hc21
 simp only [Bool.not_eq_true',Bool.not_eq_false'] at hc21
 have hmay:=of_decide_eq_true hc21
 have hh9:held (val.length:Int)=val.length:=held_eq hmay.2.1
 have hmay9:=hmay;obtain ⟨q1,q2,q3,q4,q5⟩:=hmay9
 refine W.skip<|X.seq<|W.seq<|W.region<|L.m rfl rfl<|L.m rfl rfl<|L.call rfl (c_r11_First hL hbd hsmL) rfl ?_
 rintro _ w5 ⟨rfl,hm5⟩
 replace hL:=hL.gr hm5;replace hO:=hO.gr hm5;replace hv:=hv.gr hm5;replace hbd:=hbd.gr hm5;replace hm0:=hm0.trans hm5;replace hb3:=Blk.gr hb3 hm5;replace hb4:=Blk.gr hb4 hm5;clear hm5
 refine L.a rfl rfl<|L.nil<|X.seq<|W.seq<|W.seq<|W.region<|L.m rfl rfl<|L.v ((R1.ge rfl rfl).asB (c:=(decide (firstW (List.range (held (val.length:Int))) (wsOf (held (val.length:Int)) cs) 0≠none))) (fi_geq _)) rfl<|L.nil<|X.seq<|W.cond rfl ?_ ?_
 ·
  intro hc27
  try simp only [bq,ne_eq] at hc27
  rw [hh9] at hc27
  obtain ⟨ir,hir⟩:=Option.ne_none_iff_exists'.1 hc27
  refine W.seq<|W.region<|L.v (R1.build (vs:=[]) rfl built_T0) rfl<|L.m rfl rfl<|L.storeBox rfl rfl hb4 rfl rfl tyG36 ?_
  intro w6 hb4' hm6
  replace hm0:=hm0.old1 hm6 hge_g4;clear hm6;replace hb4:=hb4'; clear hb4'
  refine L.a rfl rfl<|L.a rfl rfl<|L.nil<|X.seq<|W.ret<|X.thenRet<|X.result3 rfl (.cell rfl (loadVar_blk hb4 tyG36) (.tmp rfl (.tmp rfl .nil))) ?_
  rw [hh9,hir]
  rw [phZ_ring hmay hir]
  exact ⟨_,_,rfl,Lay.nil rfl,Lay.nil rfl,hm0⟩
 intro hc27
 try simp only [bq,ne_eq] at hc27
 have hc27b:firstW (List.range val.length) (wsOf val.length cs) 0=none:=by rw [hh9] at hc27; simpa using hc27
 refine W.skip<|X.seq<|W.seq<|W.region<|L.m rfl rfl<|L.v (R1.fieldAt rfl tyF36_0) rfl<|L.v (R1.loadFld rfl hb3 rfl tyP29) rfl<|L.m rfl rfl ?_
 have hlt4:=Blk.lt hb4
 refine L.call rfl (c_r13_Settle hL hO hbd hsmL (by omega)) rfl ?_
 rintro _ w7 ⟨v35,rfl,ho35,hm7⟩
 replace hL:=hL.gr hm7;replace hO:=hO.gr hm7;replace hv:=hv.gr hm7;replace hbd:=hbd.gr hm7;replace hm0:=hm0.trans hm7;replace hb3:=Blk.gr hb3 hm7;replace hb4:=Blk.gr hb4 hm7;clear hm7;have hR:=Lay.of_Z (M:=[g4]) ho35 (fun g h1 h2=>by have:=(own_ge ho35 g h1).1; rw [List.mem_singleton.1 h2] at this; omega);clear ho35
 refine L.m rfl rfl<|L.v (R1.extract rfl rfl) rfl<|L.v (R1.extract rfl rfl) rfl<|L.a rfl rfl<|L.a rfl rfl<|L.nil<|X.seq<|W.seq<|W.seq<|W.region<|L.m rfl rfl ?_
 refine L.v (R1.not rfl) rfl<|L.nil<|X.seq<|W.cond rfl ?_ ?_
 ·
  intro hc39
  simp only [Bool.not_eq_true',Bool.not_eq_false'] at hc39
  refine W.seq<|W.region<|L.v (R1.build (vs:=[]) rfl built_T0) rfl<|L.storeBox rfl rfl hb4 rfl rfl tyG36 ?_
  intro w8 hb4' hm8
  replace hm0:=hm0.old1 hm8 hge_g4;clear hm8;replace hb4:=hb4'; clear hb4'
  refine L.a rfl rfl<|L.a rfl rfl<|L.nil<|X.seq<|W.ret<|X.thenRet<|X.result3 rfl (.cell rfl (loadVar_blk hb4 tyG36) (.tmp rfl (.tmp rfl .nil))) ?_
  rw [phZ_cho hmay hc27b hc39]
  exact ⟨_,_,rfl,Lay.nil rfl,Lay.nil rfl,hm0⟩
 intro hc39
 simp only [Bool.not_eq_true',Bool.not_eq_false'] at hc39
 have hsl:=setZ_len hc39
 refine W.skip<|X.seq<|W.seq<|W.seq<|W.region<|L.a rfl rfl<|L.nil<|X.seq<|W.block<|W.loop (ι:=Nat) (fun i=>[(0,.slice TL cs.length tL),(3,.pointer (some ⟨g3,0,none⟩)),(4,.pointer (some ⟨g4,0,none⟩)),(9,v35),(11,.int .i64 ((i:Nat):Int))]) (fun i w_=>Lay rdC (g4 :: g3 :: M) w_ (.slice TL cs.length tL) cs∧Lay rdI (g4 :: g3 :: M) w_ (.slice TO os.length tO) os∧Lay rdQ (g4 :: g3 :: M) w_ (.slice TV val.length tV) val∧Bd (g4 :: g3 :: M) w_∧Lay rdI [g4] w_ v35 (setZ (val.length:Int) cs os)∧Blk w_ g3 36 #[.slice TO os.length tO,.slice TV val.length tV]∧Blk w_ g4 36 #[.slice none 0 0,.slice none 0 0]∧i≤cs.length∧(∀ j,j<i→badB cs (setZ (val.length:Int) cs os) j=false)∧Mod [] w w_) (fun i=>cs.length - i) 0 ?_ ?_ ?_
 · exact ⟨rfl,rfl,rfl,rfl,rfl,trivial⟩
 ·
  exact ⟨hL.su,hO.su,hv.su,hbd.su,hR.su,hb3,hb4,Nat.zero_le _,(fun j h=>by omega),hm0⟩
 rintro i w9 ⟨hL,hO,hv,hbd,hR,hb3,hb4,hi,hno,hm0⟩
 refine W.seq<|W.seq<|W.region<|L.m rfl rfl<|L.m rfl rfl<|L.v (R1.lenLay rfl hL tyS22) rfl<|L.v (R1.lt rfl rfl) rfl<|L.nil<|X.seq<|W.cond rfl ?_ ?_
 ·
  intro hc44
  try simp only [bq,ne_eq] at hc44
  refine W.skip<|X.seq<|W.seq<|W.block<|W.seq<|W.region<|L.m rfl rfl<|L.m rfl rfl<|L.v (R1.atLay (j:=i) rfl rfl hL tyS22 rfl (by omega)) rfl<|L.v (R1.fieldAddr rfl tyF47_0) rfl ?_
  obtain ⟨z51,cs51,hz51,hE51,vt51,ds51,rfl,ht51,vn51,vd51,rfl,hn51,hd51⟩:=Lay.elemQ hL (j:=i) (by omega);obtain ⟨T51,t51,rfl⟩:=ht51.form;obtain ⟨A51,c51,rfl⟩:=hn51.form;obtain ⟨B51,e51,rfl⟩:=hd51.form
  refine L.v (R1.loadEF rfl hE51 rfl tyP3) rfl<|L.v ((R1.eq rfl rfl).asB (c:=(decide (z51.st=0))) (rfl)) rfl<|L.m rfl rfl ?_
  cases hgd53:(decide (z51.st=0))
  ·
   try simp only [bq,ne_eq] at hgd53
   refine L.off rfl rfl rfl rfl rfl<|L.off rfl rfl rfl rfl rfl<|L.off rfl rfl rfl rfl rfl<|L.off rfl rfl rfl rfl rfl<|L.off rfl rfl rfl rfl rfl<|L.v (R1.pickF rfl rfl) rfl<|L.m rfl rfl<|L.off rfl rfl rfl rfl rfl<|L.off rfl rfl rfl rfl rfl<|L.off rfl rfl rfl rfl rfl<|L.off rfl rfl rfl rfl rfl ?_
   refine L.off rfl rfl rfl rfl rfl<|L.off rfl rfl rfl rfl rfl<|L.v (R1.pickF rfl rfl) rfl<|L.nil<|X.seq<|W.condF rfl<|W.skip<|X.blockEnd<|X.seq<|W.region<|L.m rfl rfl ?_
   refine L.v (R1.addI (b:=1) rfl rfl (by omega)) rfl<|L.a rfl rfl<|L.nil<|X.next (i + 1) ?_ ?_ ?_
   · exact ⟨rfl,rfl,rfl,rfl,rfl,trivial⟩
   ·
    exact ⟨hL.su,hO.su,hv.su,hbd.su,hR.su,hb3,hb4,by omega,(fun j hj=>badB_snoc hno hj hz51 (by rw [decide_eq_false hgd53,Bool.false_and])),hm0⟩
   first | omega | (dsimp only; omega)
  try simp only [bq,ne_eq] at hgd53
  refine L.on rfl rfl rfl (R1.move rfl) rfl<|L.on rfl rfl rfl (R1.move rfl) rfl<|L.on rfl rfl rfl (R1.atLay (j:=i) rfl rfl hR tyS29 rfl (by omega)) rfl<|L.on rfl rfl rfl (R1.loadLI rfl hR tyP3 (by omega) (getD_at _)) rfl<|L.on rfl rfl rfl ((R1.lt rfl rfl).asB (c:=(decide (((setZ (val.length:Int) cs os).getD i 0)<0))) (rfl)) rfl<|L.v (R1.pickT rfl rfl) rfl<|L.m rfl rfl ?_
  cases hgd60:(decide (((setZ (val.length:Int) cs os).getD i 0)<0))
  ·
   try simp only [bq,ne_eq] at hgd60
   refine L.off rfl rfl rfl rfl rfl<|L.off rfl rfl rfl rfl rfl<|L.off rfl rfl rfl rfl rfl<|L.off rfl rfl rfl rfl rfl<|L.off rfl rfl rfl rfl rfl<|L.off rfl rfl rfl rfl rfl<|L.v (R1.pickF rfl rfl) rfl<|L.nil<|X.seq<|W.condF rfl<|W.skip ?_
   refine X.blockEnd<|X.seq<|W.region<|L.m rfl rfl<|L.v (R1.addI (b:=1) rfl rfl (by omega)) rfl<|L.a rfl rfl<|L.nil<|X.next (i + 1) ?_ ?_ ?_
   · exact ⟨rfl,rfl,rfl,rfl,rfl,trivial⟩
   ·
    exact ⟨hL.su,hO.su,hv.su,hbd.su,hR.su,hb3,hb4,by omega,(fun j hj=>badB_snoc hno hj hz51 (by rw [decide_eq_false (p:=((setZ (val.length:Int) cs os).getD i 0)<0) (by omega)]; simp)),hm0⟩
   first | omega | (dsimp only; omega)
  try simp only [bq,ne_eq] at hgd60
  refine L.on rfl rfl rfl (R1.move rfl) rfl<|L.on rfl rfl rfl (R1.move rfl) rfl<|L.on rfl rfl rfl (R1.atLay (j:=i) rfl rfl hL tyS22 rfl (by omega)) rfl ?_
  obtain ⟨z64,cs64,hz64,hE64,vt64,ds64,rfl,ht64,vn64,vd64,rfl,hn64,hd64⟩:=Lay.elemQ hL (j:=i) (by omega);obtain ⟨T64,t64,rfl⟩:=ht64.form;obtain ⟨A64,c64,rfl⟩:=hn64.form;obtain ⟨B64,e64,rfl⟩:=hd64.form
  obtain rfl:z51=z64:=by have h9:=hz64; rw [hz51] at h9; injection h9
  refine L.on rfl rfl rfl (R1.loadE rfl hE64 tyG47) rfl<|L.callOn rfl rfl rfl rfl (c_r15_Empty ht64 hn64 hd64 hbd (hsmL _ (List.mem_of_getElem? hz51))) rfl ?_
  rintro _ w10 ⟨rfl,hm10⟩
  replace hL:=hL.gr hm10;replace hO:=hO.gr hm10;replace hv:=hv.gr hm10;replace hbd:=hbd.gr hm10;replace hR:=hR.gr hm10;replace hb3:=Blk.gr hb3 hm10;replace hb4:=Blk.gr hb4 hm10;replace hm0:=hm0.trans hm10;clear hm10
  refine L.on rfl rfl rfl (R1.not rfl) rfl<|L.v (R1.pickT rfl rfl) rfl<|L.nil<|X.seq<|W.cond rfl ?_ ?_
  ·
   intro hc67
   simp only [Bool.not_eq_true',Bool.not_eq_false'] at hc67
   refine W.seq<|W.region<|L.v (R1.build (vs:=[]) rfl built_T0) rfl<|L.m rfl rfl<|L.storeBox rfl rfl hb4 rfl rfl tyG36 ?_
   intro w11 hb4' hm11
   replace hm0:=hm0.old1 hm11 hge_g4;clear hm11;replace hb4:=hb4'; clear hb4'
   refine L.a rfl rfl<|L.a rfl rfl<|L.nil<|X.seq<|W.ret<|X.blockRet<|X.thenRet<|X.nextRet<|X.blockRet<|X.thenRet<|X.result3 rfl (.cell rfl (loadVar_blk hb4 tyG36) (.tmp rfl (.tmp rfl .nil))) ?_
   have hb9:badB cs (setZ (val.length:Int) cs os) i=true:=by unfold badB; rw [getD_of_get hz51,decide_eq_true hgd53,decide_eq_true (p:=((setZ (val.length:Int) cs os).getD i 0)<0) (by omega),hc67]; rfl
   rw [phZ_bad hmay hc27b hc39 (badF_at (by omega) hb9 hno)]
   exact ⟨_,_,rfl,Lay.nil rfl,Lay.nil rfl,hm0⟩
  intro hc67
  simp only [Bool.not_eq_true',Bool.not_eq_false'] at hc67
  refine W.skip<|X.blockEnd<|X.seq<|W.region<|L.m rfl rfl<|L.v (R1.addI (b:=1) rfl rfl (by omega)) rfl<|L.a rfl rfl<|L.nil<|X.next (i + 1) ?_ ?_ ?_
  · exact ⟨rfl,rfl,rfl,rfl,rfl,trivial⟩
  ·
   exact ⟨hL.su,hO.su,hv.su,hbd.su,hR.su,hb3,hb4,by omega,(fun j hj=>badB_snoc hno hj hz51 (by rw [hc67]; simp)),hm0⟩
  first | omega | (dsimp only; omega)
 intro hc44
 try simp only [bq,ne_eq] at hc44
 obtain rfl:i=cs.length:=by omega
 have hbad:=badF_no hno;have hph:=phZ_run hmay hc27b hc39 hbad
 refine W.exit<|X.thenExit<|X.nextExit<|X.here<|X.seq<|W.seq<|W.region<|L.m rfl rfl<|L.m rfl rfl<|L.v (R1.fieldAt rfl tyF36_1) rfl<|L.v (R1.loadFld rfl hb3 rfl tyP23) rfl ?_
 refine L.call rfl (c_r14_Run (hL.sub (M':=[g4]) (by simp)) hR (hv.sub (M':=[g4]) (by simp)) (hbd.sub (by simp)) hsm hsv) rfl ?_
 rintro _ w12 ⟨v75,rfl,hQ,hm12⟩
 replace hR:=hR.gr hm12;replace hb4:=Blk.gr hb4 hm12;replace hm0:=hm0.trans hm12;clear hm12
 refine L.m rfl rfl<|L.v (R1.extract rfl rfl) rfl<|L.v (R1.extract rfl rfl) rfl<|L.v (R1.extract rfl rfl) rfl<|L.a rfl rfl<|L.a rfl rfl<|L.a rfl rfl<|L.nil<|X.seq<|W.seq<|W.seq ?_
 refine W.region<|L.m rfl rfl<|L.v ((R1.ne rfl rfl).asB (c:=(decide ((runZ cs (setZ (val.length:Int) cs os) val).2.2≠0))) (rfl)) rfl<|L.nil<|X.seq<|W.cond rfl ?_ ?_
 ·
  intro hc80
  try simp only [bq,ne_eq] at hc80
  refine W.seq<|W.region<|L.v (R1.build (vs:=[]) rfl built_T0) rfl<|L.m rfl rfl<|L.m rfl rfl<|L.storeBox rfl rfl hb4 rfl rfl tyG36 ?_
  intro w13 hb4' hm13
  replace hm0:=hm0.old1 hm13 hge_g4;clear hm13;replace hb4:=hb4'; clear hb4'
  refine L.a rfl rfl<|L.a rfl rfl<|L.nil<|X.seq<|W.ret<|X.thenRet<|X.result3 rfl (.cell rfl (loadVar_blk hb4 tyG36) (.tmp rfl (.tmp rfl .nil))) ?_
  rw [if_pos hc80] at hph
  rw [hph]
  exact ⟨_,_,rfl,Lay.nil rfl,Lay.nil rfl,hm0⟩
 intro hc80
 try simp only [bq,ne_eq] at hc80
 refine W.skip<|X.seq<|W.seq<|W.region<|L.m rfl rfl<|L.m rfl rfl<|L.v (R1.build (vs:=[v35,v75]) rfl (built_S9 (lay_form' hR) (lay_form' hQ) built_T2)) rfl<|L.storeBox rfl rfl hb4 rfl (one_S (lay_form' hR) (lay_form' hQ)) tyG36 ?_
 intro w14 hb4' hm14
 replace hR:=hR.mod hm14 (by simp);replace hm0:=hm0.old1 hm14 hge_g4;replace hQ:=hQ.mod hm14 (by simp);clear hm14;replace hb4:=hb4'; clear hb4'
 refine L.a rfl rfl<|L.a rfl rfl<|L.nil<|X.seq<|W.ret<|X.result3 rfl (.cell rfl (loadVar_blk hb4 tyG36) (.tmp rfl (.tmp rfl .nil))) ?_
 rw [if_neg (by simpa using hc80)] at hph
 rw [hph]
 exact ⟨_,_,rfl,hR.sub (by simp),hQ.sub (by simp),hm0⟩
end Go.Proofs.YtedokfpoajfflaaGreat
end
