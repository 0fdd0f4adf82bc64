/- Several texts in one. -/
import Derived.Test.YthoooolflmbmbaaGreatRuD
import Derived.Test.YthoooolflmbmbaaGreatDeG
section
namespace Go.Proofs.YthoooolflmbmbaaGreat
open Go.RowKit
set_option linter.unusedVariables false
set_option linter.unusedSimpArgs false
set_option maxRecDepth 10000
def emptyB (c:CR):Bool:=decide (c.ts.length=0) && decide (QR.val c.k=0)
def mayP (cs:List CR) (os:List Int) (n:Nat):Prop:=1≤n∧n≤64∧cs.length≤256∧os.length=cs.length∧∀ c∈cs,isC c (n:Int)=true
instance (cs:List CR) (os:List Int) (n:Nat):Decidable (mayP cs os n):=by unfold mayP; infer_instance
def badB (cs:List CR) (outs:List Int) (i:Nat):Bool:=decide ((cs.getD i c0R).st=0) && (decide (outs.getD i 0<0) && !emptyB (cs.getD i c0R))
def badF (cs:List CR) (outs:List Int):Option Nat:=(List.range cs.length).find? (badB cs outs)
def phZ (cs:List CR) (os:List Int) (val:List QR):(List Int × List QR) × Int × Int :=
  if mayP cs os val.length then
    match firstW (List.range val.length) (wsOf val.length cs) 0 with
    | some i=>(([],[]),(i:Int),9)
    | none=>if ChB (val.length:Int) cs os=true then
        match badF cs (setZ (val.length:Int) cs os) with
        | some i=>(([],[]),(i:Int),10)
        | none=>if (runZ cs (setZ (val.length:Int) cs os) val).2.2≠0 then (([],[]),(runZ cs (setZ (val.length:Int) cs os) val).2.1,(runZ cs (setZ (val.length:Int) cs os) val).2.2) else ((setZ (val.length:Int) cs os,(runZ cs (setZ (val.length:Int) cs os) val).1),-1,0)
      else (([],[]),-1,1)
  else (([],[]),-1,1)
theorem phZ_no {cs:List CR} {os:List Int} {val:List QR} (h:¬ mayP cs os val.length):phZ cs os val=(([],[]),-1,1):=by unfold phZ; rw [if_neg h]
theorem phZ_ring {cs:List CR} {os:List Int} {val:List QR} {i:Nat} (h:mayP cs os val.length) (h2:firstW (List.range val.length) (wsOf val.length cs) 0=some i):phZ cs os val=(([],[]),(i:Int),9):=by unfold phZ; rw [if_pos h,h2]
theorem phZ_cho {cs:List CR} {os:List Int} {val:List QR} (h:mayP cs os val.length) (h2:firstW (List.range val.length) (wsOf val.length cs) 0=none) (h3:ChB (val.length:Int) cs os=false):phZ cs os val=(([],[]),-1,1):=by unfold phZ; rw [if_pos h,h2]; simp only [h3]; rfl
theorem phZ_bad {cs:List CR} {os:List Int} {val:List QR} {i:Nat} (h:mayP cs os val.length) (h2:firstW (List.range val.length) (wsOf val.length cs) 0=none) (h3:ChB (val.length:Int) cs os=true) (h4:badF cs (setZ (val.length:Int) cs os)=some i):phZ cs os val=(([],[]),(i:Int),10):=by unfold phZ; rw [if_pos h,h2]; simp only [h3,h4,if_true]
theorem phZ_run {cs:List CR} {os:List Int} {val:List QR} (h:mayP cs os val.length) (h2:firstW (List.range val.length) (wsOf val.length cs) 0=none) (h3:ChB (val.length:Int) cs os=true) (h4:badF cs (setZ (val.length:Int) cs os)=none):phZ cs os val=if (runZ cs (setZ (val.length:Int) cs os) val).2.2≠0 then (([],[]),(runZ cs (setZ (val.length:Int) cs os) val).2.1,(runZ cs (setZ (val.length:Int) cs os) val).2.2) else ((setZ (val.length:Int) cs os,(runZ cs (setZ (val.length:Int) cs os) val).1),-1,0):=by unfold phZ; rw [if_pos h,h2]; simp only [h3,h4,if_true]
theorem held_eq {n:Nat} (h:n≤64):held (n:Int)=n:=by unfold held; omega
theorem badF_at {cs:List CR} {outs:List Int} {i:Nat} (hi:i<cs.length) (h:badB cs outs i=true) (hno:∀ j,j<i→badB cs outs j=false):badF cs outs=some i:=find_at hi h hno
theorem badF_no {cs:List CR} {outs:List Int} (hno:∀ j,j<cs.length→badB cs outs j=false):badF cs outs=none:=find_no hno
theorem built_S9 {P:Program} {t:TypeId} {v0 v1:Value} (h1:∃ A k c,v0=.slice A k c) (h2:∃ A k c,v1=.slice A k c) (h:∀ A1 k1 c1 A2 k2 c2,P.built t [(0,.slice A1 k1 c1),(1,.slice A2 k2 c2)]=some #[.slice A1 k1 c1,.slice A2 k2 c2]):P.built t [(0,v0),(1,v1)]=some #[v0,v1]:=by
  obtain ⟨A1,k1,c1,rfl⟩:=h1;obtain ⟨A2,k2,c2,rfl⟩:=h2
  exact h _ _ _ _ _ _
theorem one_S {v0 v1:Value} (h1:∃ A k c,v0=.slice A k c) (h2:∃ A k c,v1=.slice A k c):([v0,v1].all fun x=>x.oneCell')=true:=by
  obtain ⟨A1,k1,c1,rfl⟩:=h1;obtain ⟨A2,k2,c2,rfl⟩:=h2
  rfl
theorem lay_form' {α:Type} {R:Rd α} {M:List Nat} {w:World} {v:Value} {as_:List α} (h:Lay R M w v as_):∃ A k c,v=.slice A k c:=let ⟨A,c,e⟩:=h.form; ⟨A,_,c,e⟩
theorem badB_snoc {cs:List CR} {outs:List Int} {i j:Nat} {z:CR} (hno:∀ j,j<i→badB cs outs j=false) (hj:j<i + 1) (hz:cs[i]?=some z) (h:(decide (z.st=0) && (decide (outs.getD i 0<0) && !emptyB z))=false):badB cs outs j=false:=by
  rcases Nat.lt_or_ge j i with h9 | h9
  · exact hno j h9
  obtain rfl:j=i:=by omega
  unfold badB; rw [getD_of_get hz]; exact h
theorem nat_of {z:Int} {cs:List CR} {os:List Int} (h:ChB z cs os=true):∃ n:Nat,z=(n:Int)∧1≤n∧n≤64:=by
  obtain ⟨h1,h2,_⟩:=ChB_true h
  exact ⟨z.toNat,by omega,by omega,by omega⟩
theorem setZ_yes {n:Nat} {cs:List CR} {os:List Int} (h:ChB (n:Int) cs os=true):setZ (n:Int) cs os=setlZ n cs os:=by unfold setZ; rw [if_pos h,Int.toNat_natCast]
theorem chb_set {z:Int} {cs:List CR} {os:List Int} (h:ChB z cs os=true):ChB z cs (setZ z cs os)=true:=by
  obtain ⟨n,rfl,_⟩:=nat_of h
  rw [setZ_yes h]
  exact ChoZ.back h (setlZ_cho (ChoZ.of h)).c
theorem setZ_len {z:Int} {cs:List CR} {os:List Int} (h:ChB z cs os=true):(setZ z cs os).length=cs.length:=by
  obtain ⟨n,rfl,_⟩:=nat_of h
  rw [setZ_yes h]; exact (setlZ_cho (ChoZ.of h)).len
def TestC (P:Program) (w:World) (N9:List Nat) (f:FuncId) (us:List Value) (cs:List CR) (p:CR→Bool):Prop:=∀ (w1:World) (z:CR) (T A B:Option Addr) (t a b:Nat),z∈cs→Mod [] w w1→Lay rdT N9 w1 (.slice T z.ts.length t) z.ts→U32 N9 w1 (.slice A z.k.n.length a) z.k.n→U32 N9 w1 (.slice B z.k.d.length b) z.k.d→Ret P f ([Value.agg #[.int .i64 z.st,.slice T z.ts.length t,.bool z.k.s,.slice A z.k.n.length a,.slice B z.k.d.length b]] ++ us).toArray w1 (fun r w2=>r=.bool (p z)∧Mod [] w1 w2)
theorem anyC_no {p:CR→Bool} {ts:List CR} (h:∀ z∈ts,p z=false):ts.any p=false:=by
  rw [List.any_eq_false]; intro z hz; rw [h z hz]; decide
theorem c_IndexC {N9 : List Nat} {w : World} {v : Value} {cs : List CR} {f : FuncId} {us : List Value} {p : CR → Bool} (hL : Lay rdC N9 w v cs) (hT : TestC Tryz.prog w N9 f us cs p) :
    Ret Tryz.prog 30 #[v,.func (.func f) #[] us.toArray] w (fun r w'=>∃ z:Int,r=.int .i64 z∧(0≤z↔cs.any p=true)∧Mod [] w w'):=by
 obtain ⟨TL,tL,rfl⟩:=hL.form;have hmax:=hL.max; unfold maxLen at hmax
 refine Ret.of (vs:=[.slice TL cs.length tL,.func (.func f) #[] us.toArray]) (n:=19) Tryz.func30 rfl rfl rfl rfl ?_
 have C0:Mod [] w w:=Mod.refl _ _
 refine W.sr<|L.b rfl<|L.z<|W.seq<|W.sr<|L.k rfl<|L.lL rfl hL Q22<|L.k rfl ?_
 refine L.z<|W.block<|W.loop (ι:=Nat) (fun i=>[(0,.slice TL cs.length tL),(1,.func (.func f) #[] us.toArray),(7,.int .i64 ((cs.length:Nat):Int)),(8,.int .i64 ((i:Nat):Int))]) (fun i w_=>i≤cs.length∧(∀ z∈cs.take i,p z=false)∧Lay rdC N9 w_ (.slice TL cs.length tL) cs∧Mod [] w w_) (fun i=>cs.length - i) 0 ?_ ?_ ?_
 · repeat' constructor
 ·
  exact ⟨Nat.zero_le _,(fun z h=>by simp at h),hL,C0⟩
 rintro i w1 ⟨hi,hno,hL,C0⟩
 refine W.sr<|L.lt rfl rfl<|L.z<|W.seq<|W.cond rfl ?_ ?_
 ·
  intro J9
  try simp only [bq,ne_eq] at J9
  refine W.skip<|X.seq<|W.seq<|W.block<|W.sr<|L.k rfl<|L.b rfl<|L.z<|W.seq ?_
  refine W.region<|L.k rfl<|L.k rfl<|L.k rfl<|L.aL (j:=i) rfl rfl hL Q22 rfl (by omega) ?_
  obtain ⟨z15,cs15,P15,V15,vt15,ds15,rfl,Y15,vn15,vd15,rfl,I15,H15⟩:=Lay.elemQ hL (j:=i) (by omega);obtain ⟨T15,t15,rfl⟩:=Y15.form;obtain ⟨A15,c15,rfl⟩:=I15.form;obtain ⟨B15,e15,rfl⟩:=H15.form
  refine L.v (R1.loadE rfl V15 tyG42) rfl<|L.callV rfl rfl (hT _ z15 _ _ _ _ _ _ (List.mem_of_getElem? P15) C0 Y15 I15 H15) rfl ?_
  rintro _ w2 ⟨rfl,C2⟩
  replace hL:=hL.gr C2;replace C0:=C0.trans C2;clear C2
  refine L.z<|W.cond rfl ?_ ?_
  ·
   intro J16
   have hcc_:=J16
   refine W.sr<|L.k rfl<|L.b rfl<|L.z<|W.ret<|X.blockRet<|X.thenRet<|X.nextRet<|X.blockRet ?_
   refine X.thenRet<|X.result1 rfl (.tmp rfl .nil) ?_
   exact ⟨_,rfl,⟨fun _=>List.any_eq_true.2 ⟨z15,List.mem_of_getElem? P15,J16⟩,fun _=>by omega⟩,C0⟩
  intro J16
  have hcc_:=J16
  refine W.skip<|X.blockEnd<|X.seq<|W.region<|L.inc rfl rfl (by omega)<|L.k rfl<|L.nil<|X.next (i + 1) ?_ ?_ ?_
  · repeat' constructor
  ·
   refine ⟨by omega,fun z hz=>?_,hL,C0⟩
   obtain ⟨hi9,he9⟩:=List.getElem?_eq_some_iff.1 P15
   rw [List.take_succ_eq_append_getElem hi9,he9] at hz
   rcases List.mem_append.1 hz with h9 | h9
   · exact hno z h9
   rw [List.mem_singleton.1 h9]; exact J16
  first | omega | (dsimp only; omega)
 intro J9
 try simp only [bq,ne_eq] at J9
 obtain rfl:i=cs.length:=by omega
 refine W.brk<|W.sr<|L.b rfl<|L.z<|W.ret ?_
 refine X.result1 rfl (.tmp rfl .nil) ?_
 rw [List.take_length] at hno
 exact ⟨_,rfl,⟨fun h9=>by omega,fun h9=>by rw [anyC_no hno] at h9; cases h9⟩,C0⟩
theorem c_ContainsC {N9 : List Nat} {w : World} {v : Value} {cs : List CR} {f : FuncId} {us : List Value} {p : CR → Bool} (hL : Lay rdC N9 w v cs) (hT : TestC Tryz.prog w N9 f us cs p) :
    Ret Tryz.prog 12 #[v,.func (.func f) #[] us.toArray] w (fun r w'=>r=.bool (cs.any p)∧Mod [] w w'):=by
 refine Ret.of (vs:=[v,.func (.func f) #[] us.toArray]) (n:=9) Tryz.func12 rfl rfl rfl rfl ?_
 have C0:Mod [] w w:=Mod.refl _ _
 refine W.sr<|L.b rfl<|L.z<|W.sr<|L.k rfl<|L.k rfl<|L.c rfl (c_IndexC hL hT) ?_
 rintro _ w1 ⟨z7,rfl,P7,C1⟩
 replace C0:=C0.trans C1;clear C1
 refine L.v ((R1.ge rfl rfl).asB (c:=(cs.any p)) (by cases h9:cs.any p <;> simp [h9] at P7 ⊢ <;> omega)) rfl<|L.b rfl<|L.z<|W.ret<|X.result1 rfl (.tmp rfl .nil) ?_
 exact ⟨rfl,C0⟩
theorem c_PhF {M N9 : List Nat} {w : World} {c : CR} {vt vn vd : Value} (ht : Lay rdT N9 w vt c.ts) (h : U32 N9 w vn c.k.n) (k : U32 N9 w vd c.k.d) (hbd : Bd M w) (hsm : SmC 1099511627776 c) {g n : Nat} (hb : Blk w g 3 #[.int .i64 (n : Int)]) (hn : n ≤ 1000000) :
    Ret Tryz.prog 13 #[.agg #[.int .i64 c.st,vt,.bool c.k.s,vn,vd],.pointer (some ⟨g,0,none⟩)] w (fun r w'=>r=.bool (!isC c (n:Int))∧Mod [] w w'):=by
 obtain ⟨T9,t9,rfl⟩:=ht.form;obtain ⟨A9,c9,rfl⟩:=h.form;obtain ⟨B9,e9,rfl⟩:=k.form
 refine Ret.of (vs:=[.agg #[.int .i64 c.st,.slice T9 c.ts.length t9,.bool c.k.s,.slice A9 c.k.n.length c9,.slice B9 c.k.d.length e9],.pointer (some ⟨g,0,none⟩)]) (n:=8) Tryz.func13 rfl rfl rfl rfl ?_
 have C0:Mod [] w w:=Mod.refl _ _
 refine W.sr<|L.box rfl rfl ?_
 intro g2 w1 D2
 replace ht:=ht.new D2;replace h:=h.new D2;replace k:=k.new D2;replace hbd:=hbd.new D2;replace hb:=hb.gr D2.mod;replace C0:=C0.tn D2;have E2:=D2.blk;clear D2
 refine L.b rfl<|L.z<|W.sr<|L.v (R1.loadBox rfl E2 tyG42) rfl<|L.lF rfl hb rfl tyP3<|L.c rfl (c_aff_Is ht h k (n:=(n:Int)) (by omega) hbd hsm) ?_
 rintro _ w2 ⟨rfl,C2⟩
 replace C0:=C0.trans C2;clear C2
 refine L.v (R1.not rfl) rfl<|L.b rfl<|L.z<|W.ret<|X.result1 rfl (.tmp rfl .nil) ?_
 exact ⟨rfl,C0⟩
theorem c_idle {M N9 : List Nat} {w : World} {c : CR} {vt vn vd : Value} (ht : Lay rdT N9 w vt c.ts) (h : U32 N9 w vn c.k.n) (k : U32 N9 w vd c.k.d) (hbd : Bd M w) (hsm : SmC 1099511627776 c) :
    Ret Tryz.prog 17 #[.agg #[.int .i64 c.st,vt,.bool c.k.s,vn,vd]] w (fun r w'=>r=.bool (emptyB c)∧Mod [] w w'):=by
 obtain ⟨T9,t9,rfl⟩:=ht.form;obtain ⟨A9,c9,rfl⟩:=h.form;obtain ⟨B9,e9,rfl⟩:=k.form
 refine Ret.of (vs:=[.agg #[.int .i64 c.st,.slice T9 c.ts.length t9,.bool c.k.s,.slice A9 c.k.n.length c9,.slice B9 c.k.d.length e9]]) (n:=12) Tryz.func17 rfl rfl rfl rfl ?_
 have C0:Mod [] w w:=Mod.refl _ _
 refine W.sr<|L.box rfl rfl ?_
 intro g1 w1 D1
 replace ht:=ht.new D1;replace h:=h.new D1;replace k:=k.new D1;replace hbd:=hbd.new D1;replace C0:=C0.tn D1;have E1:=D1.blk;clear D1
 refine L.b rfl<|L.z<|W.sr<|L.fA rfl tyF42_1<|L.lF rfl E1 rfl tyP37<|L.lL rfl ht Q37<|L.v ((R1.eq rfl rfl).asB (c:=(decide (c.ts.length=0))) (by rw [decide_eq_decide]; omega)) rfl<|L.k rfl ?_
 cases W7:(decide (c.ts.length=0))
 ·
  have hcc_:=W7
  refine L.o rfl<|L.o rfl<|L.o rfl<|L.pF rfl rfl<|L.b rfl<|L.z<|W.ret<|X.result1 rfl (.tmp rfl .nil)<|⟨?_,C0⟩
  unfold emptyB
  rw [W7]
  rfl
 have hcc_:=W7
 refine L.p rfl (R1.fieldAt rfl tyF42_2)<|L.p rfl (R1.loadBoxAt (ds:=[.bool c.k.s,.slice A9 c.k.n.length c9,.slice B9 c.k.d.length e9]) rfl E1 rfl tyG40)<|L.callOn rfl rfl rfl rfl (c_rat_Zero (q:=(QR.val c.k)) rfl h k hbd hsm.2.1.1 hsm.2.1.2) rfl ?_
 rintro _ w2 ⟨rfl,C2⟩
 replace C0:=C0.trans C2;clear C2
 refine L.pT rfl rfl<|L.b rfl<|L.z<|W.ret<|X.result1 rfl (.tmp rfl .nil)<|⟨?_,C0⟩
 unfold emptyB
 rw [W7]
 rfl
theorem c_r15_Empty {M N9 : List Nat} {w : World} {c : CR} {vt vn vd : Value} (ht : Lay rdT N9 w vt c.ts) (h : U32 N9 w vn c.k.n) (k : U32 N9 w vd c.k.d) (hbd : Bd M w) (hsm : SmC 1099511627776 c) :
    Ret Tryz.prog 22 #[.agg #[.int .i64 c.st,vt,.bool c.k.s,vn,vd]] w (fun r w'=>r=.bool (emptyB c)∧Mod [] w w'):=by
 obtain ⟨T9,t9,rfl⟩:=ht.form;obtain ⟨A9,c9,rfl⟩:=h.form;obtain ⟨B9,e9,rfl⟩:=k.form
 refine Ret.of (vs:=[.agg #[.int .i64 c.st,.slice T9 c.ts.length t9,.bool c.k.s,.slice A9 c.k.n.length c9,.slice B9 c.k.d.length e9]]) (n:=12) Tryz.func22 rfl rfl rfl rfl ?_
 have C0:Mod [] w w:=Mod.refl _ _
 refine W.sr<|L.box rfl rfl ?_
 intro g1 w1 D1
 replace ht:=ht.new D1;replace h:=h.new D1;replace k:=k.new D1;replace hbd:=hbd.new D1;replace C0:=C0.tn D1;have E1:=D1.blk;clear D1
 refine L.b rfl<|L.z<|W.sr<|L.fA rfl tyF42_1<|L.lF rfl E1 rfl tyP37<|L.lL rfl ht Q37<|L.v ((R1.eq rfl rfl).asB (c:=(decide (c.ts.length=0))) (by rw [decide_eq_decide]; omega)) rfl<|L.k rfl ?_
 cases W7:(decide (c.ts.length=0))
 ·
  have hcc_:=W7
  refine L.o rfl<|L.o rfl<|L.o rfl<|L.pF rfl rfl<|L.b rfl<|L.z<|W.ret<|X.result1 rfl (.tmp rfl .nil)<|⟨?_,C0⟩
  unfold emptyB
  rw [W7]
  rfl
 have hcc_:=W7
 refine L.p rfl (R1.fieldAt rfl tyF42_2)<|L.p rfl (R1.loadBoxAt (ds:=[.bool c.k.s,.slice A9 c.k.n.length c9,.slice B9 c.k.d.length e9]) rfl E1 rfl tyG40)<|L.callOn rfl rfl rfl rfl (c_ref2_Zero (q:=(QR.val c.k)) rfl h k hbd hsm.2.1.1 hsm.2.1.2) rfl ?_
 rintro _ w2 ⟨rfl,C2⟩
 replace C0:=C0.trans C2;clear C2
 refine L.pT rfl rfl<|L.b rfl<|L.z<|W.ret<|X.result1 rfl (.tmp rfl .nil)<|⟨?_,C0⟩
 unfold emptyB
 rw [W7]
 rfl
end Go.Proofs.YthoooolflmbmbaaGreat
end
section
namespace Go.Proofs.YthoooolflmbmbaaGreat
open Go.RowKit
set_option linter.unusedVariables false
set_option linter.unusedSimpArgs false
set_option maxRecDepth 10000
theorem built_S0:Tryz.prog.built 28 []=some #[.slice none 0 0,.slice none 0 0]:=by kernel_rfl
theorem built_S2 (A:Option Addr) (k c:Nat) (B:Option Addr) (m d:Nat):Tryz.prog.built 28 [(0,.slice A k c),(1,.slice B m d)]=some #[.slice A k c,.slice B m d]:=by kernel_rfl
set_option maxHeartbeats 1000000 in
theorem c_Phase {M : List Nat} {w : World} {vl vo vv : Value} {cs : List CR} {os : List Int} {val : List QR} (hL : Lay rdC M w vl cs) (hO : Lay rdI M w vo os) (hv : Lay rdQ M w vv val) (hbd : Bd M w) (hsm : ∀ c ∈ cs, SmC 150 c) (hsv : ∀ q ∈ val, SmQ 16 q) (hcl : cs.length ≤ 12) :
    Ret Tryz.prog 6 #[vl,.agg #[vo,vv]] w (fun r w'=>∃ a b,r=.tuple #[.agg #[a,b],.int .i64 (phZ cs os val).2.1,.int .i64 (phZ cs os val).2.2]∧Lay rdI M w' a (phZ cs os val).1.1∧Lay rdQ M w' b (phZ cs os val).1.2∧Mod [] w w'):=by
 obtain ⟨TL,tL,rfl⟩:=hL.form;obtain ⟨TO,tO,rfl⟩:=hO.form;obtain ⟨TV,tV,rfl⟩:=hv.form;have hmaxL:=hL.max; unfold maxLen at hmaxL;have hmaxO:=hO.max; unfold maxLen at hmaxO;have hmaxV:=hv.max; unfold maxLen at hmaxV
 have hsmL:∀ c∈cs,SmC 1099511627776 c:=fun c hc=>smC_up (hsm c hc) (by decide)
 refine Ret.of (vs:=[.slice TL cs.length tL,.agg #[.slice TO os.length tO,.slice TV val.length tV]]) (n:=104) Tryz.func6 rfl rfl rfl rfl ?_
 have C0:Mod [] w w:=Mod.refl _ _
 refine W.sr<|L.box rfl rfl ?_
 intro g3 w1 D3
 replace hL:=hL.new D3;replace hO:=hO.new D3;replace hv:=hv.new D3;replace hbd:=hbd.new D3;replace C0:=C0.tn D3;have E3:=D3.blk;clear D3
 refine L.alloc tyZ28 rfl ?_
 intro g4 w2 D4
 replace hL:=hL.new D4;replace hO:=hO.new D4;replace hv:=hv.new D4;replace hbd:=hbd.new D4;have K4:=New.ge D4 C0.size;replace C0:=C0.tn D4;replace E3:=E3.gr D4.mod;have E4:=D4.blk;clear D4
 refine L.b rfl<|L.b rfl<|L.z<|W.sr<|L.fA rfl tyF28_1<|L.lF rfl E3 rfl tyP23<|L.lL rfl hv Q23<|L.alloc tyZ3 rfl ?_
 intro g7 w3 D7
 replace hL:=hL.new D7;replace hO:=hO.new D7;replace hv:=hv.new D7;replace hbd:=hbd.new D7;have K7:=New.ge D7 C0.size;replace C0:=C0.tn D7;have hne_g3_g7:=E3.ne_ D7;replace E3:=E3.gr D7.mod;have hne_g4_g7:=E4.ne_ D7;replace E4:=E4.gr D7.mod;have E7:=D7.blk;clear D7
 refine L.store rfl rfl E7 (by decide) rfl tyP3 ?_
 intro w4 E7' C4
 replace hL:=hL.ms C4;replace hO:=hO.ms C4;replace hv:=hv.ms C4;replace hbd:=hbd.gr C4;replace C0:=C0.old1 C4 K7;replace E3:=E3.fr C4;replace E4:=E4.fr C4;clear C4;replace E7:=E7'; clear E7'
 replace E7:Blk _ g7 3 #[.int .i64 (val.length:Int)]:=E7
 refine L.z<|W.seq<|W.sr<|L.v ((R1.loadFld rfl E7 rfl tyP3).asV (v:=.int .i64 ((val.length:Nat):Int)) (rfl)) rfl<|L.v ((R1.lt rfl rfl).asB (c:=(decide ((val.length:Int)<1))) (rfl)) rfl<|L.k rfl ?_
 cases W21:(decide ((val.length:Int)<1))
 ·
  try simp only [bq,ne_eq] at W21
  refine L.p rfl ((R1.loadFld rfl E7 rfl tyP3).asV (v:=.int .i64 ((val.length:Nat):Int)) (rfl))<|L.p rfl ((R1.gt rfl rfl).asB (c:=(decide (64<(val.length:Int)))) (rfl))<|L.pF rfl rfl<|L.k rfl ?_
  cases W25:(decide (64<(val.length:Int)))
  ·
   try simp only [bq,ne_eq] at W25
   refine L.p rfl (R1.move rfl)<|L.p rfl (R1.lenLay rfl hL Q22)<|L.p rfl ((R1.gt rfl rfl).asB (c:=(decide ((256:Int)<(cs.length:Int)))) (rfl))<|L.pF rfl rfl<|L.k rfl ?_
   cases W30:(decide ((256:Int)<(cs.length:Int)))
   ·
    try simp only [bq,ne_eq] at W30
    refine L.p rfl (R1.fieldAt rfl tyF28_0)<|L.p rfl (R1.loadFld rfl E3 rfl tyP26)<|L.p rfl (R1.lenLay rfl hO Q26)<|L.p rfl (R1.move rfl)<|L.p rfl (R1.lenLay rfl hL Q22)<|L.p rfl ((R1.ne rfl rfl).asB (c:=(decide ((os.length:Int)≠(cs.length:Int)))) (rfl))<|L.pF rfl rfl<|L.k rfl ?_
    cases W38:(decide ((os.length:Int)≠(cs.length:Int)))
    ·
     try simp only [bq,ne_eq] at W38
     refine L.p rfl (R1.move rfl)<|L.p rfl (R1.makeFunc rfl rfl) ?_
     have hT9:TestC Tryz.prog _ (g7 :: g4 :: g3 :: M) 13 [.pointer (some ⟨g7,0,none⟩)] cs (fun c=>!isC c (val.length:Int)):=fun w1 z T A B t a b hz hm k1 k2 k3=>c_PhF k1 k2 k3 (hbd.gr hm) (hsmL z hz) (E7.gr hm) (by omega)
     refine L.callOn rfl rfl rfl rfl (c_ContainsC hL hT9) rfl ?_
     rintro _ w5 ⟨rfl,C5⟩
     replace hL:=hL.gr C5;replace hO:=hO.gr C5;replace hv:=hv.gr C5;replace hbd:=hbd.gr C5;replace C0:=C0.trans C5;replace E3:=E3.gr C5;replace E4:=E4.gr C5;replace E7:=E7.gr C5;clear C5
     refine L.pF rfl rfl<|L.z<|W.cond rfl ?_ ?_
     ·
      intro J42
      have hcc_:=J42
      refine W.sr<|L.v (R1.build (vs:=[]) rfl built_S0) rfl<|L.storeBox rfl rfl E4 rfl rfl tyG28 ?_
      intro w6 E4' C6
      replace C0:=C0.old1 C6 K4;clear C6;replace E4:=E4'; clear E4'
      refine L.b rfl<|L.b rfl<|L.z<|W.ret<|X.thenRet<|X.result3 rfl (.cell rfl (loadVar_blk E4 tyG28) (.tmp rfl (.tmp rfl .nil))) ?_
      rw [phZ_no (by rintro ⟨h1,h2,h3,h4,h5⟩; first | omega | (obtain ⟨z,hz,P2⟩:=List.any_eq_true.1 J42; rw [h5 z hz] at P2; exact absurd P2 (by decide)))]
      exact ⟨_,_,rfl,Lay.nil rfl,Lay.nil rfl,C0⟩
     intro J42
     have hcc_:=J42
     have hmay:mayP cs os val.length:=⟨by omega,by omega,by omega,by omega,fun c hc=>by have h9:=List.any_eq_false.1 J42 c hc; simpa using h9⟩
     have hh9:held (val.length:Int)=val.length:=held_eq hmay.2.1
     obtain ⟨q1,q2,q3,q4,q5⟩:=hmay
     refine W.skip<|X.seq<|W.seq<|W.sr<|L.k rfl<|L.v ((R1.loadFld rfl E7 rfl tyP3).asV (v:=.int .i64 ((val.length:Nat):Int)) (rfl)) rfl<|L.c rfl (c_First hL hbd hsmL) ?_
     rintro _ w7 ⟨rfl,C7⟩
     replace hL:=hL.gr C7;replace hO:=hO.gr C7;replace hv:=hv.gr C7;replace hbd:=hbd.gr C7;replace C0:=C0.trans C7;replace E3:=E3.gr C7;replace E4:=E4.gr C7;replace E7:=E7.gr C7;clear C7
     refine L.b rfl<|L.z<|W.sr<|L.k rfl<|L.v ((R1.ge rfl rfl).asB (c:=(decide (firstW (List.range (held (val.length:Int))) (wsOf (held (val.length:Int)) cs) 0≠none))) (fi_geq _)) rfl<|L.z<|W.cond rfl ?_ ?_
     ·
      intro J48
      try simp only [bq,ne_eq] at J48
      rw [hh9] at J48
      obtain ⟨ir,hir⟩:=Option.ne_none_iff_exists'.1 J48
      refine W.sr<|L.v (R1.build (vs:=[]) rfl built_S0) rfl<|L.k rfl<|L.storeBox rfl rfl E4 rfl rfl tyG28 ?_
      intro w8 E4' C8
      replace C0:=C0.old1 C8 K4;clear C8;replace E4:=E4'; clear E4'
      refine L.b rfl<|L.b rfl<|L.z<|W.ret<|X.thenRet<|X.result3 rfl (.cell rfl (loadVar_blk E4 tyG28) (.tmp rfl (.tmp rfl .nil))) ?_
      rw [hh9,hir]
      rw [phZ_ring ⟨q1,q2,q3,q4,q5⟩ hir]
      exact ⟨_,_,rfl,Lay.nil rfl,Lay.nil rfl,C0⟩
     intro J48
     try simp only [bq,ne_eq] at J48
     have hc48b:firstW (List.range val.length) (wsOf val.length cs) 0=none:=by rw [hh9] at J48; simpa using J48
     refine W.skip<|X.seq<|W.sr<|L.k rfl<|L.fA rfl tyF28_0<|L.lF rfl E3 rfl tyP26<|L.v ((R1.loadFld rfl E7 rfl tyP3).asV (v:=.int .i64 ((val.length:Nat):Int)) (rfl)) rfl ?_
     have hlt4:=Blk.lt E4;have hbd4:=hbd
     refine L.c rfl (c_Settle hL hO hbd hsmL (by omega) (by omega)) ?_
     rintro _ w9 ⟨v56,rfl,O56,C9⟩
     replace hL:=hL.gr C9;replace hO:=hO.gr C9;replace hv:=hv.gr C9;replace hbd:=hbd.gr C9;replace C0:=C0.trans C9;replace E3:=E3.gr C9;replace E4:=E4.gr C9;clear C9;have hR:=Lay.of_Z (M:=g4 :: M) O56 (fun g h1 h2=>by have h5:=(own_ge O56 g h1).1; exact (List.mem_cons.1 h2).elim (fun h3=>by rw [h3] at h5; omega) (fun h3=>by have h6:=hbd4 g (by simp [h3]); omega));clear O56 hbd4
     refine L.k rfl<|L.ex rfl rfl<|L.ex rfl rfl<|L.b rfl<|L.b rfl<|L.z<|W.seq<|W.sr<|L.k rfl ?_
     refine L.v (R1.not rfl) rfl<|L.z<|W.cond rfl ?_ ?_
     ·
      intro J60
      simp only [Bool.not_eq_true',Bool.not_eq_false'] at J60
      refine W.sr<|L.v (R1.build (vs:=[]) rfl built_S0) rfl<|L.storeBox rfl rfl E4 rfl rfl tyG28 ?_
      intro w10 E4' C10
      replace C0:=C0.old1 C10 K4;clear C10;replace E4:=E4'; clear E4'
      refine L.b rfl<|L.b rfl<|L.z<|W.ret<|X.thenRet<|X.result3 rfl (.cell rfl (loadVar_blk E4 tyG28) (.tmp rfl (.tmp rfl .nil))) ?_
      rw [phZ_cho ⟨q1,q2,q3,q4,q5⟩ hc48b J60]
      exact ⟨_,_,rfl,Lay.nil rfl,Lay.nil rfl,C0⟩
     intro J60
     simp only [Bool.not_eq_true',Bool.not_eq_false'] at J60
     have hsl:=setZ_len J60
     refine W.skip<|X.seq<|W.seq<|W.sr<|L.k rfl<|L.lL rfl hL Q22<|L.k rfl<|L.z<|W.block ?_
     refine W.loop (ι:=Nat) (fun i=>[(0,.slice TL cs.length tL),(3,.pointer (some ⟨g3,0,none⟩)),(4,.pointer (some ⟨g4,0,none⟩)),(9,v56),(62,.slice TL cs.length tL),(63,.int .i64 ((cs.length:Nat):Int)),(64,.int .i64 ((i:Nat):Int))]) (fun i w_=>Lay rdC (g7 :: g4 :: g3 :: M) w_ (.slice TL cs.length tL) cs∧Lay rdI (g7 :: g4 :: g3 :: M) w_ (.slice TO os.length tO) os∧Lay rdQ (g7 :: g4 :: g3 :: M) w_ (.slice TV val.length tV) val∧Bd (g7 :: g4 :: g3 :: M) w_∧Lay rdI (g4 :: M) w_ v56 (setZ (val.length:Int) cs os)∧Blk w_ g3 28 #[.slice TO os.length tO,.slice TV val.length tV]∧Blk w_ g4 28 #[.slice none 0 0,.slice none 0 0]∧i≤cs.length∧(∀ j,j<i→badB cs (setZ (val.length:Int) cs os) j=false)∧Mod [] w w_) (fun i=>cs.length - i) 0 ?_ ?_ ?_
     · repeat' constructor
     ·
      exact ⟨hL.su,hO.su,hv.su,hbd.su,hR.su,E3,E4,Nat.zero_le _,(fun j h=>by omega),C0⟩
     rintro i w11 ⟨hL,hO,hv,hbd,hR,E3,E4,hi,hno,C0⟩
     refine W.sr<|L.lt rfl rfl<|L.z<|W.seq<|W.cond rfl ?_ ?_
     ·
      intro J65
      try simp only [bq,ne_eq] at J65
      refine W.skip<|X.seq<|W.seq<|W.block<|W.sr<|L.k rfl<|L.aL (j:=i) rfl rfl hL Q22 rfl (by omega) ?_
      obtain ⟨z68,cs68,P68,V68,vt68,ds68,rfl,Y68,vn68,vd68,rfl,I68,H68⟩:=Lay.elemQ hL (j:=i) (by omega);obtain ⟨T68,t68,rfl⟩:=Y68.form;obtain ⟨A68,c68,rfl⟩:=I68.form;obtain ⟨B68,e68,rfl⟩:=H68.form
      refine L.v (R1.loadE rfl V68 tyG42) rfl<|L.alloc tyZ42 rfl ?_
      intro g12 w12 D12
      replace hL:=hL.new D12;replace hO:=hO.new D12;replace hv:=hv.new D12;replace hbd:=hbd.new D12;replace hR:=hR.new D12;have hne_g3_g12:=E3.ne_ D12;replace E3:=E3.gr D12.mod;have hne_g4_g12:=E4.ne_ D12;replace E4:=E4.gr D12.mod;have K12:=New.ge D12 C0.size;replace C0:=C0.tn D12;replace Y68:=Y68.new D12;replace I68:=I68.new D12;replace H68:=H68.new D12;have E12:=D12.blk;clear D12
      refine L.b rfl<|L.storeBox rfl rfl E12 rfl rfl tyG42 ?_
      intro w13 E12' C13
      replace hL:=hL.ms C13;replace hO:=hO.ms C13;replace hv:=hv.ms C13;replace hbd:=hbd.gr C13;replace hR:=hR.ms C13;replace E3:=E3.fr C13;replace E4:=E4.fr C13;replace C0:=C0.old1 C13 K12;replace Y68:=Y68.ms C13;replace I68:=I68.ms C13;replace H68:=H68.ms C13;clear C13;replace E12:=E12'; clear E12'
      refine L.z<|W.sr<|L.fA rfl tyF42_0<|L.lF rfl E12 rfl tyP3<|L.v ((R1.eq rfl rfl).asB (c:=(decide (z68.st=0))) (rfl)) rfl<|L.k rfl ?_
      cases W72:(decide (z68.st=0))
      ·
       try simp only [bq,ne_eq] at W72
       refine L.o rfl<|L.o rfl<|L.o rfl<|L.o rfl<|L.o rfl<|L.pF rfl rfl<|L.k rfl<|L.o rfl<|L.o rfl<|L.o rfl<|L.pF rfl rfl ?_
       refine L.z<|W.condF rfl<|W.skip<|X.blockEnd<|X.seq<|W.region<|L.inc rfl rfl (by omega)<|L.k rfl<|L.nil<|X.next (i + 1) ?_ ?_ ?_
       · repeat' constructor
       ·
        exact ⟨hL.su,hO.su,hv.su,hbd.su,hR.su,E3,E4,by omega,(fun j hj=>badB_snoc hno hj P68 (by rw [decide_eq_false W72,Bool.false_and])),C0⟩
       first | omega | (dsimp only; omega)
      try simp only [bq,ne_eq] at W72
      refine L.p rfl (R1.move rfl)<|L.p rfl (R1.move rfl)<|L.p rfl (R1.atLay (j:=i) rfl rfl hR Q26 rfl (by omega))<|L.p rfl (R1.loadLI rfl hR tyP3 (by omega) (getD_at _))<|L.p rfl ((R1.lt rfl rfl).asB (c:=(decide (((setZ (val.length:Int) cs os).getD i 0)<0))) (rfl))<|L.pT rfl rfl<|L.k rfl ?_
      cases W79:(decide (((setZ (val.length:Int) cs os).getD i 0)<0))
      ·
       try simp only [bq,ne_eq] at W79
       refine L.o rfl<|L.o rfl<|L.o rfl<|L.pF rfl rfl<|L.z<|W.condF rfl<|W.skip<|X.blockEnd<|X.seq<|W.region ?_
       refine L.inc rfl rfl (by omega)<|L.k rfl<|L.nil<|X.next (i + 1) ?_ ?_ ?_
       · repeat' constructor
       ·
        exact ⟨hL.su,hO.su,hv.su,hbd.su,hR.su,E3,E4,by omega,(fun j hj=>badB_snoc hno hj P68 (by rw [decide_eq_false (p:=((setZ (val.length:Int) cs os).getD i 0)<0) (by omega)]; simp)),C0⟩
       first | omega | (dsimp only; omega)
      try simp only [bq,ne_eq] at W79
      refine L.p rfl (R1.loadBox rfl E12 tyG42)<|L.callOn rfl rfl rfl rfl (c_idle Y68 I68 H68 hbd (hsmL _ (List.mem_of_getElem? P68))) rfl ?_
      rintro _ w14 ⟨rfl,C14⟩
      replace hL:=hL.gr C14;replace hO:=hO.gr C14;replace hv:=hv.gr C14;replace hbd:=hbd.gr C14;replace hR:=hR.gr C14;replace E3:=E3.gr C14;replace E4:=E4.gr C14;replace C0:=C0.trans C14;clear C14
      refine L.p rfl (R1.not rfl)<|L.pT rfl rfl<|L.z<|W.cond rfl ?_ ?_
      ·
       intro J83
       simp only [Bool.not_eq_true',Bool.not_eq_false'] at J83
       refine W.sr<|L.v (R1.build (vs:=[]) rfl built_S0) rfl<|L.k rfl<|L.storeBox rfl rfl E4 rfl rfl tyG28 ?_
       intro w15 E4' C15
       replace C0:=C0.old1 C15 K4;clear C15;replace E4:=E4'; clear E4'
       refine L.b rfl<|L.b rfl<|L.z<|W.ret<|X.blockRet<|X.thenRet<|X.nextRet<|X.blockRet<|X.thenRet<|X.result3 rfl (.cell rfl (loadVar_blk E4 tyG28) (.tmp rfl (.tmp rfl .nil))) ?_
       have E9:badB cs (setZ (val.length:Int) cs os) i=true:=by unfold badB; rw [getD_of_get P68,decide_eq_true W72,decide_eq_true (p:=((setZ (val.length:Int) cs os).getD i 0)<0) (by omega),J83]; rfl
       rw [phZ_bad ⟨q1,q2,q3,q4,q5⟩ hc48b J60 (badF_at (by omega) E9 hno)]
       exact ⟨_,_,rfl,Lay.nil rfl,Lay.nil rfl,C0⟩
      intro J83
      simp only [Bool.not_eq_true',Bool.not_eq_false'] at J83
      refine W.skip<|X.blockEnd<|X.seq<|W.region<|L.inc rfl rfl (by omega)<|L.k rfl<|L.nil<|X.next (i + 1) ?_ ?_ ?_
      · repeat' constructor
      ·
       exact ⟨hL.su,hO.su,hv.su,hbd.su,hR.su,E3,E4,by omega,(fun j hj=>badB_snoc hno hj P68 (by rw [J83]; simp)),C0⟩
      first | omega | (dsimp only; omega)
     intro J65
     try simp only [bq,ne_eq] at J65
     obtain rfl:i=cs.length:=by omega
     have hbad:=badF_no hno;have hph:=phZ_run ⟨q1,q2,q3,q4,q5⟩ hc48b J60 hbad
     refine W.brk<|W.sr<|L.k rfl<|L.k rfl<|L.fA rfl tyF28_1<|L.lF rfl E3 rfl tyP23 ?_
     refine L.c rfl (c_Run (hL.sub (M':=g4 :: M) (by intro b hb; simp only [List.mem_cons] at hb ⊢; grind)) hR (hv.sub (M':=g4 :: M) (by intro b hb; simp only [List.mem_cons] at hb ⊢; grind)) (hbd.sub (by intro b hb; simp only [List.mem_cons] at hb ⊢; grind)) hsm hsv) ?_
     rintro _ w16 ⟨v92,rfl,hQ,C16⟩
     replace hR:=hR.gr C16;replace E4:=E4.gr C16;replace C0:=C0.trans C16;clear C16
     refine L.k rfl<|L.ex rfl rfl<|L.ex rfl rfl<|L.ex rfl rfl<|L.b rfl<|L.b rfl<|L.b rfl<|L.z<|W.seq<|W.seq ?_
     refine W.region<|L.k rfl<|L.v ((R1.ne rfl rfl).asB (c:=(decide ((runZ cs (setZ (val.length:Int) cs os) val).2.2≠0))) (rfl)) rfl<|L.z<|W.cond rfl ?_ ?_
     ·
      intro J97
      try simp only [bq,ne_eq] at J97
      refine W.sr<|L.v (R1.build (vs:=[]) rfl built_S0) rfl<|L.k rfl<|L.k rfl<|L.storeBox rfl rfl E4 rfl rfl tyG28 ?_
      intro w17 E4' C17
      replace C0:=C0.old1 C17 K4;clear C17;replace E4:=E4'; clear E4'
      refine L.b rfl<|L.b rfl<|L.z<|W.ret<|X.thenRet<|X.result3 rfl (.cell rfl (loadVar_blk E4 tyG28) (.tmp rfl (.tmp rfl .nil))) ?_
      rw [if_pos J97] at hph
      rw [hph]
      exact ⟨_,_,rfl,Lay.nil rfl,Lay.nil rfl,C0⟩
     intro J97
     try simp only [bq,ne_eq] at J97
     refine W.skip<|X.seq<|W.sr<|L.k rfl<|L.k rfl<|L.v (R1.build (vs:=[v56,v92]) rfl (built_S9 (lay_form' hR) (lay_form' hQ) built_S2)) rfl<|L.storeBox rfl rfl E4 rfl (one_S (lay_form' hR) (lay_form' hQ)) tyG28 ?_
     intro w18 E4' C18
     replace hR:=hR.ms C18;replace C0:=C0.old1 C18 K4;replace hQ:=hQ.ms C18;clear C18;replace E4:=E4'; clear E4'
     refine L.b rfl<|L.b rfl<|L.z<|W.ret<|X.result3 rfl (.cell rfl (loadVar_blk E4 tyG28) (.tmp rfl (.tmp rfl .nil))) ?_
     rw [if_neg (by simpa using J97)] at hph
     rw [hph]
     exact ⟨_,_,rfl,hR.sub (by intro b hb; simp [hb]),hQ.sub (by intro b hb; simp [hb]),C0⟩
    try simp only [bq,ne_eq] at W38
    refine L.o rfl<|L.o rfl<|L.o rfl<|L.pT rfl rfl<|L.z<|W.condT rfl<|W.sr<|L.v (R1.build (vs:=[]) rfl built_S0) rfl<|L.storeBox rfl rfl E4 rfl rfl tyG28 ?_
    intro w19 E4' C19
    replace C0:=C0.old1 C19 K4;clear C19;replace E4:=E4'; clear E4'
    refine L.b rfl<|L.b rfl<|L.z<|W.ret<|X.thenRet<|X.result3 rfl (.cell rfl (loadVar_blk E4 tyG28) (.tmp rfl (.tmp rfl .nil))) ?_
    rw [phZ_no (by rintro ⟨h1,h2,h3,h4,h5⟩; first | omega | (obtain ⟨z,hz,P2⟩:=List.any_eq_true.1 J42; rw [h5 z hz] at P2; exact absurd P2 (by decide)))]
    exact ⟨_,_,rfl,Lay.nil rfl,Lay.nil rfl,C0⟩
   try simp only [bq,ne_eq] at W30
   refine L.o rfl<|L.o rfl<|L.o rfl<|L.o rfl<|L.o rfl<|L.o rfl<|L.pT rfl rfl<|L.k rfl<|L.o rfl<|L.o rfl<|L.o rfl ?_
   refine L.pT rfl rfl<|L.z<|W.condT rfl<|W.sr<|L.v (R1.build (vs:=[]) rfl built_S0) rfl<|L.storeBox rfl rfl E4 rfl rfl tyG28 ?_
   intro w20 E4' C20
   replace C0:=C0.old1 C20 K4;clear C20;replace E4:=E4'; clear E4'
   refine L.b rfl<|L.b rfl<|L.z<|W.ret<|X.thenRet<|X.result3 rfl (.cell rfl (loadVar_blk E4 tyG28) (.tmp rfl (.tmp rfl .nil))) ?_
   rw [phZ_no (by rintro ⟨h1,h2,h3,h4,h5⟩; first | omega | (obtain ⟨z,hz,P2⟩:=List.any_eq_true.1 J42; rw [h5 z hz] at P2; exact absurd P2 (by decide)))]
   exact ⟨_,_,rfl,Lay.nil rfl,Lay.nil rfl,C0⟩
  try simp only [bq,ne_eq] at W25
  refine L.o rfl<|L.o rfl<|L.o rfl<|L.pT rfl rfl<|L.k rfl<|L.o rfl<|L.o rfl<|L.o rfl<|L.o rfl<|L.o rfl<|L.o rfl ?_
  refine L.pT rfl rfl<|L.k rfl<|L.o rfl<|L.o rfl<|L.o rfl<|L.pT rfl rfl<|L.z<|W.condT rfl<|W.seq<|W.region ?_
  refine L.v (R1.build (vs:=[]) rfl built_S0) rfl<|L.storeBox rfl rfl E4 rfl rfl tyG28 ?_
  intro w21 E4' C21
  replace C0:=C0.old1 C21 K4;clear C21;replace E4:=E4'; clear E4'
  refine L.b rfl<|L.b rfl<|L.z<|W.ret<|X.thenRet<|X.result3 rfl (.cell rfl (loadVar_blk E4 tyG28) (.tmp rfl (.tmp rfl .nil))) ?_
  rw [phZ_no (by rintro ⟨h1,h2,h3,h4,h5⟩; first | omega | (obtain ⟨z,hz,P2⟩:=List.any_eq_true.1 J42; rw [h5 z hz] at P2; exact absurd P2 (by decide)))]
  exact ⟨_,_,rfl,Lay.nil rfl,Lay.nil rfl,C0⟩
 try simp only [bq,ne_eq] at W21
 refine L.o rfl<|L.o rfl<|L.pT rfl rfl<|L.k rfl<|L.o rfl<|L.o rfl<|L.o rfl<|L.pT rfl rfl<|L.k rfl<|L.o rfl<|L.o rfl ?_
 refine L.o rfl<|L.o rfl<|L.o rfl<|L.o rfl<|L.pT rfl rfl<|L.k rfl<|L.o rfl<|L.o rfl<|L.o rfl<|L.pT rfl rfl<|L.nil ?_
 refine X.seq<|W.condT rfl<|W.sr<|L.v (R1.build (vs:=[]) rfl built_S0) rfl<|L.storeBox rfl rfl E4 rfl rfl tyG28 ?_
 intro w22 E4' C22
 replace C0:=C0.old1 C22 K4;clear C22;replace E4:=E4'; clear E4'
 refine L.b rfl<|L.b rfl<|L.z<|W.ret<|X.thenRet<|X.result3 rfl (.cell rfl (loadVar_blk E4 tyG28) (.tmp rfl (.tmp rfl .nil))) ?_
 rw [phZ_no (by rintro ⟨h1,h2,h3,h4,h5⟩; first | omega | (obtain ⟨z,hz,P2⟩:=List.any_eq_true.1 J42; rw [h5 z hz] at P2; exact absurd P2 (by decide)))]
 exact ⟨_,_,rfl,Lay.nil rfl,Lay.nil rfl,C0⟩
end Go.Proofs.YthoooolflmbmbaaGreat
end
section
namespace Go.Proofs.YthoooolflmbmbaaGreat
open Go.RowKit
set_option linter.unusedVariables false
set_option linter.unusedSimpArgs false
set_option maxRecDepth 10000
theorem built_T0:Tryz.prog.built 33 []=some #[.slice none 0 0,.slice none 0 0]:=by kernel_rfl
theorem built_T2 (A:Option Addr) (k c:Nat) (B:Option Addr) (m d:Nat):Tryz.prog.built 33 [(0,.slice A k c),(1,.slice B m d)]=some #[.slice A k c,.slice B m d]:=by kernel_rfl
theorem c_may {M : List Nat} {w : World} {vl vo vv : Value} {cs : List CR} {os : List Int} {val : List QR} (hL : Lay rdC M w vl cs) (hO : Lay rdI M w vo os) (hv : Lay rdQ M w vv val) (hbd : Bd M w) (hsm : ∀ c ∈ cs, SmC 150 c) (hsv : ∀ q ∈ val, SmQ 16 q) :
    Ret Tryz.prog 19 #[vl,.agg #[vo,vv]] w (fun r w'=>r=.bool (decide (mayP cs os val.length))∧Mod [] w w'):=by
 obtain ⟨TL,tL,rfl⟩:=hL.form;obtain ⟨TO,tO,rfl⟩:=hO.form;obtain ⟨TV,tV,rfl⟩:=hv.form;have hmaxL:=hL.max; unfold maxLen at hmaxL;have hmaxO:=hO.max; unfold maxLen at hmaxO;have hmaxV:=hv.max; unfold maxLen at hmaxV
 have hsmL:∀ c∈cs,SmC 1099511627776 c:=fun c hc=>smC_up (hsm c hc) (by decide)
 refine Ret.of (vs:=[.slice TL cs.length tL,.agg #[.slice TO os.length tO,.slice TV val.length tV]]) (n:=42) Tryz.func19 rfl rfl rfl rfl ?_
 have C0:Mod [] w w:=Mod.refl _ _
 refine W.sr<|L.box rfl rfl ?_
 intro g3 w1 D3
 replace hL:=hL.new D3;replace hO:=hO.new D3;replace hv:=hv.new D3;replace hbd:=hbd.new D3;replace C0:=C0.tn D3;have E3:=D3.blk;clear D3
 refine L.b rfl<|L.z<|W.sr<|L.fA rfl tyF33_1<|L.lF rfl E3 rfl tyP23<|L.lL rfl hv Q23<|L.b rfl<|L.z ?_
 refine W.seq<|W.sr<|L.k rfl<|L.v ((R1.lt rfl rfl).asB (c:=(decide ((val.length:Int)<1))) (rfl)) rfl<|L.k rfl ?_
 cases W12:(decide ((val.length:Int)<1))
 ·
  try simp only [bq,ne_eq] at W12
  refine L.p rfl (R1.move rfl)<|L.p rfl ((R1.gt rfl rfl).asB (c:=(decide (64<(val.length:Int)))) (rfl))<|L.pF rfl rfl<|L.k rfl ?_
  cases W16:(decide (64<(val.length:Int)))
  ·
   try simp only [bq,ne_eq] at W16
   refine L.p rfl (R1.move rfl)<|L.p rfl (R1.lenLay rfl hL Q22)<|L.p rfl ((R1.gt rfl rfl).asB (c:=(decide ((256:Int)<(cs.length:Int)))) (rfl))<|L.pF rfl rfl<|L.k rfl ?_
   cases W21:(decide ((256:Int)<(cs.length:Int)))
   ·
    try simp only [bq,ne_eq] at W21
    refine L.p rfl (R1.fieldAt rfl tyF33_0)<|L.p rfl (R1.loadFld rfl E3 rfl tyP26)<|L.p rfl (R1.lenLay rfl hO Q26)<|L.p rfl (R1.move rfl)<|L.p rfl (R1.lenLay rfl hL Q22)<|L.p rfl ((R1.ne rfl rfl).asB (c:=(decide ((os.length:Int)≠(cs.length:Int)))) (rfl))<|L.pF rfl rfl<|L.z<|W.cond rfl ?_ ?_
    ·
     intro J28
     try simp only [bq,ne_eq] at J28
     refine W.sr<|L.b rfl<|L.z<|W.ret<|X.thenRet<|X.result1 rfl (.tmp rfl .nil) ?_
     rw [decide_eq_false (by rintro ⟨h1,h2,h3,h4,_⟩; omega)]
     exact ⟨rfl,C0⟩
    intro J28
    try simp only [bq,ne_eq] at J28
    refine W.skip<|X.seq<|W.seq<|W.sr<|L.b rfl<|L.z<|W.block<|W.loop (ι:=Nat) (fun i=>[(0,.slice TL cs.length tL),(5,.int .i64 ((val.length:Nat):Int)),(6,.int .i64 ((i:Nat):Int))]) (fun i w_=>Lay rdC (g3 :: M) w_ (.slice TL cs.length tL) cs∧Bd (g3 :: M) w_∧i≤cs.length∧(∀ c∈cs.take i,isC c (val.length:Int)=true)∧Mod [] w w_) (fun i=>cs.length - i) 0 ?_ ?_ ?_
    · exact ⟨rfl,rfl,rfl,trivial⟩
    ·
     exact ⟨hL.su,hbd.su,Nat.zero_le _,(fun c h=>by simp at h),C0⟩
    rintro i w2 ⟨hL,hbd,hi,hall,C0⟩
    refine W.seq<|W.sr<|L.k rfl<|L.k rfl<|L.lL rfl hL Q22<|L.lt rfl rfl<|L.z<|W.cond rfl ?_ ?_
    ·
     intro J32
     try simp only [bq,ne_eq] at J32
     refine W.skip<|X.seq<|W.seq<|W.block<|W.sr<|L.k rfl<|L.k rfl<|L.aL (j:=i) rfl rfl hL Q22 rfl (by omega) ?_
     obtain ⟨z38,cs38,P38,V38,vt38,ds38,rfl,Y38,vn38,vd38,rfl,I38,H38⟩:=Lay.elemQ hL (j:=i) (by omega);obtain ⟨T38,t38,rfl⟩:=Y38.form;obtain ⟨A38,c38,rfl⟩:=I38.form;obtain ⟨B38,e38,rfl⟩:=H38.form
     refine L.v (R1.loadE rfl V38 tyG42) rfl<|L.k rfl<|L.c rfl (c_ref8_Is Y38 I38 H38 (n:=(val.length:Int)) (by omega) hbd (hsmL _ (List.mem_of_getElem? P38))) ?_
     rintro _ w3 ⟨rfl,C3⟩
     replace hL:=hL.gr C3;replace hbd:=hbd.gr C3;replace C0:=C0.trans C3;clear C3
     refine L.v (R1.not rfl) rfl<|L.z<|W.cond rfl ?_ ?_
     ·
      intro J41
      simp only [Bool.not_eq_true',Bool.not_eq_false'] at J41
      refine W.sr<|L.b rfl<|L.z<|W.ret<|X.blockRet<|X.thenRet<|X.nextRet<|X.blockRet<|X.thenRet ?_
      refine X.result1 rfl (.tmp rfl .nil) ?_
      rw [decide_eq_false (by rintro ⟨_,_,_,_,h5⟩; rw [h5 _ (List.mem_of_getElem? P38)] at J41; exact absurd J41 (by decide))]
      exact ⟨rfl,C0⟩
     intro J41
     simp only [Bool.not_eq_true',Bool.not_eq_false'] at J41
     refine W.skip<|X.blockEnd<|X.seq<|W.region<|L.k rfl<|L.inc rfl rfl (by omega)<|L.b rfl<|L.nil<|X.next (i + 1) ?_ ?_ ?_
     · exact ⟨rfl,rfl,rfl,trivial⟩
     ·
      refine ⟨hL,hbd,by omega,fun c hc=>?_,C0⟩
      obtain ⟨hk9,he9⟩:=List.getElem?_eq_some_iff.1 P38
      rw [List.take_succ_eq_append_getElem hk9,he9] at hc
      rcases List.mem_append.1 hc with h9 | h9
      · exact hall c h9
      rw [List.mem_singleton.1 h9]; exact J41
     first | omega | (dsimp only; omega)
    intro J32
    try simp only [bq,ne_eq] at J32
    obtain rfl:i=cs.length:=by omega
    refine W.brk<|W.sr<|L.b rfl<|L.z<|W.ret ?_
    refine X.result1 rfl (.tmp rfl .nil) ?_
    rw [List.take_length] at hall
    rw [decide_eq_true (show mayP cs os val.length from ⟨by omega,by omega,by omega,by omega,hall⟩)]
    exact ⟨rfl,C0⟩
   try simp only [bq,ne_eq] at W21
   refine L.o rfl<|L.o rfl<|L.o rfl<|L.o rfl<|L.o rfl<|L.o rfl<|L.pT rfl rfl<|L.z<|W.condT rfl<|W.seq ?_
   refine W.region<|L.b rfl<|L.z<|W.ret<|X.thenRet<|X.result1 rfl (.tmp rfl .nil) ?_
   rw [decide_eq_false (by rintro ⟨h1,h2,h3,h4,_⟩; omega)]
   exact ⟨rfl,C0⟩
  try simp only [bq,ne_eq] at W16
  refine L.o rfl<|L.o rfl<|L.o rfl<|L.pT rfl rfl<|L.k rfl<|L.o rfl<|L.o rfl<|L.o rfl<|L.o rfl<|L.o rfl<|L.o rfl ?_
  refine L.pT rfl rfl<|L.z<|W.condT rfl<|W.sr<|L.b rfl<|L.z<|W.ret<|X.thenRet ?_
  refine X.result1 rfl (.tmp rfl .nil) ?_
  rw [decide_eq_false (by rintro ⟨h1,h2,h3,h4,_⟩; omega)]
  exact ⟨rfl,C0⟩
 try simp only [bq,ne_eq] at W12
 refine L.o rfl<|L.o rfl<|L.pT rfl rfl<|L.k rfl<|L.o rfl<|L.o rfl<|L.o rfl<|L.pT rfl rfl<|L.k rfl<|L.o rfl<|L.o rfl ?_
 refine L.o rfl<|L.o rfl<|L.o rfl<|L.o rfl<|L.pT rfl rfl<|L.z<|W.condT rfl<|W.sr<|L.b rfl ?_
 refine L.z<|W.ret<|X.thenRet<|X.result1 rfl (.tmp rfl .nil) ?_
 rw [decide_eq_false (by rintro ⟨h1,h2,h3,h4,_⟩; omega)]
 exact ⟨rfl,C0⟩
set_option maxHeartbeats 1000000 in
theorem c_r15_Phase {M : List Nat} {w : World} {vl vo vv : Value} {cs : List CR} {os : List Int} {val : List QR} (hL : Lay rdC M w vl cs) (hO : Lay rdI M w vo os) (hv : Lay rdQ M w vv val) (hbd : Bd M w) (hsm : ∀ c ∈ cs, SmC 150 c) (hsv : ∀ q ∈ val, SmQ 16 q) :
    Ret Tryz.prog 8 #[vl,.agg #[vo,vv]] w (fun r w'=>∃ a b,r=.tuple #[.agg #[a,b],.int .i64 (phZ cs os val).2.1,.int .i64 (phZ cs os val).2.2]∧Lay rdI [] w' a (phZ cs os val).1.1∧Lay rdQ [] w' b (phZ cs os val).1.2∧Mod [] w w'):=by
 obtain ⟨TL,tL,rfl⟩:=hL.form;obtain ⟨TO,tO,rfl⟩:=hO.form;obtain ⟨TV,tV,rfl⟩:=hv.form;have hmaxL:=hL.max; unfold maxLen at hmaxL;have hmaxO:=hO.max; unfold maxLen at hmaxO;have hmaxV:=hv.max; unfold maxLen at hmaxV
 have hsmL:∀ c∈cs,SmC 1099511627776 c:=fun c hc=>smC_up (hsm c hc) (by decide)
 refine Ret.of (vs:=[.slice TL cs.length tL,.agg #[.slice TO os.length tO,.slice TV val.length tV]]) (n:=87) Tryz.func8 rfl rfl rfl rfl ?_
 have C0:Mod [] w w:=Mod.refl _ _
 refine W.sr<|L.box rfl rfl ?_
 intro g3 w1 D3
 replace hL:=hL.new D3;replace hO:=hO.new D3;replace hv:=hv.new D3;replace hbd:=hbd.new D3;replace C0:=C0.tn D3;have E3:=D3.blk;clear D3
 refine L.alloc tyZ33 rfl ?_
 intro g4 w2 D4
 replace hL:=hL.new D4;replace hO:=hO.new D4;replace hv:=hv.new D4;replace hbd:=hbd.new D4;have K4:=New.ge D4 C0.size;replace C0:=C0.tn D4;replace E3:=E3.gr D4.mod;have E4:=D4.blk;clear D4
 refine L.b rfl<|L.b rfl<|L.z<|W.sr<|L.fA rfl tyF33_1<|L.lF rfl E3 rfl tyP23<|L.lL rfl hv Q23<|L.b rfl<|L.nil ?_
 refine X.seq<|W.seq<|W.sr<|L.k rfl<|L.v (R1.loadBox rfl E3 tyG33) rfl<|L.c rfl (c_may hL hO hv hbd hsm hsv) ?_
 rintro _ w3 ⟨rfl,C3⟩
 replace hL:=hL.gr C3;replace hO:=hO.gr C3;replace hv:=hv.gr C3;replace hbd:=hbd.gr C3;replace C0:=C0.trans C3;replace E3:=E3.gr C3;replace E4:=E4.gr C3;clear C3
 refine L.v (R1.not rfl) rfl<|L.z<|W.cond rfl ?_ ?_
 ·
  intro J21
  simp only [Bool.not_eq_true',Bool.not_eq_false'] at J21
  have hmay:=of_decide_eq_false J21
  refine W.sr<|L.v (R1.build (vs:=[]) rfl built_T0) rfl<|L.storeBox rfl rfl E4 rfl rfl tyG33 ?_
  intro w4 E4' C4
  replace C0:=C0.old1 C4 K4;clear C4;replace E4:=E4'; clear E4'
  refine L.b rfl<|L.b rfl<|L.z<|W.ret<|X.thenRet<|X.result3 rfl (.cell rfl (loadVar_blk E4 tyG33) (.tmp rfl (.tmp rfl .nil))) ?_
  rw [phZ_no hmay]
  exact ⟨_,_,rfl,Lay.nil rfl,Lay.nil rfl,C0⟩
 intro J21
 simp only [Bool.not_eq_true',Bool.not_eq_false'] at J21
 have hmay:=of_decide_eq_true J21
 have hh9:held (val.length:Int)=val.length:=held_eq hmay.2.1
 have hmay9:=hmay;obtain ⟨q1,q2,q3,q4,q5⟩:=hmay9
 refine W.skip<|X.seq<|W.sr<|L.k rfl<|L.k rfl<|L.c rfl (c_r11_First hL hbd hsmL) ?_
 rintro _ w5 ⟨rfl,C5⟩
 replace hL:=hL.gr C5;replace hO:=hO.gr C5;replace hv:=hv.gr C5;replace hbd:=hbd.gr C5;replace C0:=C0.trans C5;replace E3:=E3.gr C5;replace E4:=E4.gr C5;clear C5
 refine L.b rfl<|L.z<|W.seq<|W.sr<|L.k rfl<|L.v ((R1.ge rfl rfl).asB (c:=(decide (firstW (List.range (held (val.length:Int))) (wsOf (held (val.length:Int)) cs) 0≠none))) (fi_geq _)) rfl<|L.z<|W.cond rfl ?_ ?_
 ·
  intro J27
  try simp only [bq,ne_eq] at J27
  rw [hh9] at J27
  obtain ⟨ir,hir⟩:=Option.ne_none_iff_exists'.1 J27
  refine W.sr<|L.v (R1.build (vs:=[]) rfl built_T0) rfl<|L.k rfl<|L.storeBox rfl rfl E4 rfl rfl tyG33 ?_
  intro w6 E4' C6
  replace C0:=C0.old1 C6 K4;clear C6;replace E4:=E4'; clear E4'
  refine L.b rfl<|L.b rfl<|L.z<|W.ret<|X.thenRet<|X.result3 rfl (.cell rfl (loadVar_blk E4 tyG33) (.tmp rfl (.tmp rfl .nil))) ?_
  rw [hh9,hir]
  rw [phZ_ring hmay hir]
  exact ⟨_,_,rfl,Lay.nil rfl,Lay.nil rfl,C0⟩
 intro J27
 try simp only [bq,ne_eq] at J27
 have hc27b:firstW (List.range val.length) (wsOf val.length cs) 0=none:=by rw [hh9] at J27; simpa using J27
 refine W.skip<|X.seq<|W.sr<|L.k rfl<|L.fA rfl tyF33_0<|L.lF rfl E3 rfl tyP26<|L.k rfl ?_
 have hlt4:=Blk.lt E4
 refine L.c rfl (c_r13_Settle hL hO hbd hsmL (by omega)) ?_
 rintro _ w7 ⟨v35,rfl,O35,C7⟩
 replace hL:=hL.gr C7;replace hO:=hO.gr C7;replace hv:=hv.gr C7;replace hbd:=hbd.gr C7;replace C0:=C0.trans C7;replace E3:=E3.gr C7;replace E4:=E4.gr C7;clear C7;have hR:=Lay.of_Z (M:=[g4]) O35 (fun g h1 h2=>by have:=(own_ge O35 g h1).1; rw [List.mem_singleton.1 h2] at this; omega);clear O35
 refine L.k rfl<|L.ex rfl rfl<|L.ex rfl rfl<|L.b rfl<|L.b rfl<|L.z<|W.seq<|W.sr<|L.k rfl ?_
 refine L.v (R1.not rfl) rfl<|L.z<|W.cond rfl ?_ ?_
 ·
  intro J39
  simp only [Bool.not_eq_true',Bool.not_eq_false'] at J39
  refine W.sr<|L.v (R1.build (vs:=[]) rfl built_T0) rfl<|L.storeBox rfl rfl E4 rfl rfl tyG33 ?_
  intro w8 E4' C8
  replace C0:=C0.old1 C8 K4;clear C8;replace E4:=E4'; clear E4'
  refine L.b rfl<|L.b rfl<|L.z<|W.ret<|X.thenRet<|X.result3 rfl (.cell rfl (loadVar_blk E4 tyG33) (.tmp rfl (.tmp rfl .nil))) ?_
  rw [phZ_cho hmay hc27b J39]
  exact ⟨_,_,rfl,Lay.nil rfl,Lay.nil rfl,C0⟩
 intro J39
 simp only [Bool.not_eq_true',Bool.not_eq_false'] at J39
 have hsl:=setZ_len J39
 refine W.skip<|X.seq<|W.seq<|W.sr<|L.b rfl<|L.z<|W.block<|W.loop (ι:=Nat) (fun i=>[(0,.slice TL cs.length tL),(3,.pointer (some ⟨g3,0,none⟩)),(4,.pointer (some ⟨g4,0,none⟩)),(9,v35),(11,.int .i64 ((i:Nat):Int))]) (fun i w_=>Lay rdC (g4 :: g3 :: M) w_ (.slice TL cs.length tL) cs∧Lay rdI (g4 :: g3 :: M) w_ (.slice TO os.length tO) os∧Lay rdQ (g4 :: g3 :: M) w_ (.slice TV val.length tV) val∧Bd (g4 :: g3 :: M) w_∧Lay rdI [g4] w_ v35 (setZ (val.length:Int) cs os)∧Blk w_ g3 33 #[.slice TO os.length tO,.slice TV val.length tV]∧Blk w_ g4 33 #[.slice none 0 0,.slice none 0 0]∧i≤cs.length∧(∀ j,j<i→badB cs (setZ (val.length:Int) cs os) j=false)∧Mod [] w w_) (fun i=>cs.length - i) 0 ?_ ?_ ?_
 · repeat' constructor
 ·
  exact ⟨hL.su,hO.su,hv.su,hbd.su,hR.su,E3,E4,Nat.zero_le _,(fun j h=>by omega),C0⟩
 rintro i w9 ⟨hL,hO,hv,hbd,hR,E3,E4,hi,hno,C0⟩
 refine W.seq<|W.sr<|L.k rfl<|L.k rfl<|L.lL rfl hL Q22<|L.lt rfl rfl<|L.z<|W.cond rfl ?_ ?_
 ·
  intro J44
  try simp only [bq,ne_eq] at J44
  refine W.skip<|X.seq<|W.seq<|W.block<|W.sr<|L.k rfl<|L.k rfl<|L.aL (j:=i) rfl rfl hL Q22 rfl (by omega)<|L.v (R1.fieldAddr rfl tyF42_0) rfl ?_
  obtain ⟨z51,cs51,P51,V51,vt51,ds51,rfl,Y51,vn51,vd51,rfl,I51,H51⟩:=Lay.elemQ hL (j:=i) (by omega);obtain ⟨T51,t51,rfl⟩:=Y51.form;obtain ⟨A51,c51,rfl⟩:=I51.form;obtain ⟨B51,e51,rfl⟩:=H51.form
  refine L.v (R1.loadEF rfl V51 rfl tyP3) rfl<|L.v ((R1.eq rfl rfl).asB (c:=(decide (z51.st=0))) (rfl)) rfl<|L.k rfl ?_
  cases W53:(decide (z51.st=0))
  ·
   try simp only [bq,ne_eq] at W53
   refine L.o rfl<|L.o rfl<|L.o rfl<|L.o rfl<|L.o rfl<|L.pF rfl rfl<|L.k rfl<|L.o rfl<|L.o rfl<|L.o rfl<|L.o rfl ?_
   refine L.o rfl<|L.o rfl<|L.pF rfl rfl<|L.z<|W.condF rfl<|W.skip<|X.blockEnd<|X.seq<|W.region<|L.k rfl ?_
   refine L.inc rfl rfl (by omega)<|L.b rfl<|L.nil<|X.next (i + 1) ?_ ?_ ?_
   · repeat' constructor
   ·
    exact ⟨hL.su,hO.su,hv.su,hbd.su,hR.su,E3,E4,by omega,(fun j hj=>badB_snoc hno hj P51 (by rw [decide_eq_false W53,Bool.false_and])),C0⟩
   first | omega | (dsimp only; omega)
  try simp only [bq,ne_eq] at W53
  refine L.p rfl (R1.move rfl)<|L.p rfl (R1.move rfl)<|L.p rfl (R1.atLay (j:=i) rfl rfl hR Q26 rfl (by omega))<|L.p rfl (R1.loadLI rfl hR tyP3 (by omega) (getD_at _))<|L.p rfl ((R1.lt rfl rfl).asB (c:=(decide (((setZ (val.length:Int) cs os).getD i 0)<0))) (rfl))<|L.pT rfl rfl<|L.k rfl ?_
  cases W60:(decide (((setZ (val.length:Int) cs os).getD i 0)<0))
  ·
   try simp only [bq,ne_eq] at W60
   refine L.o rfl<|L.o rfl<|L.o rfl<|L.o rfl<|L.o rfl<|L.o rfl<|L.pF rfl rfl<|L.z<|W.condF rfl<|W.skip ?_
   refine X.blockEnd<|X.seq<|W.region<|L.k rfl<|L.inc rfl rfl (by omega)<|L.b rfl<|L.nil<|X.next (i + 1) ?_ ?_ ?_
   · repeat' constructor
   ·
    exact ⟨hL.su,hO.su,hv.su,hbd.su,hR.su,E3,E4,by omega,(fun j hj=>badB_snoc hno hj P51 (by rw [decide_eq_false (p:=((setZ (val.length:Int) cs os).getD i 0)<0) (by omega)]; simp)),C0⟩
   first | omega | (dsimp only; omega)
  try simp only [bq,ne_eq] at W60
  refine L.p rfl (R1.move rfl)<|L.p rfl (R1.move rfl)<|L.p rfl (R1.atLay (j:=i) rfl rfl hL Q22 rfl (by omega)) ?_
  obtain ⟨z64,cs64,P64,V64,vt64,ds64,rfl,Y64,vn64,vd64,rfl,I64,H64⟩:=Lay.elemQ hL (j:=i) (by omega);obtain ⟨T64,t64,rfl⟩:=Y64.form;obtain ⟨A64,c64,rfl⟩:=I64.form;obtain ⟨B64,e64,rfl⟩:=H64.form
  obtain rfl:z51=z64:=by have h9:=P64; rw [P51] at h9; injection h9
  refine L.p rfl (R1.loadE rfl V64 tyG42)<|L.callOn rfl rfl rfl rfl (c_r15_Empty Y64 I64 H64 hbd (hsmL _ (List.mem_of_getElem? P51))) rfl ?_
  rintro _ w10 ⟨rfl,C10⟩
  replace hL:=hL.gr C10;replace hO:=hO.gr C10;replace hv:=hv.gr C10;replace hbd:=hbd.gr C10;replace hR:=hR.gr C10;replace E3:=E3.gr C10;replace E4:=E4.gr C10;replace C0:=C0.trans C10;clear C10
  refine L.p rfl (R1.not rfl)<|L.pT rfl rfl<|L.z<|W.cond rfl ?_ ?_
  ·
   intro J67
   simp only [Bool.not_eq_true',Bool.not_eq_false'] at J67
   refine W.sr<|L.v (R1.build (vs:=[]) rfl built_T0) rfl<|L.k rfl<|L.storeBox rfl rfl E4 rfl rfl tyG33 ?_
   intro w11 E4' C11
   replace C0:=C0.old1 C11 K4;clear C11;replace E4:=E4'; clear E4'
   refine L.b rfl<|L.b rfl<|L.z<|W.ret<|X.blockRet<|X.thenRet<|X.nextRet<|X.blockRet<|X.thenRet<|X.result3 rfl (.cell rfl (loadVar_blk E4 tyG33) (.tmp rfl (.tmp rfl .nil))) ?_
   have E9:badB cs (setZ (val.length:Int) cs os) i=true:=by unfold badB; rw [getD_of_get P51,decide_eq_true W53,decide_eq_true (p:=((setZ (val.length:Int) cs os).getD i 0)<0) (by omega),J67]; rfl
   rw [phZ_bad hmay hc27b J39 (badF_at (by omega) E9 hno)]
   exact ⟨_,_,rfl,Lay.nil rfl,Lay.nil rfl,C0⟩
  intro J67
  simp only [Bool.not_eq_true',Bool.not_eq_false'] at J67
  refine W.skip<|X.blockEnd<|X.seq<|W.region<|L.k rfl<|L.inc rfl rfl (by omega)<|L.b rfl<|L.nil<|X.next (i + 1) ?_ ?_ ?_
  · repeat' constructor
  ·
   exact ⟨hL.su,hO.su,hv.su,hbd.su,hR.su,E3,E4,by omega,(fun j hj=>badB_snoc hno hj P51 (by rw [J67]; simp)),C0⟩
  first | omega | (dsimp only; omega)
 intro J44
 try simp only [bq,ne_eq] at J44
 obtain rfl:i=cs.length:=by omega
 have hbad:=badF_no hno;have hph:=phZ_run hmay hc27b J39 hbad
 refine W.brk<|W.sr<|L.k rfl<|L.k rfl<|L.fA rfl tyF33_1<|L.lF rfl E3 rfl tyP23 ?_
 refine L.c rfl (c_r14_Run (hL.sub (M':=[g4]) (by simp)) hR (hv.sub (M':=[g4]) (by simp)) (hbd.sub (by simp)) hsm hsv) ?_
 rintro _ w12 ⟨v75,rfl,hQ,C12⟩
 replace hR:=hR.gr C12;replace E4:=E4.gr C12;replace C0:=C0.trans C12;clear C12
 refine L.k rfl<|L.ex rfl rfl<|L.ex rfl rfl<|L.ex rfl rfl<|L.b rfl<|L.b rfl<|L.b rfl<|L.z<|W.seq<|W.seq ?_
 refine W.region<|L.k rfl<|L.v ((R1.ne rfl rfl).asB (c:=(decide ((runZ cs (setZ (val.length:Int) cs os) val).2.2≠0))) (rfl)) rfl<|L.z<|W.cond rfl ?_ ?_
 ·
  intro J80
  try simp only [bq,ne_eq] at J80
  refine W.sr<|L.v (R1.build (vs:=[]) rfl built_T0) rfl<|L.k rfl<|L.k rfl<|L.storeBox rfl rfl E4 rfl rfl tyG33 ?_
  intro w13 E4' C13
  replace C0:=C0.old1 C13 K4;clear C13;replace E4:=E4'; clear E4'
  refine L.b rfl<|L.b rfl<|L.z<|W.ret<|X.thenRet<|X.result3 rfl (.cell rfl (loadVar_blk E4 tyG33) (.tmp rfl (.tmp rfl .nil))) ?_
  rw [if_pos J80] at hph
  rw [hph]
  exact ⟨_,_,rfl,Lay.nil rfl,Lay.nil rfl,C0⟩
 intro J80
 try simp only [bq,ne_eq] at J80
 refine W.skip<|X.seq<|W.sr<|L.k rfl<|L.k rfl<|L.v (R1.build (vs:=[v35,v75]) rfl (built_S9 (lay_form' hR) (lay_form' hQ) built_T2)) rfl<|L.storeBox rfl rfl E4 rfl (one_S (lay_form' hR) (lay_form' hQ)) tyG33 ?_
 intro w14 E4' C14
 replace hR:=hR.ms C14;replace C0:=C0.old1 C14 K4;replace hQ:=hQ.ms C14;clear C14;replace E4:=E4'; clear E4'
 refine L.b rfl<|L.b rfl<|L.z<|W.ret<|X.result3 rfl (.cell rfl (loadVar_blk E4 tyG33) (.tmp rfl (.tmp rfl .nil))) ?_
 rw [if_neg (by simpa using J80)] at hph
 rw [hph]
 exact ⟨_,_,rfl,hR.sub (by simp),hQ.sub (by simp),C0⟩
end Go.Proofs.YthoooolflmbmbaaGreat
end
