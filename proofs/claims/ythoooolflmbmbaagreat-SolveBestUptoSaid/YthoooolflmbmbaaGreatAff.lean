/- Walks: what the functions compute. -/
import Derived.Test.YthoooolflmbmbaaGreatRatI
import Derived.Test.YthoooolflmbmbaaGreatLay
namespace Go.Proofs.YthoooolflmbmbaaGreat
open Go.RowKit
set_option linter.unusedVariables false
set_option linter.unusedSimpArgs false
set_option maxRecDepth 10000
def isT (n:Int):Int→List TR→Bool
  | _,[]=>true
  | least,t :: r=>decide (least≤t.v) && (decide (t.v<n) && (t.c.is && (decide (t.c.n.length≠0) && isT n (t.v + 1) r)))
def isC (c:CR) (n:Int):Bool:=decide (0≤c.st) && (decide (c.st≤4) && (c.k.is && isT n 0 c.ts))
def SmQ (L:Nat) (q:QR):Prop:=q.n.length≤L∧q.d.length≤L
def SmC (L:Nat) (c:CR):Prop:=c.ts.length≤L∧SmQ L c.k∧∀ t∈c.ts,SmQ L t.c
theorem drop_get {α:Type} {ts:List α} {i:Nat} {z:α} (hz:ts[i]?=some z):ts.drop i=z :: ts.drop (i + 1):=by
  obtain ⟨hi,rfl⟩:=List.getElem?_eq_some_iff.1 hz
  exact List.drop_eq_getElem_cons hi
theorem isT_bad {n least:Int} {ts:List TR} {i:Nat} {z:TR} (hz:ts[i]?=some z) (h:isT n 0 ts=isT n least (ts.drop i)) (hb:z.v<least∨n≤z.v∨z.c.is=false∨z.c.n.length=0):isT n 0 ts=false:=by
  rw [h,drop_get hz,isT]
  rcases hb with hb | hb | hb | hb
  · rw [decide_eq_false (by omega)]; rfl
  · rw [decide_eq_false (p:=z.v<n) (by omega)]; simp
  · rw [hb]; simp
  rw [decide_eq_false (p:=z.c.n.length≠0) (by omega)]; simp
theorem isT_good {n least:Int} {ts:List TR} {i:Nat} {z:TR} (hz:ts[i]?=some z) (h:isT n 0 ts=isT n least (ts.drop i)) (h1:least≤z.v) (h2:z.v<n) (h3:z.c.is=true) (h4:z.c.n.length≠0):isT n 0 ts=isT n (z.v + 1) (ts.drop (i + 1)):=by
  rw [h,drop_get hz,isT,decide_eq_true h1,decide_eq_true h2,h3,decide_eq_true h4]; rfl
theorem isC_false {c:CR} {n:Int} (h:c.st<0∨4<c.st∨c.k.is=false∨isT n 0 c.ts=false):isC c n=false:=by
  unfold isC
  rcases h with h | h | h | h
  · rw [decide_eq_false (by omega)]; rfl
  · rw [decide_eq_false (p:=c.st≤4) (by omega)]; simp
  · rw [h]; simp
  rw [h]; simp
theorem isC_true {c:CR} {n:Int} (h1:0≤c.st) (h2:c.st≤4) (h3:c.k.is=true) (h4:isT n 0 c.ts=true):isC c n=true:=by
  unfold isC; rw [decide_eq_true h1,decide_eq_true h2,h3,h4]; rfl
theorem c_aff_Is {M N9 : List Nat} {w : World} {c : CR} {vt vn vd : Value} (ht : Lay rdT N9 w vt c.ts) (h : U32 N9 w vn c.k.n) (k : U32 N9 w vd c.k.d) {n : Int} (hn : n ≤ 9223372036854775807) (hbd : Bd M w) (hsm : SmC 1099511627776 c) :
    Ret Tryz.prog 14 #[.agg #[.int .i64 c.st,vt,.bool c.k.s,vn,vd],.int .i64 n] w (fun r w'=>r=.bool (isC c n)∧Mod [] w w'):=by
 obtain ⟨T9,t9,rfl⟩:=ht.form;obtain ⟨A9,c9,rfl⟩:=h.form;obtain ⟨B9,e9,rfl⟩:=k.form;have hlt:=hsm.1
 refine Ret.of (vs:=[.agg #[.int .i64 c.st,.slice T9 c.ts.length t9,.bool c.k.s,.slice A9 c.k.n.length c9,.slice B9 c.k.d.length e9],.int .i64 n]) (n:=56) Tryz.func14 rfl rfl rfl rfl ?_
 have C0:Mod [] w w:=Mod.refl _ _
 refine W.sr<|L.box rfl rfl ?_
 intro g2 w1 D2
 replace ht:=ht.new D2;replace h:=h.new D2;replace k:=k.new D2;replace hbd:=hbd.new D2;have K2:=New.ge D2 C0.size;replace C0:=C0.tn D2;have E2:=D2.blk;clear D2
 refine L.b rfl<|L.z<|W.seq<|W.sr<|L.fA rfl tyF42_0<|L.lF rfl E2 rfl tyP3<|L.v ((R1.lt rfl rfl).asB (c:=decide (c.st<0)) (rfl)) rfl<|L.k rfl ?_
 cases W11:decide (c.st<0)
 ·
  simp only [bq] at W11
  refine L.p rfl (R1.fieldAt rfl tyF42_0)<|L.p rfl (R1.loadFld rfl E2 rfl tyP3)<|L.p rfl ((R1.gt rfl rfl).asB (c:=decide (4<c.st)) (rfl))<|L.pF rfl rfl<|L.k rfl ?_
  cases W16:decide (4<c.st)
  ·
   simp only [bq] at W16
   refine L.p rfl (R1.fieldAt rfl tyF42_2)<|L.p rfl (R1.loadBoxAt (ds:=[.bool c.k.s,.slice A9 c.k.n.length c9,.slice B9 c.k.d.length e9]) rfl E2 rfl tyG40)<|L.callOn rfl rfl rfl rfl (c_rat_Is h k hbd hsm.2.1.1 hsm.2.1.2) rfl ?_
   rintro _ w2 ⟨rfl,C2⟩
   replace ht:=ht.gr C2;replace h:=h.gr C2;replace k:=k.gr C2;replace hbd:=hbd.gr C2;replace C0:=C0.trans C2;replace E2:=E2.gr C2;clear C2
   refine L.p rfl (R1.not rfl)<|L.pF rfl rfl<|L.z<|W.cond rfl ?_ ?_
   ·
    intro J21
    simp only [bq] at J21
    refine W.sr<|L.b rfl<|L.z<|W.ret<|X.thenRet<|X.result1 rfl (.tmp rfl .nil) ?_
    exact ⟨by rw [isC_false (by first | exact .inl W11 | exact .inr (.inl W16) | exact .inr (.inr (.inl J21)))],C0⟩
   intro J21
   simp only [bq] at J21
   refine W.skip<|X.seq<|W.sr<|L.b rfl<|L.z<|W.seq<|W.sr<|L.fA rfl tyF42_1 ?_
   refine L.lF rfl E2 rfl tyP37<|L.lL rfl ht Q37<|L.k rfl<|L.z<|W.block<|W.loop (ι:=Nat × Int) (fun (i,least)=>[(1,.int .i64 n),(23,.slice T9 c.ts.length t9),(24,.int .i64 (c.ts.length:Int)),(25,.int .i64 (i:Int)),(5,.int .i64 least)]) (fun (i,least) w_=>i≤c.ts.length∧0≤least∧isT n 0 c.ts=isT n least (c.ts.drop i)∧Lay rdT (g2 :: N9) w_ (.slice T9 c.ts.length t9) c.ts∧Bd (g2 :: M) w_∧Mod [] w w_) (fun (i,least)=>c.ts.length - i) (0,0) ?_ ?_ ?_
   · repeat' constructor
   ·
    exact ⟨Nat.zero_le _,Int.le_refl _,by simp,ht,hbd,C0⟩
   rintro ⟨i,least⟩ w3 ⟨hi,hl0,his,ht,hbd,C0⟩
   refine W.sr<|L.lt rfl rfl<|L.z<|W.seq<|W.cond rfl ?_ ?_
   ·
    intro J26
    try simp only [bq,ne_eq] at J26
    refine W.skip<|X.seq<|W.seq<|W.block<|W.sr<|L.aL (j:=i) rfl rfl ht Q37 rfl (by omega) ?_
    obtain ⟨z28,cs28,P28,V28,ds28,rfl,vn28,vd28,rfl,I28,H28⟩:=Lay.elemQ ht (j:=i) (by omega);obtain ⟨A28,c28,rfl⟩:=I28.form;obtain ⟨B28,e28,rfl⟩:=H28.form
    refine L.v (R1.loadE rfl V28 tyG47) rfl<|L.alloc tyZ47 rfl ?_
    intro g7 w4 D7
    replace ht:=ht.new D7;replace hbd:=hbd.new D7;have K7:=New.ge D7 C0.size;replace C0:=C0.tn D7;replace I28:=I28.new D7;replace H28:=H28.new D7;have E7:=D7.blk;clear D7
    refine L.storeBox rfl rfl E7 rfl rfl tyG47 ?_
    intro w5 E7' C5
    replace ht:=ht.ms C5;replace hbd:=hbd.gr C5;replace C0:=C0.old1 C5 K7;replace I28:=I28.ms C5;replace H28:=H28.ms C5;clear C5;replace E7:=E7'; clear E7'
    refine L.z<|W.seq<|W.sr<|L.fA rfl tyF47_0<|L.lF rfl E7 rfl tyP3<|L.k rfl<|L.v ((R1.lt rfl rfl).asB (c:=decide (z28.v<least)) (rfl)) rfl<|L.k rfl ?_
    cases W33:decide (z28.v<least)
    ·
     simp only [bq] at W33
     refine L.p rfl (R1.fieldAt rfl tyF47_0)<|L.p rfl (R1.loadFld rfl E7 rfl tyP3)<|L.p rfl (R1.move rfl)<|L.p rfl ((R1.ge rfl rfl).asB (c:=decide (n≤z28.v)) (rfl))<|L.pF rfl rfl<|L.k rfl ?_
     cases W39:decide (n≤z28.v)
     ·
      simp only [bq] at W39
      refine L.p rfl (R1.fieldAt rfl tyF47_1)<|L.p rfl (R1.loadBoxAt (ds:=[.bool z28.c.s,.slice A28 z28.c.n.length c28,.slice B28 z28.c.d.length e28]) rfl E7 rfl tyG40)<|L.callOn rfl rfl rfl rfl (c_rat_Is I28 H28 hbd (hsm.2.2 _ (List.mem_of_getElem? P28)).1 (hsm.2.2 _ (List.mem_of_getElem? P28)).2) rfl ?_
      rintro _ w6 ⟨rfl,C6⟩
      replace ht:=ht.gr C6;replace hbd:=hbd.gr C6;replace C0:=C0.trans C6;replace I28:=I28.gr C6;replace H28:=H28.gr C6;replace E7:=E7.gr C6;clear C6
      refine L.p rfl (R1.not rfl)<|L.pF rfl rfl<|L.k rfl ?_
      cases W45:(!(isN z28.c.s z28.c.n z28.c.d))
      ·
       simp only [bq] at W45
       refine L.p rfl (R1.fieldAt rfl tyF47_1)<|L.p rfl (R1.fieldAt rfl tyF40_1)<|L.p rfl (R1.loadFld rfl E7 rfl tyP38)<|L.p rfl (R1.lenU rfl (by assumption) Q38)<|L.p rfl ((R1.eq rfl rfl).asB (c:=decide (z28.c.n.length=0)) (by congr 1; apply propext; omega))<|L.pF rfl rfl<|L.z<|W.cond rfl ?_ ?_
       ·
        intro J51
        simp only [bq] at J51
        refine W.sr<|L.b rfl<|L.z<|W.ret<|X.thenRet<|X.blockRet<|X.thenRet<|X.nextRet<|X.blockRet ?_
        refine X.thenRet<|X.result1 rfl (.tmp rfl .nil) ?_
        exact ⟨by rw [isC_false (.inr (.inr (.inr (isT_bad P28 his (by first | exact .inl W33 | exact .inr (.inl W39) | exact .inr (.inr (.inl W45)) | exact .inr (.inr (.inr J51)))))))],C0⟩
       intro J51
       simp only [bq] at J51
       refine W.skip<|X.seq<|W.region<|L.fA rfl tyF47_0<|L.lF rfl E7 rfl tyP3<|L.v ((R1.add rfl rfl).as (wrap_i64 (by omega) (by omega))) rfl<|L.b rfl<|L.nil<|X.blockEnd<|X.seq<|W.region ?_
       refine L.inc rfl rfl (by omega)<|L.k rfl<|L.nil<|X.next (i + 1,z28.v + 1) ?_ ?_ ?_
       · repeat' constructor
       ·
        exact ⟨by omega,by omega,isT_good P28 his W33 W39 W45 J51,(ht.sub (by intro b hb; simp [hb])),(fun m hm=>hbd m (by simp only [List.mem_cons] at hm ⊢; rcases hm with rfl | hm <;> simp [*])),C0⟩
       first | omega | (dsimp only; omega)
      simp only [bq] at W45
      refine L.o rfl<|L.o rfl<|L.o rfl<|L.o rfl<|L.o rfl<|L.pT rfl rfl<|L.z<|W.condT rfl<|W.seq<|W.region ?_
      refine L.b rfl<|L.z<|W.ret<|X.thenRet<|X.blockRet<|X.thenRet<|X.nextRet<|X.blockRet<|X.thenRet<|X.result1 rfl (.tmp rfl .nil) ?_
      exact ⟨by rw [isC_false (.inr (.inr (.inr (isT_bad P28 his (by first | exact .inl W33 | exact .inr (.inl W39) | exact .inr (.inr (.inl W45)) | exact .inr (.inr (.inr J51)))))))],C0⟩
     simp only [bq] at W39
     refine L.o rfl<|L.o rfl<|L.o rfl<|L.o rfl<|L.pT rfl rfl<|L.k rfl<|L.o rfl<|L.o rfl<|L.o rfl<|L.o rfl<|L.o rfl ?_
     refine L.pT rfl rfl<|L.z<|W.condT rfl<|W.sr<|L.b rfl<|L.z<|W.ret<|X.thenRet ?_
     refine X.blockRet<|X.thenRet<|X.nextRet<|X.blockRet<|X.thenRet<|X.result1 rfl (.tmp rfl .nil) ?_
     exact ⟨by rw [isC_false (.inr (.inr (.inr (isT_bad P28 his (by first | exact .inl W33 | exact .inr (.inl W39) | exact .inr (.inr (.inl W45)) | exact .inr (.inr (.inr J51)))))))],C0⟩
    simp only [bq] at W33
    refine L.o rfl<|L.o rfl<|L.o rfl<|L.o rfl<|L.pT rfl rfl<|L.k rfl<|L.o rfl<|L.o rfl<|L.o rfl<|L.o rfl<|L.pT rfl rfl ?_
    refine L.k rfl<|L.o rfl<|L.o rfl<|L.o rfl<|L.o rfl<|L.o rfl<|L.pT rfl rfl<|L.z<|W.condT rfl<|W.seq ?_
    refine W.region<|L.b rfl<|L.z<|W.ret<|X.thenRet<|X.blockRet<|X.thenRet<|X.nextRet<|X.blockRet<|X.thenRet ?_
    refine X.result1 rfl (.tmp rfl .nil) ?_
    exact ⟨by rw [isC_false (.inr (.inr (.inr (isT_bad P28 his (by first | exact .inl W33 | exact .inr (.inl W39) | exact .inr (.inr (.inl W45)) | exact .inr (.inr (.inr J51)))))))],C0⟩
   intro J26
   try simp only [bq,ne_eq] at J26
   refine W.brk<|W.sr<|L.b rfl<|L.z<|W.ret ?_
   refine X.result1 rfl (.tmp rfl .nil) ?_
   obtain rfl:i=c.ts.length:=by omega
   exact ⟨by rw [isC_true W11 W16 J21 (by rw [his,List.drop_length]; rfl)],C0⟩
  simp only [bq] at W16
  refine L.o rfl<|L.o rfl<|L.o rfl<|L.o rfl<|L.pT rfl rfl<|L.z<|W.condT rfl<|W.sr<|L.b rfl ?_
  refine L.z<|W.ret<|X.thenRet<|X.result1 rfl (.tmp rfl .nil) ?_
  exact ⟨by rw [isC_false (by first | exact .inl W11 | exact .inr (.inl W16) | exact .inr (.inr (.inl J21)))],C0⟩
 simp only [bq] at W11
 refine L.o rfl<|L.o rfl<|L.o rfl<|L.pT rfl rfl<|L.k rfl<|L.o rfl<|L.o rfl<|L.o rfl<|L.o rfl<|L.pT rfl rfl<|L.nil ?_
 refine X.seq<|W.condT rfl<|W.sr<|L.b rfl<|L.z<|W.ret<|X.thenRet<|X.result1 rfl (.tmp rfl .nil) ?_
 exact ⟨by rw [isC_false (by first | exact .inl W11 | exact .inr (.inl W16) | exact .inr (.inr (.inl J21)))],C0⟩
theorem c_ref8_Is {M N9 : List Nat} {w : World} {c : CR} {vt vn vd : Value} (ht : Lay rdT N9 w vt c.ts) (h : U32 N9 w vn c.k.n) (k : U32 N9 w vd c.k.d) {n : Int} (hn : n ≤ 9223372036854775807) (hbd : Bd M w) (hsm : SmC 1099511627776 c) :
    Ret Tryz.prog 46 #[.agg #[.int .i64 c.st,vt,.bool c.k.s,vn,vd],.int .i64 n] w (fun r w'=>r=.bool (isC c n)∧Mod [] w w'):=by
 obtain ⟨T9,t9,rfl⟩:=ht.form;obtain ⟨A9,c9,rfl⟩:=h.form;obtain ⟨B9,e9,rfl⟩:=k.form;have hlt:=hsm.1
 refine Ret.of (vs:=[.agg #[.int .i64 c.st,.slice T9 c.ts.length t9,.bool c.k.s,.slice A9 c.k.n.length c9,.slice B9 c.k.d.length e9],.int .i64 n]) (n:=71) Tryz.func46 rfl rfl rfl rfl ?_
 have C0:Mod [] w w:=Mod.refl _ _
 refine W.sr<|L.box rfl rfl ?_
 intro g2 w1 D2
 replace ht:=ht.new D2;replace h:=h.new D2;replace k:=k.new D2;replace hbd:=hbd.new D2;have K2:=New.ge D2 C0.size;replace C0:=C0.tn D2;have E2:=D2.blk;clear D2
 refine L.b rfl<|L.z<|W.seq<|W.sr<|L.fA rfl tyF42_0<|L.lF rfl E2 rfl tyP3<|L.v ((R1.lt rfl rfl).asB (c:=decide (c.st<0)) (rfl)) rfl<|L.k rfl ?_
 cases W10:decide (c.st<0)
 ·
  simp only [bq] at W10
  refine L.p rfl (R1.fieldAt rfl tyF42_0)<|L.p rfl (R1.loadFld rfl E2 rfl tyP3)<|L.p rfl ((R1.gt rfl rfl).asB (c:=decide (4<c.st)) (rfl))<|L.pF rfl rfl<|L.k rfl ?_
  cases W15:decide (4<c.st)
  ·
   simp only [bq] at W15
   refine L.p rfl (R1.fieldAt rfl tyF42_2)<|L.p rfl (R1.loadBoxAt (ds:=[.bool c.k.s,.slice A9 c.k.n.length c9,.slice B9 c.k.d.length e9]) rfl E2 rfl tyG40)<|L.callOn rfl rfl rfl rfl (c_ref2_Is h k hbd hsm.2.1.1 hsm.2.1.2) rfl ?_
   rintro _ w2 ⟨rfl,C2⟩
   replace ht:=ht.gr C2;replace h:=h.gr C2;replace k:=k.gr C2;replace hbd:=hbd.gr C2;replace C0:=C0.trans C2;replace E2:=E2.gr C2;clear C2
   refine L.p rfl (R1.not rfl)<|L.pF rfl rfl<|L.z<|W.cond rfl ?_ ?_
   ·
    intro J20
    simp only [bq] at J20
    refine W.sr<|L.b rfl<|L.z<|W.ret<|X.thenRet<|X.result1 rfl (.tmp rfl .nil) ?_
    exact ⟨by rw [isC_false (by first | exact .inl W10 | exact .inr (.inl W15) | exact .inr (.inr (.inl J20)))],C0⟩
   intro J20
   simp only [bq] at J20
   refine W.skip<|X.seq<|W.seq<|W.sr<|L.b rfl<|L.z<|W.block<|W.loop (ι:=Nat × Int) (fun (i,least)=>[(1,.int .i64 n),(2,.pointer (some ⟨g2,0,none⟩)),(5,.int .i64 (i:Int))]) (fun (i,least) w_=>i≤c.ts.length∧0≤least∧(∀ z,0<i→c.ts[i - 1]?=some z→least=z.v + 1)∧(i=0→least=0)∧isT n 0 c.ts=isT n least (c.ts.drop i)∧Lay rdT (g2 :: N9) w_ (.slice T9 c.ts.length t9) c.ts∧Blk w_ g2 42 #[.int .i64 c.st,.slice T9 c.ts.length t9,.bool c.k.s,.slice A9 c.k.n.length c9,.slice B9 c.k.d.length e9]∧Bd (g2 :: M) w_∧Mod [] w w_) (fun (i,least)=>c.ts.length - i) (0,0) ?_ ?_ ?_
   · exact ⟨rfl,rfl,rfl,trivial⟩
   ·
    exact ⟨Nat.zero_le _,Int.le_refl _,(fun z h9=>by omega),(fun _=>rfl),by simp,ht,E2,hbd,C0⟩
   rintro ⟨i,least⟩ w3 ⟨hi,hl0,hl1,hl2,his,ht,E2,hbd,C0⟩
   refine W.seq<|W.sr<|L.k rfl<|L.fA rfl tyF42_1<|L.lF rfl E2 rfl tyP37<|L.lL rfl ht Q37<|L.lt rfl rfl<|L.z<|W.cond rfl ?_ ?_
   ·
    intro J25
    try simp only [bq,ne_eq] at J25
    refine W.skip<|X.seq<|W.seq<|W.block<|W.sr<|L.fA rfl tyF42_1<|L.lF rfl E2 rfl tyP37<|L.k rfl<|L.aL (j:=i) rfl rfl ht Q37 rfl (by omega) ?_
    obtain ⟨z32,cs32,P32,V32,ds32,rfl,vn32,vd32,rfl,I32,H32⟩:=Lay.elemQ ht (j:=i) (by omega);obtain ⟨A32,c32,rfl⟩:=I32.form;obtain ⟨B32,e32,rfl⟩:=H32.form
    refine L.v (R1.loadE rfl V32 tyG47) rfl<|L.alloc tyZ47 rfl ?_
    intro g6 w4 D6
    replace ht:=ht.new D6;have hne_g2_g6:=E2.ne_ D6;replace E2:=E2.gr D6.mod;replace hbd:=hbd.new D6;have K6:=New.ge D6 C0.size;replace C0:=C0.tn D6;replace I32:=I32.new D6;replace H32:=H32.new D6;have E6:=D6.blk;clear D6
    refine L.storeBox rfl rfl E6 rfl rfl tyG47 ?_
    intro w5 E6' C5
    replace ht:=ht.ms C5;replace E2:=E2.fr C5;replace hbd:=hbd.gr C5;replace C0:=C0.old1 C5 K6;replace I32:=I32.ms C5;replace H32:=H32.ms C5;clear C5;replace E6:=E6'; clear E6'
    refine L.z<|W.seq<|W.drawW (T:=[]) rfl (by decide +kernel) (NoHang.then (NoHang.block (NoHang.then (NoHang.next (NoHang.block (NoHang.then NoHang.post)))))) (fun w6 C6=>?_)
    replace ht:=ht.gr C6;replace E2:=E2.gr C6;replace hbd:=hbd.gr C6;replace C0:=C0.trans C6;replace I32:=I32.gr C6;replace H32:=H32.gr C6;replace E6:=E6.gr C6
    have G1:Mod [] w6 w6:=Mod.refl _ _
    clear C6;have hb2_s:=E2;have hb6_s:=E6
    refine D.t 0 rfl (by kernel_rfl) (fun _ hS=>R1.fieldAt rfl tyF47_0) G1<|D.t 1 rfl (by kernel_rfl) (fun _ hS=>R1.loadFld rfl (hb6_s.gr hS) rfl tyP3) G1<|D.t 2 rfl (by kernel_rfl) (fun _ hS=>(R1.lt rfl rfl).asB (c:=decide (z32.v<0)) (rfl)) G1<|D.z 3 rfl (by kernel_rfl) rfl G1 ?_
    cases W36:decide (z32.v<0)
    ·
     simp only [bq] at W36
     refine D.u 4 rfl rfl (by kernel_rfl) (fun _ hS=>R1.fieldAt rfl tyF47_0) G1<|D.u 5 rfl rfl (by kernel_rfl) (fun _ hS=>R1.loadFld rfl (hb6_s.gr hS) rfl tyP3) G1<|D.u 6 rfl rfl (by kernel_rfl) (fun _ hS=>R1.move rfl) G1<|D.u 7 rfl rfl (by kernel_rfl) (fun _ hS=>(R1.ge rfl rfl).asB (c:=decide (n≤z32.v)) (rfl)) G1<|D.t 8 rfl (by kernel_rfl) (fun _ hS=>R1.pickF rfl rfl) G1<|D.z 9 rfl (by kernel_rfl) rfl G1 ?_
     cases W42:decide (n≤z32.v)
     ·
      simp only [bq] at W42
      refine D.u 10 rfl rfl (by kernel_rfl) (fun _ hS=>R1.move rfl) G1<|D.u 11 rfl rfl (by kernel_rfl) (fun _ hS=>(R1.gt rfl rfl).asB (c:=decide (0<(i:Int))) (rfl)) G1<|D.u 12 rfl rfl (by kernel_rfl) (fun _ hS=>R1.move rfl) G1 ?_
      cases W45:decide (0<(i:Int))
      ·
       simp only [bq] at W45
       refine D.o 13 rfl rfl (by kernel_rfl) G1<|D.o 14 rfl rfl (by kernel_rfl) G1<|D.o 15 rfl rfl (by kernel_rfl) G1<|D.o 16 rfl rfl (by kernel_rfl) G1<|D.o 17 rfl rfl (by kernel_rfl) G1<|D.o 18 rfl rfl (by kernel_rfl) G1<|D.o 19 rfl rfl (by kernel_rfl) G1<|D.o 20 rfl rfl (by kernel_rfl) G1<|D.o 21 rfl rfl (by kernel_rfl) G1<|D.o 22 rfl rfl (by kernel_rfl) G1<|D.u 23 rfl rfl (by kernel_rfl) (fun _ hS=>R1.pickF rfl rfl) G1 ?_
       refine D.t 24 rfl (by kernel_rfl) (fun _ hS=>R1.pickF rfl rfl) G1<|D.z 25 rfl (by kernel_rfl) rfl G1<|D.u 26 rfl rfl (by kernel_rfl) (fun _ hS=>R1.fieldAt rfl tyF47_1) G1<|D.u 27 rfl rfl (by kernel_rfl) (fun _ hS=>R1.loadBoxAt (ds:=[.bool z32.c.s,.slice A32 z32.c.n.length c32,.slice B32 z32.c.d.length e32]) rfl (hb6_s.gr hS) rfl tyG40) G1<|D.one 28 rfl (by kernel_rfl) (fun hX=>?_)
       refine L.callOn rfl rfl rfl rfl (c_ref2_Is I32 H32 hbd (hsm.2.2 _ (List.mem_of_getElem? P32)).1 (hsm.2.2 _ (List.mem_of_getElem? P32)).2) rfl ?_
       rintro _ w7 ⟨rfl,C7⟩
       replace ht:=ht.gr C7;replace E2:=E2.gr C7;replace hbd:=hbd.gr C7;replace C0:=C0.trans C7;replace I32:=I32.gr C7;replace H32:=H32.gr C7;replace E6:=E6.gr C7;replace G1:=G1.trans C7;clear C7
       refine L.nil (hX _ _ ⟨.inr G1,?_⟩)
       refine D.u 29 rfl rfl (by kernel_rfl) (fun _ hS=>R1.not rfl) G1<|D.t 30 rfl (by kernel_rfl) (fun _ hS=>R1.pickF rfl rfl) G1<|D.z 31 rfl (by kernel_rfl) rfl G1 ?_
       cases W64:(!(isN z32.c.s z32.c.n z32.c.d))
       ·
        simp only [bq] at W64
        refine D.u 32 rfl rfl (by kernel_rfl) (fun _ hS=>R1.fieldAt rfl tyF47_1) G1<|D.u 33 rfl rfl (by kernel_rfl) (fun _ hS=>R1.fieldAt rfl tyF40_1) G1<|D.u 34 rfl rfl (by kernel_rfl) (fun _ hS=>R1.loadFld rfl (hb6_s.gr hS) rfl tyP38) G1<|D.u 35 rfl rfl (by kernel_rfl) (fun _ hS=>R1.len rfl Q38) G1<|D.u 36 rfl rfl (by kernel_rfl) (fun _ hS=>(R1.eq rfl rfl).asB (c:=decide (z32.c.n.length=0)) (by congr 1; apply propext; omega)) G1<|D.t 37 rfl (by kernel_rfl) (fun _ hS=>R1.pickF rfl rfl) G1<|D.done (by decide +kernel) ?_ _
        refine X.seq<|W.cond rfl ?_ ?_
        ·
         intro J70
         simp only [bq] at J70
         refine W.sr<|L.b rfl<|L.z<|W.ret<|X.blockRet<|X.thenRet<|X.nextRet<|X.blockRet<|X.thenRet ?_
         refine X.result1 rfl (.tmp rfl .nil) ?_
         exact ⟨by rw [isC_false (.inr (.inr (.inr (isT_bad P32 his (by first | exact .inl (by omega) | exact .inr (.inl W42) | (have h9:=hl1 _ (by omega) P52; exact .inl (by omega)) | exact .inr (.inr (.inl W64)) | exact .inr (.inr (.inr J70)))))))],C0⟩
        intro J70
        simp only [bq] at J70
        refine W.skip<|X.blockEnd<|X.seq<|W.region<|L.k rfl<|L.inc rfl rfl (by omega)<|L.b rfl<|L.nil<|X.next (i + 1,z32.v + 1) ?_ ?_ ?_
        · exact ⟨rfl,rfl,rfl,trivial⟩
        ·
         have hlo:least≤z32.v:=by first | (have h9:=hl1 _ (by omega) P52; omega) | (have h9:=hl2 (by omega); omega)
         refine ⟨by omega,by omega,(fun z _ P9=>?_),(fun h9=>by omega),isT_good P32 his hlo W42 W64 J70,(ht.sub (by intro b hb; simp [hb])),E2,(fun m hm=>hbd m (by simp only [List.mem_cons] at hm ⊢; rcases hm with rfl | hm <;> simp [*])),C0⟩
         rw [Nat.add_sub_cancel,P32] at P9; injection P9 with e; rw [e]
        first | omega | (dsimp only; omega)
       simp only [bq] at W64
       refine D.o 32 rfl rfl (by kernel_rfl) G1<|D.o 33 rfl rfl (by kernel_rfl) G1<|D.o 34 rfl rfl (by kernel_rfl) G1<|D.o 35 rfl rfl (by kernel_rfl) G1<|D.o 36 rfl rfl (by kernel_rfl) G1<|D.t 37 rfl (by kernel_rfl) (fun _ hS=>R1.pickT rfl rfl) G1<|D.done (by decide +kernel) ?_ _
       refine X.seq<|W.condT rfl<|W.sr<|L.b rfl<|L.z<|W.ret<|X.blockRet<|X.thenRet<|X.nextRet ?_
       refine X.blockRet<|X.thenRet<|X.result1 rfl (.tmp rfl .nil) ?_
       exact ⟨by rw [isC_false (.inr (.inr (.inr (isT_bad P32 his (by first | exact .inl (by omega) | exact .inr (.inl W42) | (have h9:=hl1 _ (by omega) P52; exact .inl (by omega)) | exact .inr (.inr (.inl W64)) | exact .inr (.inr (.inr J70)))))))],C0⟩
      simp only [bq] at W45
      refine D.u 13 rfl rfl (by kernel_rfl) (fun _ hS=>R1.fieldAt rfl tyF42_1) G1<|D.u 14 rfl rfl (by kernel_rfl) (fun _ hS=>R1.loadFld rfl (hb2_s.gr hS) rfl tyP37) G1<|D.u 15 rfl rfl (by kernel_rfl) (fun _ hS=>R1.move rfl) G1<|D.u 16 rfl rfl (by kernel_rfl) (fun _ hS=>R1.subI (b:=1) rfl rfl (by omega) (by omega)) G1<|D.u 17 rfl rfl (by kernel_rfl) (fun _ hS=>R1.atLay (j:=(i - 1)) rfl rfl (Lay.gr ht hS) Q37 rfl (by omega)) G1<|D.u 18 rfl rfl (by kernel_rfl) (fun _ hS=>R1.fieldAddr rfl tyF47_0) G1 ?_
      obtain ⟨z52,cs52,P52,V52,ds52,rfl,vn52,vd52,rfl,I52,H52⟩:=Lay.elemQ ht (j:=(i - 1)) (by omega);obtain ⟨A52,c52,rfl⟩:=I52.form;obtain ⟨B52,e52,rfl⟩:=H52.form
      refine D.u 19 rfl rfl (by kernel_rfl) (fun _ hS=>R1.loadEF rfl (SlE.gr V52 hS) rfl tyP3) G1<|D.u 20 rfl rfl (by kernel_rfl) (fun _ hS=>R1.fieldAt rfl tyF47_0) G1<|D.u 21 rfl rfl (by kernel_rfl) (fun _ hS=>R1.loadFld rfl (hb6_s.gr hS) rfl tyP3) G1<|D.u 22 rfl rfl (by kernel_rfl) (fun _ hS=>(R1.ge rfl rfl).asB (c:=decide (z32.v≤z52.v)) (rfl)) G1<|D.u 23 rfl rfl (by kernel_rfl) (fun _ hS=>R1.pickT rfl rfl) G1<|D.t 24 rfl (by kernel_rfl) (fun _ hS=>R1.pickF rfl rfl) G1<|D.z 25 rfl (by kernel_rfl) rfl G1 ?_
      cases W58:decide (z32.v≤z52.v)
      ·
       simp only [bq] at W58
       refine D.u 26 rfl rfl (by kernel_rfl) (fun _ hS=>R1.fieldAt rfl tyF47_1) G1<|D.u 27 rfl rfl (by kernel_rfl) (fun _ hS=>R1.loadBoxAt (ds:=[.bool z32.c.s,.slice A32 z32.c.n.length c32,.slice B32 z32.c.d.length e32]) rfl (hb6_s.gr hS) rfl tyG40) G1<|D.one 28 rfl (by kernel_rfl) (fun hX=>?_)
       refine L.callOn rfl rfl rfl rfl (c_ref2_Is I32 H32 hbd (hsm.2.2 _ (List.mem_of_getElem? P32)).1 (hsm.2.2 _ (List.mem_of_getElem? P32)).2) rfl ?_
       rintro _ w8 ⟨rfl,C8⟩
       replace ht:=ht.gr C8;replace E2:=E2.gr C8;replace hbd:=hbd.gr C8;replace C0:=C0.trans C8;replace I32:=I32.gr C8;replace H32:=H32.gr C8;replace E6:=E6.gr C8;replace I52:=I52.gr C8;replace H52:=H52.gr C8;replace G1:=G1.trans C8;clear C8
       refine L.nil (hX _ _ ⟨.inr G1,?_⟩)
       refine D.u 29 rfl rfl (by kernel_rfl) (fun _ hS=>R1.not rfl) G1<|D.t 30 rfl (by kernel_rfl) (fun _ hS=>R1.pickF rfl rfl) G1<|D.z 31 rfl (by kernel_rfl) rfl G1 ?_
       cases W64:(!(isN z32.c.s z32.c.n z32.c.d))
       ·
        simp only [bq] at W64
        refine D.u 32 rfl rfl (by kernel_rfl) (fun _ hS=>R1.fieldAt rfl tyF47_1) G1<|D.u 33 rfl rfl (by kernel_rfl) (fun _ hS=>R1.fieldAt rfl tyF40_1) G1<|D.u 34 rfl rfl (by kernel_rfl) (fun _ hS=>R1.loadFld rfl (hb6_s.gr hS) rfl tyP38) G1<|D.u 35 rfl rfl (by kernel_rfl) (fun _ hS=>R1.len rfl Q38) G1<|D.u 36 rfl rfl (by kernel_rfl) (fun _ hS=>(R1.eq rfl rfl).asB (c:=decide (z32.c.n.length=0)) (by congr 1; apply propext; omega)) G1<|D.t 37 rfl (by kernel_rfl) (fun _ hS=>R1.pickF rfl rfl) G1<|D.done (by decide +kernel) ?_ _
        refine X.seq<|W.cond rfl ?_ ?_
        ·
         intro J70
         simp only [bq] at J70
         refine W.sr<|L.b rfl<|L.z<|W.ret<|X.blockRet<|X.thenRet<|X.nextRet<|X.blockRet<|X.thenRet ?_
         refine X.result1 rfl (.tmp rfl .nil) ?_
         exact ⟨by rw [isC_false (.inr (.inr (.inr (isT_bad P32 his (by first | exact .inl (by omega) | exact .inr (.inl W42) | (have h9:=hl1 _ (by omega) P52; exact .inl (by omega)) | exact .inr (.inr (.inl W64)) | exact .inr (.inr (.inr J70)))))))],C0⟩
        intro J70
        simp only [bq] at J70
        refine W.skip<|X.blockEnd<|X.seq<|W.region<|L.k rfl<|L.inc rfl rfl (by omega)<|L.b rfl<|L.nil<|X.next (i + 1,z32.v + 1) ?_ ?_ ?_
        · exact ⟨rfl,rfl,rfl,trivial⟩
        ·
         have hlo:least≤z32.v:=by first | (have h9:=hl1 _ (by omega) P52; omega) | (have h9:=hl2 (by omega); omega)
         refine ⟨by omega,by omega,(fun z _ P9=>?_),(fun h9=>by omega),isT_good P32 his hlo W42 W64 J70,(ht.sub (by intro b hb; simp [hb])),E2,(fun m hm=>hbd m (by simp only [List.mem_cons] at hm ⊢; rcases hm with rfl | hm <;> simp [*])),C0⟩
         rw [Nat.add_sub_cancel,P32] at P9; injection P9 with e; rw [e]
        first | omega | (dsimp only; omega)
       simp only [bq] at W64
       refine D.o 32 rfl rfl (by kernel_rfl) G1<|D.o 33 rfl rfl (by kernel_rfl) G1<|D.o 34 rfl rfl (by kernel_rfl) G1<|D.o 35 rfl rfl (by kernel_rfl) G1<|D.o 36 rfl rfl (by kernel_rfl) G1<|D.t 37 rfl (by kernel_rfl) (fun _ hS=>R1.pickT rfl rfl) G1<|D.done (by decide +kernel) ?_ _
       refine X.seq<|W.condT rfl<|W.sr<|L.b rfl<|L.z<|W.ret<|X.blockRet<|X.thenRet<|X.nextRet ?_
       refine X.blockRet<|X.thenRet<|X.result1 rfl (.tmp rfl .nil) ?_
       exact ⟨by rw [isC_false (.inr (.inr (.inr (isT_bad P32 his (by first | exact .inl (by omega) | exact .inr (.inl W42) | (have h9:=hl1 _ (by omega) P52; exact .inl (by omega)) | exact .inr (.inr (.inl W64)) | exact .inr (.inr (.inr J70)))))))],C0⟩
      simp only [bq] at W58
      refine D.o 26 rfl rfl (by kernel_rfl) G1<|D.o 27 rfl rfl (by kernel_rfl) G1<|D.o 28 rfl rfl (by kernel_rfl) G1<|D.o 29 rfl rfl (by kernel_rfl) G1<|D.t 30 rfl (by kernel_rfl) (fun _ hS=>R1.pickT rfl rfl) G1<|D.z 31 rfl (by kernel_rfl) rfl G1<|D.o 32 rfl rfl (by kernel_rfl) G1<|D.o 33 rfl rfl (by kernel_rfl) G1<|D.o 34 rfl rfl (by kernel_rfl) G1<|D.o 35 rfl rfl (by kernel_rfl) G1<|D.o 36 rfl rfl (by kernel_rfl) G1 ?_
      refine D.t 37 rfl (by kernel_rfl) (fun _ hS=>R1.pickT rfl rfl) G1<|D.done (by decide +kernel) ?_ _
      refine X.seq<|W.condT rfl<|W.sr<|L.b rfl<|L.z<|W.ret<|X.blockRet<|X.thenRet<|X.nextRet ?_
      refine X.blockRet<|X.thenRet<|X.result1 rfl (.tmp rfl .nil) ?_
      exact ⟨by rw [isC_false (.inr (.inr (.inr (isT_bad P32 his (by first | exact .inl (by omega) | exact .inr (.inl W42) | (have h9:=hl1 _ (by omega) P52; exact .inl (by omega)) | exact .inr (.inr (.inl W64)) | exact .inr (.inr (.inr J70)))))))],C0⟩
     simp only [bq] at W42
     refine D.o 10 rfl rfl (by kernel_rfl) G1<|D.o 11 rfl rfl (by kernel_rfl) G1<|D.o 12 rfl rfl (by kernel_rfl) G1<|D.offU 13 rfl rfl rfl rfl (by kernel_rfl) G1 rfl<|D.offU 14 rfl rfl rfl rfl (by kernel_rfl) G1 rfl<|D.offU 15 rfl rfl rfl rfl (by kernel_rfl) G1 rfl<|D.offU 16 rfl rfl rfl rfl (by kernel_rfl) G1 rfl<|D.offU 17 rfl rfl rfl rfl (by kernel_rfl) G1 rfl<|D.offU 18 rfl rfl rfl rfl (by kernel_rfl) G1 rfl<|D.offU 19 rfl rfl rfl rfl (by kernel_rfl) G1 rfl<|D.offU 20 rfl rfl rfl rfl (by kernel_rfl) G1 rfl ?_
     refine D.offU 21 rfl rfl rfl rfl (by kernel_rfl) G1 rfl<|D.offU 22 rfl rfl rfl rfl (by kernel_rfl) G1 rfl<|D.o 23 rfl rfl (by kernel_rfl) G1<|D.t 24 rfl (by kernel_rfl) (fun _ hS=>R1.pickT rfl rfl) G1<|D.z 25 rfl (by kernel_rfl) rfl G1<|D.o 26 rfl rfl (by kernel_rfl) G1<|D.o 27 rfl rfl (by kernel_rfl) G1<|D.o 28 rfl rfl (by kernel_rfl) G1<|D.o 29 rfl rfl (by kernel_rfl) G1<|D.t 30 rfl (by kernel_rfl) (fun _ hS=>R1.pickT rfl rfl) G1<|D.z 31 rfl (by kernel_rfl) rfl G1 ?_
     refine D.o 32 rfl rfl (by kernel_rfl) G1<|D.o 33 rfl rfl (by kernel_rfl) G1<|D.o 34 rfl rfl (by kernel_rfl) G1<|D.o 35 rfl rfl (by kernel_rfl) G1<|D.o 36 rfl rfl (by kernel_rfl) G1<|D.t 37 rfl (by kernel_rfl) (fun _ hS=>R1.pickT rfl rfl) G1<|D.done (by decide +kernel) ?_ _
     refine X.seq<|W.condT rfl<|W.sr<|L.b rfl<|L.z<|W.ret<|X.blockRet<|X.thenRet<|X.nextRet ?_
     refine X.blockRet<|X.thenRet<|X.result1 rfl (.tmp rfl .nil) ?_
     exact ⟨by rw [isC_false (.inr (.inr (.inr (isT_bad P32 his (by first | exact .inl (by omega) | exact .inr (.inl W42) | (have h9:=hl1 _ (by omega) P52; exact .inl (by omega)) | exact .inr (.inr (.inl W64)) | exact .inr (.inr (.inr J70)))))))],C0⟩
    simp only [bq] at W36
    refine D.o 4 rfl rfl (by kernel_rfl) G1<|D.o 5 rfl rfl (by kernel_rfl) G1<|D.o 6 rfl rfl (by kernel_rfl) G1<|D.o 7 rfl rfl (by kernel_rfl) G1<|D.t 8 rfl (by kernel_rfl) (fun _ hS=>R1.pickT rfl rfl) G1<|D.z 9 rfl (by kernel_rfl) rfl G1<|D.o 10 rfl rfl (by kernel_rfl) G1<|D.o 11 rfl rfl (by kernel_rfl) G1<|D.o 12 rfl rfl (by kernel_rfl) G1<|D.offU 13 rfl rfl rfl rfl (by kernel_rfl) G1 rfl<|D.offU 14 rfl rfl rfl rfl (by kernel_rfl) G1 rfl ?_
    refine D.offU 15 rfl rfl rfl rfl (by kernel_rfl) G1 rfl<|D.offU 16 rfl rfl rfl rfl (by kernel_rfl) G1 rfl<|D.offU 17 rfl rfl rfl rfl (by kernel_rfl) G1 rfl<|D.offU 18 rfl rfl rfl rfl (by kernel_rfl) G1 rfl<|D.offU 19 rfl rfl rfl rfl (by kernel_rfl) G1 rfl<|D.offU 20 rfl rfl rfl rfl (by kernel_rfl) G1 rfl<|D.offU 21 rfl rfl rfl rfl (by kernel_rfl) G1 rfl<|D.offU 22 rfl rfl rfl rfl (by kernel_rfl) G1 rfl<|D.o 23 rfl rfl (by kernel_rfl) G1<|D.t 24 rfl (by kernel_rfl) (fun _ hS=>R1.pickT rfl rfl) G1<|D.z 25 rfl (by kernel_rfl) rfl G1 ?_
    refine D.o 26 rfl rfl (by kernel_rfl) G1<|D.o 27 rfl rfl (by kernel_rfl) G1<|D.o 28 rfl rfl (by kernel_rfl) G1<|D.o 29 rfl rfl (by kernel_rfl) G1<|D.t 30 rfl (by kernel_rfl) (fun _ hS=>R1.pickT rfl rfl) G1<|D.z 31 rfl (by kernel_rfl) rfl G1<|D.o 32 rfl rfl (by kernel_rfl) G1<|D.o 33 rfl rfl (by kernel_rfl) G1<|D.o 34 rfl rfl (by kernel_rfl) G1<|D.o 35 rfl rfl (by kernel_rfl) G1<|D.o 36 rfl rfl (by kernel_rfl) G1 ?_
    refine D.t 37 rfl (by kernel_rfl) (fun _ hS=>R1.pickT rfl rfl) G1<|D.done (by decide +kernel) ?_ _
    refine X.seq<|W.condT rfl<|W.sr<|L.b rfl<|L.z<|W.ret<|X.blockRet<|X.thenRet<|X.nextRet ?_
    refine X.blockRet<|X.thenRet<|X.result1 rfl (.tmp rfl .nil) ?_
    exact ⟨by rw [isC_false (.inr (.inr (.inr (isT_bad P32 his (by first | exact .inl (by omega) | exact .inr (.inl W42) | (have h9:=hl1 _ (by omega) P52; exact .inl (by omega)) | exact .inr (.inr (.inl W64)) | exact .inr (.inr (.inr J70)))))))],C0⟩
   intro J25
   try simp only [bq,ne_eq] at J25
   refine W.brk<|W.sr<|L.b rfl<|L.z<|W.ret ?_
   refine X.result1 rfl (.tmp rfl .nil) ?_
   obtain rfl:i=c.ts.length:=by omega
   exact ⟨by rw [isC_true W10 W15 J20 (by rw [his,List.drop_length]; rfl)],C0⟩
  simp only [bq] at W15
  refine L.o rfl<|L.o rfl<|L.o rfl<|L.o rfl<|L.pT rfl rfl<|L.z<|W.condT rfl<|W.sr<|L.b rfl ?_
  refine L.z<|W.ret<|X.thenRet<|X.result1 rfl (.tmp rfl .nil) ?_
  exact ⟨by rw [isC_false (by first | exact .inl W10 | exact .inr (.inl W15) | exact .inr (.inr (.inl J20)))],C0⟩
 simp only [bq] at W10
 refine L.o rfl<|L.o rfl<|L.o rfl<|L.pT rfl rfl<|L.k rfl<|L.o rfl<|L.o rfl<|L.o rfl<|L.o rfl<|L.pT rfl rfl<|L.nil ?_
 refine X.seq<|W.condT rfl<|W.sr<|L.b rfl<|L.z<|W.ret<|X.thenRet<|X.result1 rfl (.tmp rfl .nil) ?_
 exact ⟨by rw [isC_false (by first | exact .inl W10 | exact .inr (.inl W15) | exact .inr (.inr (.inl J20)))],C0⟩
end Go.Proofs.YthoooolflmbmbaaGreat
