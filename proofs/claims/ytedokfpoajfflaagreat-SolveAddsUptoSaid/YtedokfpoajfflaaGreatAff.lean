/- Walks: what the functions compute. -/
import Derived.Test.YtedokfpoajfflaaGreatRatI
import Derived.Test.YtedokfpoajfflaaGreatLay
namespace Go.Proofs.YtedokfpoajfflaaGreat
open Go.RowKit
set_option linter.unusedVariables false
set_option linter.unusedSimpArgs false
set_option maxRecDepth 10000
def isT (n:Int):Int→List TR→Bool
  | _,[]=>true
  | least,t :: r=>decide (least≤t.v) && (decide (t.v<n) && (t.c.is && (decide (t.c.n.length≠0) && isT n (t.v + 1) r)))
def isC (c:CR) (n:Int):Bool:=decide (0≤c.st) && (decide (c.st≤4) && (c.k.is && isT n 0 c.ts))
def SmQ (L:Nat) (q:QR):Prop:=q.n.length≤L∧q.d.length≤L
def SmC (L:Nat) (c:CR):Prop:=c.ts.length≤L∧SmQ L c.k∧∀ t∈c.ts,SmQ L t.c
theorem drop_get {α:Type} {ts:List α} {i:Nat} {z:α} (hz:ts[i]?=some z):ts.drop i=z :: ts.drop (i + 1):=by
  obtain ⟨hi,rfl⟩:=List.getElem?_eq_some_iff.1 hz
  exact List.drop_eq_getElem_cons hi
theorem isT_bad {n least:Int} {ts:List TR} {i:Nat} {z:TR} (hz:ts[i]?=some z) (h:isT n 0 ts=isT n least (ts.drop i)) (hb:z.v<least∨n≤z.v∨z.c.is=false∨z.c.n.length=0):isT n 0 ts=false:=by
  rw [h,drop_get hz,isT]
  rcases hb with hb | hb | hb | hb
  · rw [decide_eq_false (by omega)]; rfl
  · rw [decide_eq_false (p:=z.v<n) (by omega)]; simp
  · rw [hb]; simp
  rw [decide_eq_false (p:=z.c.n.length≠0) (by omega)]; simp
theorem isT_good {n least:Int} {ts:List TR} {i:Nat} {z:TR} (hz:ts[i]?=some z) (h:isT n 0 ts=isT n least (ts.drop i)) (h1:least≤z.v) (h2:z.v<n) (h3:z.c.is=true) (h4:z.c.n.length≠0):isT n 0 ts=isT n (z.v + 1) (ts.drop (i + 1)):=by
  rw [h,drop_get hz,isT,decide_eq_true h1,decide_eq_true h2,h3,decide_eq_true h4]; rfl
theorem isC_false {c:CR} {n:Int} (h:c.st<0∨4<c.st∨c.k.is=false∨isT n 0 c.ts=false):isC c n=false:=by
  unfold isC
  rcases h with h | h | h | h
  · rw [decide_eq_false (by omega)]; rfl
  · rw [decide_eq_false (p:=c.st≤4) (by omega)]; simp
  · rw [h]; simp
  rw [h]; simp
theorem isC_true {c:CR} {n:Int} (h1:0≤c.st) (h2:c.st≤4) (h3:c.k.is=true) (h4:isT n 0 c.ts=true):isC c n=true:=by
  unfold isC; rw [decide_eq_true h1,decide_eq_true h2,h3,h4]; rfl
theorem c_aff_Is {M N9 : List Nat} {w : World} {c : CR} {vt vn vd : Value} (ht : Lay rdT N9 w vt c.ts) (h : U32 N9 w vn c.k.n) (k : U32 N9 w vd c.k.d) {n : Int} (hn : n ≤ 9223372036854775807) (hbd : Bd M w) (hsm : SmC 1099511627776 c) :
    Ret Tryz.prog 16 #[.agg #[.int .i64 c.st,vt,.bool c.k.s,vn,vd],.int .i64 n] w (fun r w'=>r=.bool (isC c n)∧Mod [] w w'):=by
 obtain ⟨T9,t9,rfl⟩:=ht.form;obtain ⟨A9,c9,rfl⟩:=h.form;obtain ⟨B9,e9,rfl⟩:=k.form;have hlt:=hsm.1
 refine Ret.of (vs:=[.agg #[.int .i64 c.st,.slice T9 c.ts.length t9,.bool c.k.s,.slice A9 c.k.n.length c9,.slice B9 c.k.d.length e9],.int .i64 n]) (n:=56) Tryz.func16 rfl rfl rfl rfl ?_
 have hm0:Mod [] w w:=Mod.refl _ _
 refine W.seq<|W.region<|L.box rfl rfl ?_
 intro g2 w1 hN2
 replace ht:=ht.new hN2;replace h:=h.new hN2;replace k:=k.new hN2;replace hbd:=hbd.new hN2;have hge_g2:=New.ge hN2 hm0.size;replace hm0:=hm0.trans (hN2.mod.mono (by simp));have hb2:=hN2.blk;clear hN2
 refine L.a rfl rfl<|L.nil<|X.seq<|W.seq<|W.seq<|W.region<|L.v (R1.fieldAt rfl tyF47_0) rfl<|L.v (R1.loadFld rfl hb2 rfl tyP3) rfl<|L.v ((R1.lt rfl rfl).asB (c:=decide (c.st<0)) (rfl)) rfl<|L.m rfl rfl ?_
 cases hgd11:decide (c.st<0)
 ·
  simp only [bq] at hgd11
  refine L.on rfl rfl rfl (R1.fieldAt rfl tyF47_0) rfl<|L.on rfl rfl rfl (R1.loadFld rfl hb2 rfl tyP3) rfl<|L.on rfl rfl rfl ((R1.gt rfl rfl).asB (c:=decide (4<c.st)) (rfl)) rfl<|L.v (R1.pickF rfl rfl) rfl<|L.m rfl rfl ?_
  cases hgd16:decide (4<c.st)
  ·
   simp only [bq] at hgd16
   refine L.on rfl rfl rfl (R1.fieldAt rfl tyF47_2) rfl<|L.on rfl rfl rfl (R1.loadBoxAt (ds:=[.bool c.k.s,.slice A9 c.k.n.length c9,.slice B9 c.k.d.length e9]) rfl hb2 rfl tyG26) rfl<|L.callOn rfl rfl rfl rfl (c_rat_Is h k hbd hsm.2.1.1 hsm.2.1.2) rfl ?_
   rintro _ w2 ⟨rfl,hm2⟩
   replace ht:=ht.gr hm2;replace h:=h.gr hm2;replace k:=k.gr hm2;replace hbd:=hbd.gr hm2;replace hm0:=hm0.trans hm2;replace hb2:=Blk.gr hb2 hm2;clear hm2
   refine L.on rfl rfl rfl (R1.not rfl) rfl<|L.v (R1.pickF rfl rfl) rfl<|L.nil<|X.seq<|W.cond rfl ?_ ?_
   ·
    intro hc21
    simp only [bq] at hc21
    refine W.seq<|W.region<|L.a rfl rfl<|L.nil<|X.seq<|W.ret<|X.thenRet<|X.result1 rfl (.tmp rfl .nil) ?_
    exact ⟨by rw [isC_false (by first | exact .inl hgd11 | exact .inr (.inl hgd16) | exact .inr (.inr (.inl hc21)))],hm0⟩
   intro hc21
   simp only [bq] at hc21
   refine W.skip<|X.seq<|W.seq<|W.region<|L.a rfl rfl<|L.nil<|X.seq<|W.seq<|W.seq<|W.region<|L.v (R1.fieldAt rfl tyF47_1) rfl ?_
   refine L.v (R1.loadFld rfl hb2 rfl tyP44) rfl<|L.v (R1.lenLay rfl ht tyS44) rfl<|L.m rfl rfl<|L.nil<|X.seq<|W.block<|W.loop (ι:=Nat × Int) (fun (i,least)=>[(1,.int .i64 n),(23,.slice T9 c.ts.length t9),(24,.int .i64 (c.ts.length:Int)),(25,.int .i64 (i:Int)),(5,.int .i64 least)]) (fun (i,least) w_=>i≤c.ts.length∧0≤least∧isT n 0 c.ts=isT n least (c.ts.drop i)∧Lay rdT (g2 :: N9) w_ (.slice T9 c.ts.length t9) c.ts∧Bd (g2 :: M) w_∧Mod [] w w_) (fun (i,least)=>c.ts.length - i) (0,0) ?_ ?_ ?_
   · exact ⟨rfl,rfl,rfl,rfl,rfl,trivial⟩
   ·
    exact ⟨Nat.zero_le _,Int.le_refl _,by simp,ht,hbd,hm0⟩
   rintro ⟨i,least⟩ w3 ⟨hi,hl0,his,ht,hbd,hm0⟩
   refine W.seq<|W.region<|L.v (R1.lt rfl rfl) rfl<|L.nil<|X.seq<|W.seq<|W.cond rfl ?_ ?_
   ·
    intro hc26
    try simp only [bq,ne_eq] at hc26
    refine W.skip<|X.seq<|W.seq<|W.block<|W.seq<|W.region<|L.v (R1.atLay (j:=i) rfl rfl ht tyS44 rfl (by omega)) rfl ?_
    obtain ⟨z28,cs28,hz28,hE28,ds28,rfl,vn28,vd28,rfl,hn28,hd28⟩:=Lay.elemQ ht (j:=i) (by omega);obtain ⟨A28,c28,rfl⟩:=hn28.form;obtain ⟨B28,e28,rfl⟩:=hd28.form
    refine L.v (R1.loadE rfl hE28 tyG43) rfl<|L.alloc tyZ43 rfl ?_
    intro g7 w4 hN7
    replace ht:=ht.new hN7;replace hbd:=hbd.new hN7;have hge_g7:=New.ge hN7 hm0.size;replace hm0:=hm0.trans (hN7.mod.mono (by simp));replace hn28:=hn28.new hN7;replace hd28:=hd28.new hN7;have hb7:=hN7.blk;clear hN7
    refine L.storeBox rfl rfl hb7 rfl rfl tyG43 ?_
    intro w5 hb7' hm5
    replace ht:=ht.mod hm5 (by simp);replace hbd:=hbd.gr hm5;replace hm0:=hm0.old1 hm5 hge_g7;replace hn28:=hn28.mod hm5 (by simp);replace hd28:=hd28.mod hm5 (by simp);clear hm5;replace hb7:=hb7'; clear hb7'
    refine L.nil<|X.seq<|W.seq<|W.seq<|W.region<|L.v (R1.fieldAt rfl tyF43_0) rfl<|L.v (R1.loadFld rfl hb7 rfl tyP3) rfl<|L.m rfl rfl<|L.v ((R1.lt rfl rfl).asB (c:=decide (z28.v<least)) (rfl)) rfl<|L.m rfl rfl ?_
    cases hgd33:decide (z28.v<least)
    ·
     simp only [bq] at hgd33
     refine L.on rfl rfl rfl (R1.fieldAt rfl tyF43_0) rfl<|L.on rfl rfl rfl (R1.loadFld rfl hb7 rfl tyP3) rfl<|L.on rfl rfl rfl (R1.move rfl) rfl<|L.on rfl rfl rfl ((R1.ge rfl rfl).asB (c:=decide (n≤z28.v)) (rfl)) rfl<|L.v (R1.pickF rfl rfl) rfl<|L.m rfl rfl ?_
     cases hgd39:decide (n≤z28.v)
     ·
      simp only [bq] at hgd39
      refine L.on rfl rfl rfl (R1.fieldAt rfl tyF43_1) rfl<|L.on rfl rfl rfl (R1.loadBoxAt (ds:=[.bool z28.c.s,.slice A28 z28.c.n.length c28,.slice B28 z28.c.d.length e28]) rfl hb7 rfl tyG26) rfl<|L.callOn rfl rfl rfl rfl (c_rat_Is hn28 hd28 hbd (hsm.2.2 _ (List.mem_of_getElem? hz28)).1 (hsm.2.2 _ (List.mem_of_getElem? hz28)).2) rfl ?_
      rintro _ w6 ⟨rfl,hm6⟩
      replace ht:=ht.gr hm6;replace hbd:=hbd.gr hm6;replace hm0:=hm0.trans hm6;replace hn28:=hn28.gr hm6;replace hd28:=hd28.gr hm6;replace hb7:=Blk.gr hb7 hm6;clear hm6
      refine L.on rfl rfl rfl (R1.not rfl) rfl<|L.v (R1.pickF rfl rfl) rfl<|L.m rfl rfl ?_
      cases hgd45:(!(isN z28.c.s z28.c.n z28.c.d))
      ·
       simp only [bq] at hgd45
       refine L.on rfl rfl rfl (R1.fieldAt rfl tyF43_1) rfl<|L.on rfl rfl rfl (R1.fieldAt rfl tyF26_1) rfl<|L.on rfl rfl rfl (R1.loadFld rfl hb7 rfl tyP24) rfl<|L.on rfl rfl rfl (R1.lenU rfl (by assumption) tyS24) rfl<|L.on rfl rfl rfl ((R1.eq rfl rfl).asB (c:=decide (z28.c.n.length=0)) (by congr 1; apply propext; omega)) rfl<|L.v (R1.pickF rfl rfl) rfl<|L.nil<|X.seq<|W.cond rfl ?_ ?_
       ·
        intro hc51
        simp only [bq] at hc51
        refine W.seq<|W.region<|L.a rfl rfl<|L.nil<|X.seq<|W.ret<|X.thenRet<|X.blockRet<|X.thenRet<|X.nextRet<|X.blockRet ?_
        refine X.thenRet<|X.result1 rfl (.tmp rfl .nil) ?_
        exact ⟨by rw [isC_false (.inr (.inr (.inr (isT_bad hz28 his (by first | exact .inl hgd33 | exact .inr (.inl hgd39) | exact .inr (.inr (.inl hgd45)) | exact .inr (.inr (.inr hc51)))))))],hm0⟩
       intro hc51
       simp only [bq] at hc51
       refine W.skip<|X.seq<|W.region<|L.v (R1.fieldAt rfl tyF43_0) rfl<|L.v (R1.loadFld rfl hb7 rfl tyP3) rfl<|L.v ((R1.add rfl rfl).as (wrap_i64 (by omega) (by omega))) rfl<|L.a rfl rfl<|L.nil<|X.blockEnd<|X.seq<|W.region ?_
       refine L.v (R1.addI (b:=1) rfl rfl (by omega)) rfl<|L.m rfl rfl<|L.nil<|X.next (i + 1,z28.v + 1) ?_ ?_ ?_
       · exact ⟨rfl,rfl,rfl,rfl,rfl,trivial⟩
       ·
        exact ⟨by omega,by omega,isT_good hz28 his hgd33 hgd39 hgd45 hc51,(ht.sub (by intro b hb; simp [hb])),(fun m hm=>hbd m (by simp only [List.mem_cons] at hm ⊢; rcases hm with rfl | hm <;> simp [*])),hm0⟩
       first | omega | (dsimp only; omega)
      simp only [bq] at hgd45
      refine L.off rfl rfl rfl rfl rfl<|L.off rfl rfl rfl rfl rfl<|L.off rfl rfl rfl rfl rfl<|L.off rfl rfl rfl rfl rfl<|L.off rfl rfl rfl rfl rfl<|L.v (R1.pickT rfl rfl) rfl<|L.nil<|X.seq<|W.condT rfl<|W.seq<|W.region ?_
      refine L.a rfl rfl<|L.nil<|X.seq<|W.ret<|X.thenRet<|X.blockRet<|X.thenRet<|X.nextRet<|X.blockRet<|X.thenRet<|X.result1 rfl (.tmp rfl .nil) ?_
      exact ⟨by rw [isC_false (.inr (.inr (.inr (isT_bad hz28 his (by first | exact .inl hgd33 | exact .inr (.inl hgd39) | exact .inr (.inr (.inl hgd45)) | exact .inr (.inr (.inr hc51)))))))],hm0⟩
     simp only [bq] at hgd39
     refine L.off rfl rfl rfl rfl rfl<|L.off rfl rfl rfl rfl rfl<|L.off rfl rfl rfl rfl rfl<|L.off rfl rfl rfl rfl rfl<|L.v (R1.pickT rfl rfl) rfl<|L.m rfl rfl<|L.off rfl rfl rfl rfl rfl<|L.off rfl rfl rfl rfl rfl<|L.off rfl rfl rfl rfl rfl<|L.off rfl rfl rfl rfl rfl<|L.off rfl rfl rfl rfl rfl ?_
     refine L.v (R1.pickT rfl rfl) rfl<|L.nil<|X.seq<|W.condT rfl<|W.seq<|W.region<|L.a rfl rfl<|L.nil<|X.seq<|W.ret<|X.thenRet ?_
     refine X.blockRet<|X.thenRet<|X.nextRet<|X.blockRet<|X.thenRet<|X.result1 rfl (.tmp rfl .nil) ?_
     exact ⟨by rw [isC_false (.inr (.inr (.inr (isT_bad hz28 his (by first | exact .inl hgd33 | exact .inr (.inl hgd39) | exact .inr (.inr (.inl hgd45)) | exact .inr (.inr (.inr hc51)))))))],hm0⟩
    simp only [bq] at hgd33
    refine L.off rfl rfl rfl rfl rfl<|L.off rfl rfl rfl rfl rfl<|L.off rfl rfl rfl rfl rfl<|L.off rfl rfl rfl rfl rfl<|L.v (R1.pickT rfl rfl) rfl<|L.m rfl rfl<|L.off rfl rfl rfl rfl rfl<|L.off rfl rfl rfl rfl rfl<|L.off rfl rfl rfl rfl rfl<|L.off rfl rfl rfl rfl rfl<|L.v (R1.pickT rfl rfl) rfl ?_
    refine L.m rfl rfl<|L.off rfl rfl rfl rfl rfl<|L.off rfl rfl rfl rfl rfl<|L.off rfl rfl rfl rfl rfl<|L.off rfl rfl rfl rfl rfl<|L.off rfl rfl rfl rfl rfl<|L.v (R1.pickT rfl rfl) rfl<|L.nil<|X.seq<|W.condT rfl<|W.seq ?_
    refine W.region<|L.a rfl rfl<|L.nil<|X.seq<|W.ret<|X.thenRet<|X.blockRet<|X.thenRet<|X.nextRet<|X.blockRet<|X.thenRet ?_
    refine X.result1 rfl (.tmp rfl .nil) ?_
    exact ⟨by rw [isC_false (.inr (.inr (.inr (isT_bad hz28 his (by first | exact .inl hgd33 | exact .inr (.inl hgd39) | exact .inr (.inr (.inl hgd45)) | exact .inr (.inr (.inr hc51)))))))],hm0⟩
   intro hc26
   try simp only [bq,ne_eq] at hc26
   refine W.exit<|X.thenExit<|X.nextExit<|X.here<|X.seq<|W.seq<|W.region<|L.a rfl rfl<|L.nil<|X.seq<|W.ret ?_
   refine X.result1 rfl (.tmp rfl .nil) ?_
   obtain rfl:i=c.ts.length:=by omega
   exact ⟨by rw [isC_true hgd11 hgd16 hc21 (by rw [his,List.drop_length]; rfl)],hm0⟩
  simp only [bq] at hgd16
  refine L.off rfl rfl rfl rfl rfl<|L.off rfl rfl rfl rfl rfl<|L.off rfl rfl rfl rfl rfl<|L.off rfl rfl rfl rfl rfl<|L.v (R1.pickT rfl rfl) rfl<|L.nil<|X.seq<|W.condT rfl<|W.seq<|W.region<|L.a rfl rfl ?_
  refine L.nil<|X.seq<|W.ret<|X.thenRet<|X.result1 rfl (.tmp rfl .nil) ?_
  exact ⟨by rw [isC_false (by first | exact .inl hgd11 | exact .inr (.inl hgd16) | exact .inr (.inr (.inl hc21)))],hm0⟩
 simp only [bq] at hgd11
 refine L.off rfl rfl rfl rfl rfl<|L.off rfl rfl rfl rfl rfl<|L.off rfl rfl rfl rfl rfl<|L.v (R1.pickT rfl rfl) rfl<|L.m rfl rfl<|L.off rfl rfl rfl rfl rfl<|L.off rfl rfl rfl rfl rfl<|L.off rfl rfl rfl rfl rfl<|L.off rfl rfl rfl rfl rfl<|L.v (R1.pickT rfl rfl) rfl<|L.nil ?_
 refine X.seq<|W.condT rfl<|W.seq<|W.region<|L.a rfl rfl<|L.nil<|X.seq<|W.ret<|X.thenRet<|X.result1 rfl (.tmp rfl .nil) ?_
 exact ⟨by rw [isC_false (by first | exact .inl hgd11 | exact .inr (.inl hgd16) | exact .inr (.inr (.inl hc21)))],hm0⟩
theorem c_ref8_Is {M N9 : List Nat} {w : World} {c : CR} {vt vn vd : Value} (ht : Lay rdT N9 w vt c.ts) (h : U32 N9 w vn c.k.n) (k : U32 N9 w vd c.k.d) {n : Int} (hn : n ≤ 9223372036854775807) (hbd : Bd M w) (hsm : SmC 1099511627776 c) :
    Ret Tryz.prog 49 #[.agg #[.int .i64 c.st,vt,.bool c.k.s,vn,vd],.int .i64 n] w (fun r w'=>r=.bool (isC c n)∧Mod [] w w'):=by
 obtain ⟨T9,t9,rfl⟩:=ht.form;obtain ⟨A9,c9,rfl⟩:=h.form;obtain ⟨B9,e9,rfl⟩:=k.form;have hlt:=hsm.1
 refine Ret.of (vs:=[.agg #[.int .i64 c.st,.slice T9 c.ts.length t9,.bool c.k.s,.slice A9 c.k.n.length c9,.slice B9 c.k.d.length e9],.int .i64 n]) (n:=71) Tryz.func49 rfl rfl rfl rfl ?_
 have hm0:Mod [] w w:=Mod.refl _ _
 refine W.seq<|W.region<|L.box rfl rfl ?_
 intro g2 w1 hN2
 replace ht:=ht.new hN2;replace h:=h.new hN2;replace k:=k.new hN2;replace hbd:=hbd.new hN2;have hge_g2:=New.ge hN2 hm0.size;replace hm0:=hm0.trans (hN2.mod.mono (by simp));have hb2:=hN2.blk;clear hN2
 refine L.a rfl rfl<|L.nil<|X.seq<|W.seq<|W.seq<|W.region<|L.v (R1.fieldAt rfl tyF47_0) rfl<|L.v (R1.loadFld rfl hb2 rfl tyP3) rfl<|L.v ((R1.lt rfl rfl).asB (c:=decide (c.st<0)) (rfl)) rfl<|L.m rfl rfl ?_
 cases hgd10:decide (c.st<0)
 ·
  simp only [bq] at hgd10
  refine L.on rfl rfl rfl (R1.fieldAt rfl tyF47_0) rfl<|L.on rfl rfl rfl (R1.loadFld rfl hb2 rfl tyP3) rfl<|L.on rfl rfl rfl ((R1.gt rfl rfl).asB (c:=decide (4<c.st)) (rfl)) rfl<|L.v (R1.pickF rfl rfl) rfl<|L.m rfl rfl ?_
  cases hgd15:decide (4<c.st)
  ·
   simp only [bq] at hgd15
   refine L.on rfl rfl rfl (R1.fieldAt rfl tyF47_2) rfl<|L.on rfl rfl rfl (R1.loadBoxAt (ds:=[.bool c.k.s,.slice A9 c.k.n.length c9,.slice B9 c.k.d.length e9]) rfl hb2 rfl tyG26) rfl<|L.callOn rfl rfl rfl rfl (c_ref2_Is h k hbd hsm.2.1.1 hsm.2.1.2) rfl ?_
   rintro _ w2 ⟨rfl,hm2⟩
   replace ht:=ht.gr hm2;replace h:=h.gr hm2;replace k:=k.gr hm2;replace hbd:=hbd.gr hm2;replace hm0:=hm0.trans hm2;replace hb2:=Blk.gr hb2 hm2;clear hm2
   refine L.on rfl rfl rfl (R1.not rfl) rfl<|L.v (R1.pickF rfl rfl) rfl<|L.nil<|X.seq<|W.cond rfl ?_ ?_
   ·
    intro hc20
    simp only [bq] at hc20
    refine W.seq<|W.region<|L.a rfl rfl<|L.nil<|X.seq<|W.ret<|X.thenRet<|X.result1 rfl (.tmp rfl .nil) ?_
    exact ⟨by rw [isC_false (by first | exact .inl hgd10 | exact .inr (.inl hgd15) | exact .inr (.inr (.inl hc20)))],hm0⟩
   intro hc20
   simp only [bq] at hc20
   refine W.skip<|X.seq<|W.seq<|W.seq<|W.region<|L.a rfl rfl<|L.nil<|X.seq<|W.block<|W.loop (ι:=Nat × Int) (fun (i,least)=>[(1,.int .i64 n),(2,.pointer (some ⟨g2,0,none⟩)),(5,.int .i64 (i:Int))]) (fun (i,least) w_=>i≤c.ts.length∧0≤least∧(∀ z,0<i→c.ts[i - 1]?=some z→least=z.v + 1)∧(i=0→least=0)∧isT n 0 c.ts=isT n least (c.ts.drop i)∧Lay rdT (g2 :: N9) w_ (.slice T9 c.ts.length t9) c.ts∧Blk w_ g2 47 #[.int .i64 c.st,.slice T9 c.ts.length t9,.bool c.k.s,.slice A9 c.k.n.length c9,.slice B9 c.k.d.length e9]∧Bd (g2 :: M) w_∧Mod [] w w_) (fun (i,least)=>c.ts.length - i) (0,0) ?_ ?_ ?_
   · exact ⟨rfl,rfl,rfl,trivial⟩
   ·
    exact ⟨Nat.zero_le _,Int.le_refl _,(fun z h9=>by omega),(fun _=>rfl),by simp,ht,hb2,hbd,hm0⟩
   rintro ⟨i,least⟩ w3 ⟨hi,hl0,hl1,hl2,his,ht,hb2,hbd,hm0⟩
   refine W.seq<|W.seq<|W.region<|L.m rfl rfl<|L.v (R1.fieldAt rfl tyF47_1) rfl<|L.v (R1.loadFld rfl hb2 rfl tyP44) rfl<|L.v (R1.lenLay rfl ht tyS44) rfl<|L.v (R1.lt rfl rfl) rfl<|L.nil<|X.seq<|W.cond rfl ?_ ?_
   ·
    intro hc25
    try simp only [bq,ne_eq] at hc25
    refine W.skip<|X.seq<|W.seq<|W.block<|W.seq<|W.region<|L.v (R1.fieldAt rfl tyF47_1) rfl<|L.v (R1.loadFld rfl hb2 rfl tyP44) rfl<|L.m rfl rfl<|L.v (R1.atLay (j:=i) rfl rfl ht tyS44 rfl (by omega)) rfl ?_
    obtain ⟨z32,cs32,hz32,hE32,ds32,rfl,vn32,vd32,rfl,hn32,hd32⟩:=Lay.elemQ ht (j:=i) (by omega);obtain ⟨A32,c32,rfl⟩:=hn32.form;obtain ⟨B32,e32,rfl⟩:=hd32.form
    refine L.v (R1.loadE rfl hE32 tyG43) rfl<|L.alloc tyZ43 rfl ?_
    intro g6 w4 hN6
    replace ht:=ht.new hN6;have hne_g2_g6:=hb2.ne_ hN6;replace hb2:=Blk.gr hb2 hN6.mod;replace hbd:=hbd.new hN6;have hge_g6:=New.ge hN6 hm0.size;replace hm0:=hm0.trans (hN6.mod.mono (by simp));replace hn32:=hn32.new hN6;replace hd32:=hd32.new hN6;have hb6:=hN6.blk;clear hN6
    refine L.storeBox rfl rfl hb6 rfl rfl tyG43 ?_
    intro w5 hb6' hm5
    replace ht:=ht.mod hm5 (by simp);replace hb2:=Blk.far hb2 hm5 (by first | exact hne_g2_g6 | exact (hne_g6_g2).symm);replace hbd:=hbd.gr hm5;replace hm0:=hm0.old1 hm5 hge_g6;replace hn32:=hn32.mod hm5 (by simp);replace hd32:=hd32.mod hm5 (by simp);clear hm5;replace hb6:=hb6'; clear hb6'
    refine L.nil<|X.seq<|W.seq<|W.drawW (T:=[]) rfl (by decide +kernel) (NoHang.then (NoHang.block (NoHang.then (NoHang.next (NoHang.block (NoHang.then NoHang.post)))))) (fun w6 hm6=>?_)
    replace ht:=ht.gr hm6;replace hb2:=Blk.gr hb2 hm6;replace hbd:=hbd.gr hm6;replace hm0:=hm0.trans hm6;replace hn32:=hn32.gr hm6;replace hd32:=hd32.gr hm6;replace hb6:=Blk.gr hb6 hm6
    have hS1:Mod [] w6 w6:=Mod.refl _ _
    clear hm6;have hb2_s:=hb2;have hb6_s:=hb6
    refine D.take 0 rfl (by kernel_rfl) (fun w_ hS=>(R1.fieldAt rfl tyF43_0)) hS1 rfl<|D.take 1 rfl (by kernel_rfl) (fun w_ hS=>(R1.loadFld rfl (Blk.gr hb6_s hS) rfl tyP3)) hS1 rfl<|D.take 2 rfl (by kernel_rfl) (fun w_ hS=>((R1.lt rfl rfl).asB (c:=decide (z32.v<0)) (rfl))) hS1 rfl<|D.m 3 rfl (by kernel_rfl) rfl hS1 rfl ?_
    cases hgd36:decide (z32.v<0)
    ·
     simp only [bq] at hgd36
     refine D.takeOn 4 rfl rfl rfl rfl (by kernel_rfl) (fun w_ hS=>(R1.fieldAt rfl tyF43_0)) hS1 rfl<|D.takeOn 5 rfl rfl rfl rfl (by kernel_rfl) (fun w_ hS=>(R1.loadFld rfl (Blk.gr hb6_s hS) rfl tyP3)) hS1 rfl<|D.takeOn 6 rfl rfl rfl rfl (by kernel_rfl) (fun w_ hS=>(R1.move rfl)) hS1 rfl<|D.takeOn 7 rfl rfl rfl rfl (by kernel_rfl) (fun w_ hS=>((R1.ge rfl rfl).asB (c:=decide (n≤z32.v)) (rfl))) hS1 rfl<|D.take 8 rfl (by kernel_rfl) (fun w_ hS=>(R1.pickF rfl rfl)) hS1 rfl<|D.m 9 rfl (by kernel_rfl) rfl hS1 rfl ?_
     cases hgd42:decide (n≤z32.v)
     ·
      simp only [bq] at hgd42
      refine D.takeOn 10 rfl rfl rfl rfl (by kernel_rfl) (fun w_ hS=>(R1.move rfl)) hS1 rfl<|D.takeOn 11 rfl rfl rfl rfl (by kernel_rfl) (fun w_ hS=>((R1.gt rfl rfl).asB (c:=decide (0<(i:Int))) (rfl))) hS1 rfl<|D.takeOn 12 rfl rfl rfl rfl (by kernel_rfl) (fun w_ hS=>(R1.move rfl)) hS1 rfl ?_
      cases hgd45:decide (0<(i:Int))
      ·
       simp only [bq] at hgd45
       refine D.off 13 rfl rfl rfl rfl rfl (by kernel_rfl) hS1 rfl<|D.off 14 rfl rfl rfl rfl rfl (by kernel_rfl) hS1 rfl<|D.off 15 rfl rfl rfl rfl rfl (by kernel_rfl) hS1 rfl<|D.off 16 rfl rfl rfl rfl rfl (by kernel_rfl) hS1 rfl<|D.off 17 rfl rfl rfl rfl rfl (by kernel_rfl) hS1 rfl<|D.off 18 rfl rfl rfl rfl rfl (by kernel_rfl) hS1 rfl<|D.off 19 rfl rfl rfl rfl rfl (by kernel_rfl) hS1 rfl<|D.off 20 rfl rfl rfl rfl rfl (by kernel_rfl) hS1 rfl<|D.off 21 rfl rfl rfl rfl rfl (by kernel_rfl) hS1 rfl<|D.off 22 rfl rfl rfl rfl rfl (by kernel_rfl) hS1 rfl<|D.takeOn 23 rfl rfl rfl rfl (by kernel_rfl) (fun w_ hS=>(R1.pickF rfl rfl)) hS1 rfl ?_
       refine D.take 24 rfl (by kernel_rfl) (fun w_ hS=>(R1.pickF rfl rfl)) hS1 rfl<|D.m 25 rfl (by kernel_rfl) rfl hS1 rfl<|D.takeOn 26 rfl rfl rfl rfl (by kernel_rfl) (fun w_ hS=>(R1.fieldAt rfl tyF43_1)) hS1 rfl<|D.takeOn 27 rfl rfl rfl rfl (by kernel_rfl) (fun w_ hS=>(R1.loadBoxAt (ds:=[.bool z32.c.s,.slice A32 z32.c.n.length c32,.slice B32 z32.c.d.length e32]) rfl (Blk.gr hb6_s hS) rfl tyG26)) hS1 rfl<|D.one 28 rfl (by kernel_rfl) (fun hX=>?_)
       refine L.callOn rfl rfl rfl rfl (c_ref2_Is hn32 hd32 hbd (hsm.2.2 _ (List.mem_of_getElem? hz32)).1 (hsm.2.2 _ (List.mem_of_getElem? hz32)).2) rfl ?_
       rintro _ w7 ⟨rfl,hm7⟩
       replace ht:=ht.gr hm7;replace hb2:=Blk.gr hb2 hm7;replace hbd:=hbd.gr hm7;replace hm0:=hm0.trans hm7;replace hn32:=hn32.gr hm7;replace hd32:=hd32.gr hm7;replace hb6:=Blk.gr hb6 hm7;replace hS1:=hS1.trans hm7;clear hm7
       refine L.nil (hX _ _ ⟨.inr hS1,?_⟩)
       refine D.takeOn 29 rfl rfl rfl rfl (by kernel_rfl) (fun w_ hS=>(R1.not rfl)) hS1 rfl<|D.take 30 rfl (by kernel_rfl) (fun w_ hS=>(R1.pickF rfl rfl)) hS1 rfl<|D.m 31 rfl (by kernel_rfl) rfl hS1 rfl ?_
       cases hgd64:(!(isN z32.c.s z32.c.n z32.c.d))
       ·
        simp only [bq] at hgd64
        refine D.takeOn 32 rfl rfl rfl rfl (by kernel_rfl) (fun w_ hS=>(R1.fieldAt rfl tyF43_1)) hS1 rfl<|D.takeOn 33 rfl rfl rfl rfl (by kernel_rfl) (fun w_ hS=>(R1.fieldAt rfl tyF26_1)) hS1 rfl<|D.takeOn 34 rfl rfl rfl rfl (by kernel_rfl) (fun w_ hS=>(R1.loadFld rfl (Blk.gr hb6_s hS) rfl tyP24)) hS1 rfl<|D.takeOn 35 rfl rfl rfl rfl (by kernel_rfl) (fun w_ hS=>(R1.len rfl tyS24)) hS1 rfl<|D.takeOn 36 rfl rfl rfl rfl (by kernel_rfl) (fun w_ hS=>((R1.eq rfl rfl).asB (c:=decide (z32.c.n.length=0)) (by congr 1; apply propext; omega))) hS1 rfl<|D.take 37 rfl (by kernel_rfl) (fun w_ hS=>(R1.pickF rfl rfl)) hS1 rfl<|D.done (by decide +kernel) ?_ _
        refine X.seq<|W.cond rfl ?_ ?_
        ·
         intro hc70
         simp only [bq] at hc70
         refine W.seq<|W.region<|L.a rfl rfl<|L.nil<|X.seq<|W.ret<|X.blockRet<|X.thenRet<|X.nextRet<|X.blockRet<|X.thenRet ?_
         refine X.result1 rfl (.tmp rfl .nil) ?_
         exact ⟨by rw [isC_false (.inr (.inr (.inr (isT_bad hz32 his (by first | exact .inl (by omega) | exact .inr (.inl hgd42) | (have h9:=hl1 _ (by omega) hz52; exact .inl (by omega)) | exact .inr (.inr (.inl hgd64)) | exact .inr (.inr (.inr hc70)))))))],hm0⟩
        intro hc70
        simp only [bq] at hc70
        refine W.skip<|X.blockEnd<|X.seq<|W.region<|L.m rfl rfl<|L.v (R1.addI (b:=1) rfl rfl (by omega)) rfl<|L.a rfl rfl<|L.nil<|X.next (i + 1,z32.v + 1) ?_ ?_ ?_
        · exact ⟨rfl,rfl,rfl,trivial⟩
        ·
         have hlo:least≤z32.v:=by first | (have h9:=hl1 _ (by omega) hz52; omega) | (have h9:=hl2 (by omega); omega)
         refine ⟨by omega,by omega,(fun z _ hz9=>?_),(fun h9=>by omega),isT_good hz32 his hlo hgd42 hgd64 hc70,(ht.sub (by intro b hb; simp [hb])),hb2,(fun m hm=>hbd m (by simp only [List.mem_cons] at hm ⊢; rcases hm with rfl | hm <;> simp [*])),hm0⟩
         rw [Nat.add_sub_cancel,hz32] at hz9; injection hz9 with e; rw [e]
        first | omega | (dsimp only; omega)
       simp only [bq] at hgd64
       refine D.off 32 rfl rfl rfl rfl rfl (by kernel_rfl) hS1 rfl<|D.off 33 rfl rfl rfl rfl rfl (by kernel_rfl) hS1 rfl<|D.off 34 rfl rfl rfl rfl rfl (by kernel_rfl) hS1 rfl<|D.off 35 rfl rfl rfl rfl rfl (by kernel_rfl) hS1 rfl<|D.off 36 rfl rfl rfl rfl rfl (by kernel_rfl) hS1 rfl<|D.take 37 rfl (by kernel_rfl) (fun w_ hS=>(R1.pickT rfl rfl)) hS1 rfl<|D.done (by decide +kernel) ?_ _
       refine X.seq<|W.condT rfl<|W.seq<|W.region<|L.a rfl rfl<|L.nil<|X.seq<|W.ret<|X.blockRet<|X.thenRet<|X.nextRet ?_
       refine X.blockRet<|X.thenRet<|X.result1 rfl (.tmp rfl .nil) ?_
       exact ⟨by rw [isC_false (.inr (.inr (.inr (isT_bad hz32 his (by first | exact .inl (by omega) | exact .inr (.inl hgd42) | (have h9:=hl1 _ (by omega) hz52; exact .inl (by omega)) | exact .inr (.inr (.inl hgd64)) | exact .inr (.inr (.inr hc70)))))))],hm0⟩
      simp only [bq] at hgd45
      refine D.takeOn 13 rfl rfl rfl rfl (by kernel_rfl) (fun w_ hS=>(R1.fieldAt rfl tyF47_1)) hS1 rfl<|D.takeOn 14 rfl rfl rfl rfl (by kernel_rfl) (fun w_ hS=>(R1.loadFld rfl (Blk.gr hb2_s hS) rfl tyP44)) hS1 rfl<|D.takeOn 15 rfl rfl rfl rfl (by kernel_rfl) (fun w_ hS=>(R1.move rfl)) hS1 rfl<|D.takeOn 16 rfl rfl rfl rfl (by kernel_rfl) (fun w_ hS=>(R1.subI (b:=1) rfl rfl (by omega) (by omega))) hS1 rfl<|D.takeOn 17 rfl rfl rfl rfl (by kernel_rfl) (fun w_ hS=>(R1.atLay (j:=(i - 1)) rfl rfl (Lay.gr ht hS) tyS44 rfl (by omega))) hS1 rfl<|D.takeOn 18 rfl rfl rfl rfl (by kernel_rfl) (fun w_ hS=>(R1.fieldAddr rfl tyF43_0)) hS1 rfl ?_
      obtain ⟨z52,cs52,hz52,hE52,ds52,rfl,vn52,vd52,rfl,hn52,hd52⟩:=Lay.elemQ ht (j:=(i - 1)) (by omega);obtain ⟨A52,c52,rfl⟩:=hn52.form;obtain ⟨B52,e52,rfl⟩:=hd52.form
      refine D.takeOn 19 rfl rfl rfl rfl (by kernel_rfl) (fun w_ hS=>(R1.loadEF rfl (SlE.gr hE52 hS) rfl tyP3)) hS1 rfl<|D.takeOn 20 rfl rfl rfl rfl (by kernel_rfl) (fun w_ hS=>(R1.fieldAt rfl tyF43_0)) hS1 rfl<|D.takeOn 21 rfl rfl rfl rfl (by kernel_rfl) (fun w_ hS=>(R1.loadFld rfl (Blk.gr hb6_s hS) rfl tyP3)) hS1 rfl<|D.takeOn 22 rfl rfl rfl rfl (by kernel_rfl) (fun w_ hS=>((R1.ge rfl rfl).asB (c:=decide (z32.v≤z52.v)) (rfl))) hS1 rfl<|D.takeOn 23 rfl rfl rfl rfl (by kernel_rfl) (fun w_ hS=>(R1.pickT rfl rfl)) hS1 rfl<|D.take 24 rfl (by kernel_rfl) (fun w_ hS=>(R1.pickF rfl rfl)) hS1 rfl<|D.m 25 rfl (by kernel_rfl) rfl hS1 rfl ?_
      cases hgd58:decide (z32.v≤z52.v)
      ·
       simp only [bq] at hgd58
       refine D.takeOn 26 rfl rfl rfl rfl (by kernel_rfl) (fun w_ hS=>(R1.fieldAt rfl tyF43_1)) hS1 rfl<|D.takeOn 27 rfl rfl rfl rfl (by kernel_rfl) (fun w_ hS=>(R1.loadBoxAt (ds:=[.bool z32.c.s,.slice A32 z32.c.n.length c32,.slice B32 z32.c.d.length e32]) rfl (Blk.gr hb6_s hS) rfl tyG26)) hS1 rfl<|D.one 28 rfl (by kernel_rfl) (fun hX=>?_)
       refine L.callOn rfl rfl rfl rfl (c_ref2_Is hn32 hd32 hbd (hsm.2.2 _ (List.mem_of_getElem? hz32)).1 (hsm.2.2 _ (List.mem_of_getElem? hz32)).2) rfl ?_
       rintro _ w8 ⟨rfl,hm8⟩
       replace ht:=ht.gr hm8;replace hb2:=Blk.gr hb2 hm8;replace hbd:=hbd.gr hm8;replace hm0:=hm0.trans hm8;replace hn32:=hn32.gr hm8;replace hd32:=hd32.gr hm8;replace hb6:=Blk.gr hb6 hm8;replace hn52:=hn52.gr hm8;replace hd52:=hd52.gr hm8;replace hS1:=hS1.trans hm8;clear hm8
       refine L.nil (hX _ _ ⟨.inr hS1,?_⟩)
       refine D.takeOn 29 rfl rfl rfl rfl (by kernel_rfl) (fun w_ hS=>(R1.not rfl)) hS1 rfl<|D.take 30 rfl (by kernel_rfl) (fun w_ hS=>(R1.pickF rfl rfl)) hS1 rfl<|D.m 31 rfl (by kernel_rfl) rfl hS1 rfl ?_
       cases hgd64:(!(isN z32.c.s z32.c.n z32.c.d))
       ·
        simp only [bq] at hgd64
        refine D.takeOn 32 rfl rfl rfl rfl (by kernel_rfl) (fun w_ hS=>(R1.fieldAt rfl tyF43_1)) hS1 rfl<|D.takeOn 33 rfl rfl rfl rfl (by kernel_rfl) (fun w_ hS=>(R1.fieldAt rfl tyF26_1)) hS1 rfl<|D.takeOn 34 rfl rfl rfl rfl (by kernel_rfl) (fun w_ hS=>(R1.loadFld rfl (Blk.gr hb6_s hS) rfl tyP24)) hS1 rfl<|D.takeOn 35 rfl rfl rfl rfl (by kernel_rfl) (fun w_ hS=>(R1.len rfl tyS24)) hS1 rfl<|D.takeOn 36 rfl rfl rfl rfl (by kernel_rfl) (fun w_ hS=>((R1.eq rfl rfl).asB (c:=decide (z32.c.n.length=0)) (by congr 1; apply propext; omega))) hS1 rfl<|D.take 37 rfl (by kernel_rfl) (fun w_ hS=>(R1.pickF rfl rfl)) hS1 rfl<|D.done (by decide +kernel) ?_ _
        refine X.seq<|W.cond rfl ?_ ?_
        ·
         intro hc70
         simp only [bq] at hc70
         refine W.seq<|W.region<|L.a rfl rfl<|L.nil<|X.seq<|W.ret<|X.blockRet<|X.thenRet<|X.nextRet<|X.blockRet<|X.thenRet ?_
         refine X.result1 rfl (.tmp rfl .nil) ?_
         exact ⟨by rw [isC_false (.inr (.inr (.inr (isT_bad hz32 his (by first | exact .inl (by omega) | exact .inr (.inl hgd42) | (have h9:=hl1 _ (by omega) hz52; exact .inl (by omega)) | exact .inr (.inr (.inl hgd64)) | exact .inr (.inr (.inr hc70)))))))],hm0⟩
        intro hc70
        simp only [bq] at hc70
        refine W.skip<|X.blockEnd<|X.seq<|W.region<|L.m rfl rfl<|L.v (R1.addI (b:=1) rfl rfl (by omega)) rfl<|L.a rfl rfl<|L.nil<|X.next (i + 1,z32.v + 1) ?_ ?_ ?_
        · exact ⟨rfl,rfl,rfl,trivial⟩
        ·
         have hlo:least≤z32.v:=by first | (have h9:=hl1 _ (by omega) hz52; omega) | (have h9:=hl2 (by omega); omega)
         refine ⟨by omega,by omega,(fun z _ hz9=>?_),(fun h9=>by omega),isT_good hz32 his hlo hgd42 hgd64 hc70,(ht.sub (by intro b hb; simp [hb])),hb2,(fun m hm=>hbd m (by simp only [List.mem_cons] at hm ⊢; rcases hm with rfl | hm <;> simp [*])),hm0⟩
         rw [Nat.add_sub_cancel,hz32] at hz9; injection hz9 with e; rw [e]
        first | omega | (dsimp only; omega)
       simp only [bq] at hgd64
       refine D.off 32 rfl rfl rfl rfl rfl (by kernel_rfl) hS1 rfl<|D.off 33 rfl rfl rfl rfl rfl (by kernel_rfl) hS1 rfl<|D.off 34 rfl rfl rfl rfl rfl (by kernel_rfl) hS1 rfl<|D.off 35 rfl rfl rfl rfl rfl (by kernel_rfl) hS1 rfl<|D.off 36 rfl rfl rfl rfl rfl (by kernel_rfl) hS1 rfl<|D.take 37 rfl (by kernel_rfl) (fun w_ hS=>(R1.pickT rfl rfl)) hS1 rfl<|D.done (by decide +kernel) ?_ _
       refine X.seq<|W.condT rfl<|W.seq<|W.region<|L.a rfl rfl<|L.nil<|X.seq<|W.ret<|X.blockRet<|X.thenRet<|X.nextRet ?_
       refine X.blockRet<|X.thenRet<|X.result1 rfl (.tmp rfl .nil) ?_
       exact ⟨by rw [isC_false (.inr (.inr (.inr (isT_bad hz32 his (by first | exact .inl (by omega) | exact .inr (.inl hgd42) | (have h9:=hl1 _ (by omega) hz52; exact .inl (by omega)) | exact .inr (.inr (.inl hgd64)) | exact .inr (.inr (.inr hc70)))))))],hm0⟩
      simp only [bq] at hgd58
      refine D.off 26 rfl rfl rfl rfl rfl (by kernel_rfl) hS1 rfl<|D.off 27 rfl rfl rfl rfl rfl (by kernel_rfl) hS1 rfl<|D.off 28 rfl rfl rfl rfl rfl (by kernel_rfl) hS1 rfl<|D.off 29 rfl rfl rfl rfl rfl (by kernel_rfl) hS1 rfl<|D.take 30 rfl (by kernel_rfl) (fun w_ hS=>(R1.pickT rfl rfl)) hS1 rfl<|D.m 31 rfl (by kernel_rfl) rfl hS1 rfl<|D.off 32 rfl rfl rfl rfl rfl (by kernel_rfl) hS1 rfl<|D.off 33 rfl rfl rfl rfl rfl (by kernel_rfl) hS1 rfl<|D.off 34 rfl rfl rfl rfl rfl (by kernel_rfl) hS1 rfl<|D.off 35 rfl rfl rfl rfl rfl (by kernel_rfl) hS1 rfl<|D.off 36 rfl rfl rfl rfl rfl (by kernel_rfl) hS1 rfl ?_
      refine D.take 37 rfl (by kernel_rfl) (fun w_ hS=>(R1.pickT rfl rfl)) hS1 rfl<|D.done (by decide +kernel) ?_ _
      refine X.seq<|W.condT rfl<|W.seq<|W.region<|L.a rfl rfl<|L.nil<|X.seq<|W.ret<|X.blockRet<|X.thenRet<|X.nextRet ?_
      refine X.blockRet<|X.thenRet<|X.result1 rfl (.tmp rfl .nil) ?_
      exact ⟨by rw [isC_false (.inr (.inr (.inr (isT_bad hz32 his (by first | exact .inl (by omega) | exact .inr (.inl hgd42) | (have h9:=hl1 _ (by omega) hz52; exact .inl (by omega)) | exact .inr (.inr (.inl hgd64)) | exact .inr (.inr (.inr hc70)))))))],hm0⟩
     simp only [bq] at hgd42
     refine D.off 10 rfl rfl rfl rfl rfl (by kernel_rfl) hS1 rfl<|D.off 11 rfl rfl rfl rfl rfl (by kernel_rfl) hS1 rfl<|D.off 12 rfl rfl rfl rfl rfl (by kernel_rfl) hS1 rfl<|D.offU 13 rfl rfl rfl rfl (by kernel_rfl) hS1 rfl<|D.offU 14 rfl rfl rfl rfl (by kernel_rfl) hS1 rfl<|D.offU 15 rfl rfl rfl rfl (by kernel_rfl) hS1 rfl<|D.offU 16 rfl rfl rfl rfl (by kernel_rfl) hS1 rfl<|D.offU 17 rfl rfl rfl rfl (by kernel_rfl) hS1 rfl<|D.offU 18 rfl rfl rfl rfl (by kernel_rfl) hS1 rfl<|D.offU 19 rfl rfl rfl rfl (by kernel_rfl) hS1 rfl<|D.offU 20 rfl rfl rfl rfl (by kernel_rfl) hS1 rfl ?_
     refine D.offU 21 rfl rfl rfl rfl (by kernel_rfl) hS1 rfl<|D.offU 22 rfl rfl rfl rfl (by kernel_rfl) hS1 rfl<|D.off 23 rfl rfl rfl rfl rfl (by kernel_rfl) hS1 rfl<|D.take 24 rfl (by kernel_rfl) (fun w_ hS=>(R1.pickT rfl rfl)) hS1 rfl<|D.m 25 rfl (by kernel_rfl) rfl hS1 rfl<|D.off 26 rfl rfl rfl rfl rfl (by kernel_rfl) hS1 rfl<|D.off 27 rfl rfl rfl rfl rfl (by kernel_rfl) hS1 rfl<|D.off 28 rfl rfl rfl rfl rfl (by kernel_rfl) hS1 rfl<|D.off 29 rfl rfl rfl rfl rfl (by kernel_rfl) hS1 rfl<|D.take 30 rfl (by kernel_rfl) (fun w_ hS=>(R1.pickT rfl rfl)) hS1 rfl<|D.m 31 rfl (by kernel_rfl) rfl hS1 rfl ?_
     refine D.off 32 rfl rfl rfl rfl rfl (by kernel_rfl) hS1 rfl<|D.off 33 rfl rfl rfl rfl rfl (by kernel_rfl) hS1 rfl<|D.off 34 rfl rfl rfl rfl rfl (by kernel_rfl) hS1 rfl<|D.off 35 rfl rfl rfl rfl rfl (by kernel_rfl) hS1 rfl<|D.off 36 rfl rfl rfl rfl rfl (by kernel_rfl) hS1 rfl<|D.take 37 rfl (by kernel_rfl) (fun w_ hS=>(R1.pickT rfl rfl)) hS1 rfl<|D.done (by decide +kernel) ?_ _
     refine X.seq<|W.condT rfl<|W.seq<|W.region<|L.a rfl rfl<|L.nil<|X.seq<|W.ret<|X.blockRet<|X.thenRet<|X.nextRet ?_
     refine X.blockRet<|X.thenRet<|X.result1 rfl (.tmp rfl .nil) ?_
     exact ⟨by rw [isC_false (.inr (.inr (.inr (isT_bad hz32 his (by first | exact .inl (by omega) | exact .inr (.inl hgd42) | (have h9:=hl1 _ (by omega) hz52; exact .inl (by omega)) | exact .inr (.inr (.inl hgd64)) | exact .inr (.inr (.inr hc70)))))))],hm0⟩
    simp only [bq] at hgd36
    refine D.off 4 rfl rfl rfl rfl rfl (by kernel_rfl) hS1 rfl<|D.off 5 rfl rfl rfl rfl rfl (by kernel_rfl) hS1 rfl<|D.off 6 rfl rfl rfl rfl rfl (by kernel_rfl) hS1 rfl<|D.off 7 rfl rfl rfl rfl rfl (by kernel_rfl) hS1 rfl<|D.take 8 rfl (by kernel_rfl) (fun w_ hS=>(R1.pickT rfl rfl)) hS1 rfl<|D.m 9 rfl (by kernel_rfl) rfl hS1 rfl<|D.off 10 rfl rfl rfl rfl rfl (by kernel_rfl) hS1 rfl<|D.off 11 rfl rfl rfl rfl rfl (by kernel_rfl) hS1 rfl<|D.off 12 rfl rfl rfl rfl rfl (by kernel_rfl) hS1 rfl<|D.offU 13 rfl rfl rfl rfl (by kernel_rfl) hS1 rfl<|D.offU 14 rfl rfl rfl rfl (by kernel_rfl) hS1 rfl ?_
    refine D.offU 15 rfl rfl rfl rfl (by kernel_rfl) hS1 rfl<|D.offU 16 rfl rfl rfl rfl (by kernel_rfl) hS1 rfl<|D.offU 17 rfl rfl rfl rfl (by kernel_rfl) hS1 rfl<|D.offU 18 rfl rfl rfl rfl (by kernel_rfl) hS1 rfl<|D.offU 19 rfl rfl rfl rfl (by kernel_rfl) hS1 rfl<|D.offU 20 rfl rfl rfl rfl (by kernel_rfl) hS1 rfl<|D.offU 21 rfl rfl rfl rfl (by kernel_rfl) hS1 rfl<|D.offU 22 rfl rfl rfl rfl (by kernel_rfl) hS1 rfl<|D.off 23 rfl rfl rfl rfl rfl (by kernel_rfl) hS1 rfl<|D.take 24 rfl (by kernel_rfl) (fun w_ hS=>(R1.pickT rfl rfl)) hS1 rfl<|D.m 25 rfl (by kernel_rfl) rfl hS1 rfl ?_
    refine D.off 26 rfl rfl rfl rfl rfl (by kernel_rfl) hS1 rfl<|D.off 27 rfl rfl rfl rfl rfl (by kernel_rfl) hS1 rfl<|D.off 28 rfl rfl rfl rfl rfl (by kernel_rfl) hS1 rfl<|D.off 29 rfl rfl rfl rfl rfl (by kernel_rfl) hS1 rfl<|D.take 30 rfl (by kernel_rfl) (fun w_ hS=>(R1.pickT rfl rfl)) hS1 rfl<|D.m 31 rfl (by kernel_rfl) rfl hS1 rfl<|D.off 32 rfl rfl rfl rfl rfl (by kernel_rfl) hS1 rfl<|D.off 33 rfl rfl rfl rfl rfl (by kernel_rfl) hS1 rfl<|D.off 34 rfl rfl rfl rfl rfl (by kernel_rfl) hS1 rfl<|D.off 35 rfl rfl rfl rfl rfl (by kernel_rfl) hS1 rfl<|D.off 36 rfl rfl rfl rfl rfl (by kernel_rfl) hS1 rfl ?_
    refine D.take 37 rfl (by kernel_rfl) (fun w_ hS=>(R1.pickT rfl rfl)) hS1 rfl<|D.done (by decide +kernel) ?_ _
    refine X.seq<|W.condT rfl<|W.seq<|W.region<|L.a rfl rfl<|L.nil<|X.seq<|W.ret<|X.blockRet<|X.thenRet<|X.nextRet ?_
    refine X.blockRet<|X.thenRet<|X.result1 rfl (.tmp rfl .nil) ?_
    exact ⟨by rw [isC_false (.inr (.inr (.inr (isT_bad hz32 his (by first | exact .inl (by omega) | exact .inr (.inl hgd42) | (have h9:=hl1 _ (by omega) hz52; exact .inl (by omega)) | exact .inr (.inr (.inl hgd64)) | exact .inr (.inr (.inr hc70)))))))],hm0⟩
   intro hc25
   try simp only [bq,ne_eq] at hc25
   refine W.exit<|X.thenExit<|X.nextExit<|X.here<|X.seq<|W.seq<|W.region<|L.a rfl rfl<|L.nil<|X.seq<|W.ret ?_
   refine X.result1 rfl (.tmp rfl .nil) ?_
   obtain rfl:i=c.ts.length:=by omega
   exact ⟨by rw [isC_true hgd10 hgd15 hc20 (by rw [his,List.drop_length]; rfl)],hm0⟩
  simp only [bq] at hgd15
  refine L.off rfl rfl rfl rfl rfl<|L.off rfl rfl rfl rfl rfl<|L.off rfl rfl rfl rfl rfl<|L.off rfl rfl rfl rfl rfl<|L.v (R1.pickT rfl rfl) rfl<|L.nil<|X.seq<|W.condT rfl<|W.seq<|W.region<|L.a rfl rfl ?_
  refine L.nil<|X.seq<|W.ret<|X.thenRet<|X.result1 rfl (.tmp rfl .nil) ?_
  exact ⟨by rw [isC_false (by first | exact .inl hgd10 | exact .inr (.inl hgd15) | exact .inr (.inr (.inl hc20)))],hm0⟩
 simp only [bq] at hgd10
 refine L.off rfl rfl rfl rfl rfl<|L.off rfl rfl rfl rfl rfl<|L.off rfl rfl rfl rfl rfl<|L.v (R1.pickT rfl rfl) rfl<|L.m rfl rfl<|L.off rfl rfl rfl rfl rfl<|L.off rfl rfl rfl rfl rfl<|L.off rfl rfl rfl rfl rfl<|L.off rfl rfl rfl rfl rfl<|L.v (R1.pickT rfl rfl) rfl<|L.nil ?_
 refine X.seq<|W.condT rfl<|W.seq<|W.region<|L.a rfl rfl<|L.nil<|X.seq<|W.ret<|X.thenRet<|X.result1 rfl (.tmp rfl .nil) ?_
 exact ⟨by rw [isC_false (by first | exact .inl hgd10 | exact .inr (.inl hgd15) | exact .inr (.inr (.inl hc20)))],hm0⟩
end Go.Proofs.YtedokfpoajfflaaGreat
