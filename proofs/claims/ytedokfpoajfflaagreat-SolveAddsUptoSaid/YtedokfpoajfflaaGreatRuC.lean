/- Walks: what the functions compute. -/
import Derived.Test.YtedokfpoajfflaaGreatRuB
namespace Go.Proofs.YtedokfpoajfflaaGreat
open Go.RowKit
set_option linter.unusedVariables false
set_option linter.unusedSimpArgs false
set_option maxRecDepth 10000
def valOf (val:List QR) (v:Int):Rat:=if v<0 then 0 else match val[v.toNat]? with
  | some q=>q.val
  | none=>0
theorem valOf_some {val:List QR} {v:Int} {q:QR} (h0:0≤v) (h:val[v.toNat]?=some q):valOf val v=q.val:=by
  unfold valOf; rw [if_neg (by omega),h]
theorem valOf_none {val:List QR} {v:Int} (h:v<0∨(val.length:Int)≤v):valOf val v=0:=by
  unfold valOf
  split
  · rfl
  rw [List.getElem?_eq_none (by omega)]
def atG (val:List QR):List TR→Rat→Rat
  | [],x=>x
  | t :: r,x=>atG val r (x + t.c.val * valOf val t.v)
theorem atG_app (val:List QR):∀ (l r:List TR) (x:Rat),atG val (l ++ r) x=atG val r (atG val l x)
  | [],_,_=>rfl
  | t :: l,r,x=>by simp only [List.cons_append,atG]; rw [atG_app val l r]
theorem atG_snoc {val:List QR} {l:List TR} {i:Nat} {z:TR} (hz:l[i]?=some z) (x:Rat):atG val (l.take (i + 1)) x=atG val (l.take i) x + z.c.val * valOf val z.v:=by
  obtain ⟨hi,rfl⟩:=List.getElem?_eq_some_iff.1 hz
  rw [List.take_succ_eq_append_getElem hi,atG_app]; rfl
theorem fit_sm {M:List Nat} {w:World} {vn vd:Value} {q:QR} {L:Nat} (h:U32 M w vn q.n) (k:U32 M w vd q.d) (hs:SmQ L q):Fit q.val (L + 1):=Fit.rv rfl h.2 k.2 hs.1 hs.2
theorem valOf_fit {N:List Nat} {w:World} {vv:Value} {val:List QR} {L:Nat} (hv:Lay rdQ N w vv val) (hs:∀ q∈val,SmQ L q) (v:Int):Fit (valOf val v) (L + 1):=by
  unfold valOf
  split
  · exact Fit.zero (by omega)
  split
  · rename_i q hq
    obtain ⟨hi,rfl⟩:=List.getElem?_eq_some_iff.1 hq;obtain ⟨cs,_,vn,vd,_,h1,h2⟩:=hv.elem hi
    exact fit_sm h1 h2 (hs _ (List.getElem_mem hi))
  exact Fit.zero (by omega)
theorem rat_add0 (x y:Rat):x + y * 0=x:=by grind
theorem built_T01 (v:Int) (s:Bool) (A:Option Addr) (n c:Nat) (B:Option Addr) (m d:Nat):Tryz.prog.built 43 [(0,.int .i64 v),(1,.agg #[.bool s,.slice A n c,.slice B m d])]=some #[.int .i64 v,.bool s,.slice A n c,.slice B m d]:=by kernel_rfl
theorem fillN1 (v:Int) (s:Bool) (A:Option Addr) (n c:Nat) (B:Option Addr) (m d:Nat):Instr.fill (fun i=>some (i * 4,4)) ((Array.range (1 * 4)).map ((Value.agg #[.int .i64 0,.bool false,.slice none 0 0,.slice none 0 0]).cells[· % (Value.agg #[.int .i64 0,.bool false,.slice none 0 0,.slice none 0 0]).cells.size]!)) [(0,.agg #[.int .i64 v,.bool s,.slice A n c,.slice B m d])]=some #[.int .i64 v,.bool s,.slice A n c,.slice B m d]:=by kernel_rfl
theorem c_ref8_At {M N9 : List Nat} {w : World} {c : CR} {vt vn vd : Value} (ht : Lay rdT N9 w vt c.ts) (h : U32 N9 w vn c.k.n) (k : U32 N9 w vd c.k.d) {N8 : List Nat} {vv : Value} {val : List QR} (hv : Lay rdQ N8 w vv val) (hbd : Bd M w) (hsm : SmC 10000 c) (hsv : ∀ q ∈ val, SmQ 10000 q) :
    Ret Tryz.prog 87 #[.agg #[.int .i64 c.st,vt,.bool c.k.s,vn,vd],vv] w (fun r w'=>RN M w' r (atG val c.ts (QR.val c.k))∧Mod [] w w'):=by
 obtain ⟨T9,t9,rfl⟩:=ht.form;obtain ⟨A9,c9,rfl⟩:=h.form;obtain ⟨B9,e9,rfl⟩:=k.form;have hlt:=hsm.1;have FK:=fit_sm h k hsm.2.1
 refine Ret.of (vs:=[.agg #[.int .i64 c.st,.slice T9 c.ts.length t9,.bool c.k.s,.slice A9 c.k.n.length c9,.slice B9 c.k.d.length e9],vv]) (n:=46) Tryz.func87 rfl rfl rfl rfl ?_
 have hm0:Mod [] w w:=Mod.refl _ _
 refine W.seq<|W.region<|L.box rfl rfl ?_
 intro g2 w1 hN2
 replace ht:=ht.new hN2;replace h:=h.new hN2;replace k:=k.new hN2;replace hv:=hv.new hN2;replace hbd:=hbd.new hN2;replace hm0:=hm0.trans (hN2.mod.mono (by simp));have hb2:=hN2.blk;clear hN2
 refine L.alloc tyZ26 rfl ?_
 intro g4 w2 hN4
 replace ht:=ht.new hN4;replace h:=h.new hN4;replace k:=k.new hN4;replace hv:=hv.new hN4;replace hbd:=hbd.new hN4;have hge_g4:=New.ge hN4 hm0.size;replace hm0:=hm0.trans (hN4.mod.mono (by simp));have hne_g2_g4:=hb2.ne_ hN4;replace hb2:=Blk.gr hb2 hN4.mod;have hb4:=hN4.blk;clear hN4
 refine L.nil<|X.seq<|W.seq<|W.region<|L.v (R1.fieldAt rfl tyF47_2) rfl<|L.v (R1.loadBoxAt (ds:=[.bool c.k.s,.slice A9 c.k.n.length c9,.slice B9 c.k.d.length e9]) rfl hb2 rfl tyG26) rfl<|L.call rfl (c_ref2_Norm (q:=(QR.val c.k)) rfl h k hbd (Nat.le_trans hsm.2.1.1 (by decide)) (Nat.le_trans hsm.2.1.2 (by decide))) rfl ?_
 rintro _ w3 ⟨⟨A10,c10,B10,e10,rfl,hn10,hd10⟩,hm3⟩
 replace ht:=ht.gr hm3;replace k:=k.gr hm3;replace hv:=hv.gr hm3;replace hbd:=hbd.gr hm3;replace hm0:=hm0.trans hm3;replace hb2:=Blk.gr hb2 hm3;replace hb4:=Blk.gr hb4 hm3;clear hm3;have F10:=FK
 refine L.alloc tyZ26 rfl ?_
 intro g5 w4 hN5
 replace ht:=ht.new hN5;replace k:=k.new hN5;replace hv:=hv.new hN5;replace hbd:=hbd.new hN5;have hge_g5:=New.ge hN5 hm0.size;replace hm0:=hm0.trans (hN5.mod.mono (by simp));have hne_g2_g5:=hb2.ne_ hN5;replace hb2:=Blk.gr hb2 hN5.mod;have hne_g4_g5:=hb4.ne_ hN5;replace hb4:=Blk.gr hb4 hN5.mod;replace hn10:=hn10.new hN5;replace hd10:=hd10.new hN5;have hb5:=hN5.blk;clear hN5
 refine L.storeBox rfl rfl hb5 rfl rfl tyG26 ?_
 intro w5 hb5' hm5
 replace ht:=ht.mod hm5 (by simp);replace k:=k.mod hm5 (by simp);replace hv:=hv.mod hm5 (by simp);replace hbd:=hbd.gr hm5;replace hm0:=hm0.old1 hm5 hge_g5;replace hb2:=Blk.far hb2 hm5 (by first | exact hne_g2_g5 | exact (hne_g5_g2).symm);replace hb4:=Blk.far hb4 hm5 (by first | exact hne_g4_g5 | exact (hne_g5_g4).symm);replace hn10:=hn10.mod hm5 (by simp);replace hd10:=hd10.mod hm5 (by simp);clear hm5;replace hb5:=hb5'; clear hb5'
 refine L.nil<|X.seq<|W.seq<|W.seq<|W.region<|L.a rfl rfl<|L.nil<|X.seq<|W.block<|W.loop (ι:=Nat × Rat × Option Addr × Nat × Option Addr × Nat) (fun (i,x,A5,c5,B5,e5)=>[(1,vv),(2,.pointer (some ⟨g2,0,none⟩)),(4,.pointer (some ⟨g4,0,none⟩)),(5,.pointer (some ⟨g5,0,none⟩)),(6,.int .i64 (i:Int))]) (fun (i,x,A5,c5,B5,e5) w_=>Lay rdT (g5 :: g4 :: N9) w_ (.slice T9 c.ts.length t9) c.ts∧Lay rdQ (g5 :: g4 :: N8) w_ vv val∧U32 (g5 :: g4 :: M) w_ (.slice A5 (toL x.num.natAbs).length c5) (toL x.num.natAbs)∧U32 (g5 :: g4 :: M) w_ (.slice B5 (toL x.den).length e5) (toL x.den)∧Blk w_ g5 26 #[.bool (decide (x.num<0)),.slice A5 (toL x.num.natAbs).length c5,.slice B5 (toL x.den).length e5]∧Blk w_ g4 26 #[.bool false,.slice none 0 0,.slice none 0 0]∧w.heap.size≤g5∧w.heap.size≤g4∧g4≠g5∧i≤c.ts.length∧Fit x (10001 + i * 30000)∧x=atG val (c.ts.take i) (QR.val c.k)∧Bd (g5 :: g4 :: M) w_∧Mod [] w w_∧Blk w_ g2 47 #[.int .i64 c.st,.slice T9 c.ts.length t9,.bool c.k.s,.slice A9 c.k.n.length c9,.slice B9 c.k.d.length e9]∧g2≠g4∧g2≠g5) (fun (i,x,A5,c5,B5,e5)=>c.ts.length - i) (0,QR.val c.k,A10,c10,B10,e10) ?_ ?_ ?_
 · exact ⟨rfl,rfl,rfl,rfl,rfl,trivial⟩
 ·
  exact ⟨ht.su,hv.su,hn10.su,hd10.su,hb5,hb4,hge_g5,hge_g4,hne_g4_g5,Nat.zero_le _,Fit.mono F10 (by decide),rfl,hbd.su,hm0,hb2,hne_g2_g4,hne_g2_g5⟩
 rintro ⟨i,x,A5,c5,B5,e5⟩ w6 ⟨ht,hv,hn5,hd5,hb5,hb4,hge_g5,hge_g4,hne_g4_g5,hi,Fx,hx,hbd,hm0,hb2,hne_g2_g4,hne_g2_g5⟩
 refine W.seq<|W.seq<|W.region<|L.m rfl rfl<|L.v (R1.fieldAt rfl tyF47_1) rfl<|L.v (R1.loadFld rfl hb2 rfl tyP44) rfl<|L.v (R1.lenLay rfl ht tyS44) rfl<|L.v (R1.lt rfl rfl) rfl<|L.nil<|X.seq<|W.cond rfl ?_ ?_
 ·
  intro hc15
  try simp only [bq,ne_eq] at hc15
  refine W.skip<|X.seq<|W.seq<|W.block<|W.seq<|W.region<|L.v (R1.fieldAt rfl tyF47_1) rfl<|L.v (R1.loadFld rfl hb2 rfl tyP44) rfl<|L.m rfl rfl<|L.v (R1.atLay (j:=i) rfl rfl ht tyS44 rfl (by omega)) rfl<|L.v (R1.fieldAddr rfl tyF43_0) rfl ?_
  obtain ⟨z23,cs23,hz23,hE23,ds23,rfl,vn23,vd23,rfl,hn23,hd23⟩:=Lay.elemQ ht (j:=i) (by omega);obtain ⟨A23,c23,rfl⟩:=hn23.form;obtain ⟨B23,e23,rfl⟩:=hd23.form
  refine L.v (R1.loadEF rfl hE23 rfl tyP3) rfl<|L.a rfl rfl<|L.nil<|X.seq<|W.seq<|W.region<|L.m rfl rfl<|L.v ((R1.ge rfl rfl).asB (c:=decide (0≤z23.v)) (rfl)) rfl<|L.m rfl rfl ?_
  cases hgd26:decide (0≤z23.v)
  ·
   simp only [bq] at hgd26
   refine L.off rfl rfl rfl rfl rfl<|L.off rfl rfl rfl rfl rfl<|L.off rfl rfl rfl rfl rfl<|L.off rfl rfl rfl rfl rfl<|L.v (R1.pickF rfl rfl) rfl<|L.nil<|X.seq<|W.condF rfl<|W.skip<|X.blockEnd<|X.seq ?_
   refine W.region<|L.m rfl rfl<|L.v (R1.addI (b:=1) rfl rfl (by omega)) rfl<|L.a rfl rfl<|L.nil<|X.next (i + 1,x,A5,c5,B5,e5) ?_ ?_ ?_
   · exact ⟨rfl,rfl,rfl,rfl,rfl,trivial⟩
   ·
    exact ⟨ht.su,hv.su,hn5.su,hd5.su,hb5,hb4,hge_g5,hge_g4,hne_g4_g5,by omega,Fit.mono Fx (by omega),by rw [atG_snoc hz23,← hx,valOf_none (by omega),rat_add0],hbd.su,hm0,hb2,hne_g2_g4,hne_g2_g5⟩
   first | omega | (dsimp only; omega)
  simp only [bq] at hgd26
  refine L.on rfl rfl rfl (R1.move rfl) rfl<|L.on rfl rfl rfl (R1.move rfl) rfl<|L.on rfl rfl rfl (R1.lenLay rfl hv tyS23) rfl<|L.on rfl rfl rfl ((R1.lt rfl rfl).asB (c:=decide (z23.v<(val.length:Int))) (rfl)) rfl<|L.v (R1.pickT rfl rfl) rfl<|L.nil<|X.seq<|W.cond rfl ?_ ?_
  ·
   intro hc31
   simp only [bq] at hc31
   refine W.drawW (T:=[13]) rfl (by decide +kernel) (NoHang.block (NoHang.then (NoHang.next (NoHang.block (NoHang.then NoHang.post))))) (fun w7 hm7=>?_)
   replace ht:=ht.gr hm7;replace hv:=hv.gr hm7;replace hn5:=hn5.gr hm7;replace hd5:=hd5.gr hm7;replace hb5:=Blk.gr hb5 hm7;replace hb4:=Blk.gr hb4 hm7;replace hbd:=hbd.gr hm7;replace hm0:=hm0.trans hm7;replace hb2:=Blk.gr hb2 hm7
   have hS1:Mod [] w7 w7:=Mod.refl _ _
   clear hm7;have hb5_s:=hb5;have hb2_s:=hb2
   refine D.take 0 rfl (by kernel_rfl) (fun w_ hS=>(R1.loadBox rfl (Blk.gr hb5_s hS) tyG26)) hS1 rfl<|D.take 1 rfl (by kernel_rfl) (fun w_ hS=>(R1.fieldAt rfl tyF47_1)) hS1 rfl<|D.take 2 rfl (by kernel_rfl) (fun w_ hS=>(R1.loadFld rfl (Blk.gr hb2_s hS) rfl tyP44)) hS1 rfl<|D.m 3 rfl (by kernel_rfl) rfl hS1 rfl<|D.take 4 rfl (by kernel_rfl) (fun w_ hS=>(R1.atLay (j:=i) rfl rfl (Lay.gr ht hS) tyS44 rfl (by omega))) hS1 rfl<|D.take 5 rfl (by kernel_rfl) (fun w_ hS=>(R1.fieldAddr rfl tyF43_1)) hS1 rfl ?_
   obtain ⟨z38,cs38,hz38,hE38,ds38,rfl,vn38,vd38,rfl,hn38,hd38⟩:=Lay.elemQ ht (j:=i) (by omega);obtain ⟨A38,c38,rfl⟩:=hn38.form;obtain ⟨B38,e38,rfl⟩:=hd38.form
   obtain rfl:z23=z38:=by have h9:=hz38; rw [hz23] at h9; injection h9
   refine D.take 6 rfl (by kernel_rfl) (fun w_ hS=>(R1.loadEA (ds:=[.bool z23.c.s,.slice A38 z23.c.n.length c38,.slice B38 z23.c.d.length e38]) rfl (SlE.gr hE38 hS) rfl tyG26)) hS1 rfl ?_
   have F38:=fit_sm hn38 hd38 (hsm.2.2 _ (List.mem_of_getElem? hz38))
   refine D.m 7 rfl (by kernel_rfl) rfl hS1 rfl<|D.m 8 rfl (by kernel_rfl) rfl hS1 rfl<|D.take 9 rfl (by kernel_rfl) (fun w_ hS=>(R1.atLay (j:=z23.v.toNat) rfl rfl (Lay.gr hv hS) tyS23 (by omega) (by omega))) hS1 rfl ?_
   obtain ⟨z42,cs42,hz42,hE42,vn42,vd42,rfl,hn42,hd42⟩:=Lay.elemQ hv (j:=z23.v.toNat) (by omega);obtain ⟨A42,c42,rfl⟩:=hn42.form;obtain ⟨B42,e42,rfl⟩:=hd42.form
   refine D.take 10 rfl (by kernel_rfl) (fun w_ hS=>(R1.loadE rfl (SlE.gr hE42 hS) tyG26)) hS1 rfl ?_
   have F42:=fit_sm hn42 hd42 (hsv _ (List.mem_of_getElem? hz42))
   refine D.one 11 rfl (by kernel_rfl) (fun hX=>?_)
   refine L.call rfl (c_ref2_Mul (qa:=(QR.val z23.c)) (qb:=(QR.val z42)) rfl rfl hn38 hd38 hn42 hd42 hbd (Nat.le_trans (hsm.2.2 _ (List.mem_of_getElem? hz38)).1 (by decide)) (Nat.le_trans (hsm.2.2 _ (List.mem_of_getElem? hz38)).2 (by decide)) (Nat.le_trans (hsv _ (List.mem_of_getElem? hz42)).1 (by decide)) (Nat.le_trans (hsv _ (List.mem_of_getElem? hz42)).2 (by decide))) rfl ?_
   rintro _ w8 ⟨⟨A43,c43,B43,e43,rfl,hn43,hd43⟩,hm8⟩
   replace ht:=ht.gr hm8;replace hv:=hv.gr hm8;replace hn5:=hn5.gr hm8;replace hd5:=hd5.gr hm8;replace hb5:=Blk.gr hb5 hm8;replace hb4:=Blk.gr hb4 hm8;replace hbd:=hbd.gr hm8;replace hm0:=hm0.trans hm8;replace hb2:=Blk.gr hb2 hm8;replace hS1:=hS1.trans hm8;clear hm8;have F43:=Fit.mul F38 F42
   refine L.nil (hX _ _ ⟨.inr hS1,?_⟩)
   refine D.one 12 rfl (by kernel_rfl) (fun hX=>?_)
   refine L.call rfl (c_ref2_Add (qa:=x) (qb:=((QR.val z23.c) * (QR.val z42))) (rv_toL _) (rv_toL _) hn5 hd5 hn43 hd43 hbd (Nat.le_trans Fx.1 (by omega)) (Nat.le_trans Fx.2 (by omega)) (Nat.le_trans F43.1 (by decide)) (Nat.le_trans F43.2 (by decide))) rfl ?_
   rintro _ w9 ⟨⟨A44,c44,B44,e44,rfl,hn44,hd44⟩,hm9⟩
   replace ht:=ht.gr hm9;replace hv:=hv.gr hm9;replace hb5:=Blk.gr hb5 hm9;replace hb4:=Blk.gr hb4 hm9;replace hbd:=hbd.gr hm9;replace hm0:=hm0.trans hm9;replace hb2:=Blk.gr hb2 hm9;replace hS1:=hS1.trans hm9;clear hm9;have F44:=Fit.add Fx F43
   refine L.nil (hX _ _ ⟨.inr hS1,?_⟩)
   refine D.one 13 rfl (by kernel_rfl) (fun hX=>?_)
   refine L.storeBox rfl rfl hb5 rfl rfl tyG26 ?_
   intro w10 hb5' hm10
   replace ht:=ht.mod hm10 (by simp);replace hv:=hv.mod hm10 (by simp);replace hb4:=Blk.far hb4 hm10 (by first | exact hne_g4_g5 | exact (hne_g5_g4).symm);replace hbd:=hbd.gr hm10;replace hm0:=hm0.old1 hm10 hge_g5;replace hb2:=Blk.far hb2 hm10 (by first | exact hne_g2_g5 | exact (hne_g5_g2).symm);replace hn44:=hn44.mod hm10 (by simp);replace hd44:=hd44.mod hm10 (by simp);clear hm10;replace hb5:=hb5'; clear hb5'
   refine L.nil (hX _ _ ⟨.inl rfl,?_⟩)
   refine D.done (by decide +kernel) ?_ _
   refine X.blockEnd<|X.seq<|W.region<|L.m rfl rfl<|L.v (R1.addI (b:=1) rfl rfl (by omega)) rfl<|L.a rfl rfl<|L.nil<|X.next (i + 1,x + QR.val z23.c * QR.val z42,A44,c44,B44,e44) ?_ ?_ ?_
   · exact ⟨rfl,rfl,rfl,rfl,rfl,trivial⟩
   ·
    exact ⟨ht.su,hv.su,hn44.su,hd44.su,hb5,hb4,hge_g5,hge_g4,hne_g4_g5,by omega,Fit.mono F44 (by omega),by rw [atG_snoc hz23,← hx,valOf_some (by omega) hz42],hbd.su,hm0,hb2,hne_g2_g4,hne_g2_g5⟩
   first | omega | (dsimp only; omega)
  intro hc31
  simp only [bq] at hc31
  refine W.skip<|X.blockEnd<|X.seq<|W.region<|L.m rfl rfl<|L.v (R1.addI (b:=1) rfl rfl (by omega)) rfl<|L.a rfl rfl<|L.nil<|X.next (i + 1,x,A5,c5,B5,e5) ?_ ?_ ?_
  · exact ⟨rfl,rfl,rfl,rfl,rfl,trivial⟩
  ·
   exact ⟨ht.su,hv.su,hn5.su,hd5.su,hb5,hb4,hge_g5,hge_g4,hne_g4_g5,by omega,Fit.mono Fx (by omega),by rw [atG_snoc hz23,← hx,valOf_none (by omega),rat_add0],hbd.su,hm0,hb2,hne_g2_g4,hne_g2_g5⟩
  first | omega | (dsimp only; omega)
 intro hc15
 try simp only [bq,ne_eq] at hc15
 obtain rfl:i=c.ts.length:=by omega
 rw [List.take_length] at hx
 refine W.exit<|X.thenExit<|X.nextExit<|X.here<|X.seq<|W.seq<|W.region<|L.v (R1.loadBox rfl hb5 tyG26) rfl<|L.storeBox rfl rfl hb4 rfl rfl tyG26 ?_
 intro w11 hb4' hm11
 replace hn5:=hn5.mod hm11 (by simp);replace hd5:=hd5.mod hm11 (by simp);replace hm0:=hm0.old1 hm11 hge_g4;clear hm11;replace hb4:=hb4'; clear hb4'
 refine L.nil<|X.seq<|W.ret<|X.result1 rfl (.cell rfl (loadVar_blk hb4 tyG26) .nil) ?_
 exact ⟨by rw [← hx]; exact RN.mk rfl (hn5.su) (hd5.su),hm0⟩
theorem atG_fit {val:List QR} {L:Nat} (hv:∀ v,Fit (valOf val v) L):∀ (l:List TR) {x:Rat} {b:Nat},(∀ t∈l,Fit t.c.val L)→Fit x b→Fit (atG val l x) (b + l.length * (2 * L + 1))
  | [],x,b,_,hx=>by simpa [atG] using hx
  | t :: l,x,b,h,hx=>by
    have h1:=(hx.add ((h t (by simp)).mul (hv t.v)));have h2:=atG_fit hv l (fun s hs=>h s (by simp [hs])) h1
    simp only [atG,List.length_cons]
    refine h2.mono ?_
    rw [Nat.add_mul]; omega
theorem fit_ts {N:List Nat} {w:World} {v:Value} {ts:List TR} {L:Nat} (h:Lay rdT N w v ts) (hs:∀ t∈ts,SmQ L t.c):∀ t∈ts,Fit t.c.val (L + 1):=fun t ht=>by
  obtain ⟨i,hi,rfl⟩:=List.mem_iff_getElem.1 ht;obtain ⟨cs,_,ds,_,vn,vd,_,h1,h2⟩:=h.elem hi
  exact fit_sm h1 h2 (hs _ ht)
theorem at_fit {M N8:List Nat} {w:World} {vt vn vd vv:Value} {c:CR} {val:List QR} (ht:Lay rdT M w vt c.ts) (h:U32 M w vn c.k.n) (k:U32 M w vd c.k.d) (hv:Lay rdQ N8 w vv val) (hsm:SmC 10000 c) (hsv:∀ q∈val,SmQ 10000 q):Fit (atG val c.ts (QR.val c.k)) 1000000000 :=
  (atG_fit (valOf_fit hv hsv) c.ts (fit_ts ht hsm.2.2) (fit_sm h k hsm.2.1)).mono (by
    have h1:c.ts.length * (2 * (10000 + 1) + 1)≤10000 * (2 * (10000 + 1) + 1):=Nat.mul_le_mul_right _ hsm.1
    omega)
def byQ (ts:List TR) (v:Int):QR:=ts.foldl (fun b t=>if t.v=v then t.c else b) (QR.nf ((1:Int):Rat))
def othT (ts:List TR) (v:Int):List TR:=ts.filter (fun t=>decide (t.v≠v))
def toldV (c:CR) (v:Int) (val:List QR):Rat:=(-(atG val (othT c.ts v) (QR.val c.k))) / QR.val (byQ c.ts v)
theorem byQ_snoc {ts:List TR} {i:Nat} {z:TR} (v:Int) (hz:ts[i]?=some z):byQ (ts.take (i + 1)) v=if z.v=v then z.c else byQ (ts.take i) v:=by
  obtain ⟨hi,rfl⟩:=List.getElem?_eq_some_iff.1 hz
  unfold byQ
  rw [List.take_succ_eq_append_getElem hi,List.foldl_append]; rfl
theorem othT_snoc {ts:List TR} {i:Nat} {z:TR} (v:Int) (hz:ts[i]?=some z):othT (ts.take (i + 1)) v=othT (ts.take i) v ++ (if z.v=v then [] else [z]):=by
  obtain ⟨hi,rfl⟩:=List.getElem?_eq_some_iff.1 hz
  unfold othT
  rw [List.take_succ_eq_append_getElem hi,List.filter_append]
  by_cases h:ts[i].v=v <;> simp [h]
theorem othT_len (ts:List TR) (v:Int):(othT ts v).length≤ts.length:=List.length_filter_le _ _
theorem nf1_sm:SmQ 10000 (QR.nf ((1:Int):Rat)):=by
  have h:toL 1=[1]:=by rw [toL_pos (by decide)]; simp [toL_zero]
  constructor
  · show (toL ((1:Int):Rat).num.natAbs).length≤10000
    rw [Rat.num_intCast]; rw [show (1:Int).natAbs=1 from rfl,h]; decide
  show (toL ((1:Int):Rat).den).length≤10000
  rw [Rat.den_intCast,h]; decide
theorem built_C2 (s:Bool) (A:Option Addr) (n c:Nat) (B:Option Addr) (m d:Nat):Tryz.prog.built 47 [(2,.agg #[.bool s,.slice A n c,.slice B m d])]=some #[.int .i64 0,.slice none 0 0,.bool s,.slice A n c,.slice B m d]:=by kernel_rfl
set_option maxHeartbeats 1000000 in
theorem c_tells {M N9 : List Nat} {w : World} {c : CR} {vt vn vd : Value} (ht : Lay rdT N9 w vt c.ts) (h : U32 N9 w vn c.k.n) (k : U32 N9 w vd c.k.d) {N8 : List Nat} {vv : Value} {val : List QR} {v : Int} (hv : Lay rdQ N8 w vv val) (hbd : Bd M w) (hsm : SmC 10000 c) (hsv : ∀ q ∈ val, SmQ 10000 q) (hC : isC c (val.length : Int) = true) :
    Ret Tryz.prog 47 #[.agg #[.int .i64 c.st,vt,.bool c.k.s,vn,vd],.int .i64 v,vv] w (fun r w'=>RN M w' r (toldV c v val)∧Fit (toldV c v val) 4000000000∧Mod [] w w'):=by
 obtain ⟨T9,t9,rfl⟩:=ht.form;obtain ⟨A9,c9,rfl⟩:=h.form;obtain ⟨B9,e9,rfl⟩:=k.form;have hlt:=hsm.1;have FK:=fit_sm h k hsm.2.1
 refine Ret.of (vs:=[.agg #[.int .i64 c.st,.slice T9 c.ts.length t9,.bool c.k.s,.slice A9 c.k.n.length c9,.slice B9 c.k.d.length e9],.int .i64 v,vv]) (n:=49) Tryz.func47 rfl rfl rfl rfl ?_
 have hm0:Mod [] w w:=Mod.refl _ _
 refine W.seq<|W.region<|L.box rfl rfl ?_
 intro g3 w1 hN3
 replace ht:=ht.new hN3;replace h:=h.new hN3;replace k:=k.new hN3;replace hv:=hv.new hN3;replace hbd:=hbd.new hN3;replace hm0:=hm0.trans (hN3.mod.mono (by simp));have hb3:=hN3.blk;clear hN3
 refine L.alloc tyZ26 rfl ?_
 intro g6 w2 hN6
 replace ht:=ht.new hN6;replace h:=h.new hN6;replace k:=k.new hN6;replace hv:=hv.new hN6;replace hbd:=hbd.new hN6;have hge_g6:=New.ge hN6 hm0.size;replace hm0:=hm0.trans (hN6.mod.mono (by simp));replace hb3:=Blk.gr hb3 hN6.mod;have hb6:=hN6.blk;clear hN6
 refine L.nil<|X.seq<|W.seq<|W.region<|L.v (R1.fieldAt rfl tyF47_2) rfl<|L.v (R1.loadBoxAt (ds:=[.bool c.k.s,.slice A9 c.k.n.length c9,.slice B9 c.k.d.length e9]) rfl hb3 rfl tyG26) rfl<|L.call rfl (c_rat_Norm (q:=(QR.val c.k)) rfl h k hbd (Nat.le_trans hsm.2.1.1 (by decide)) (Nat.le_trans hsm.2.1.2 (by decide))) rfl ?_
 rintro _ w3 ⟨⟨A15,c15,B15,e15,rfl,hn15,hd15⟩,hm3⟩
 replace ht:=ht.gr hm3;replace k:=k.gr hm3;replace hv:=hv.gr hm3;replace hbd:=hbd.gr hm3;replace hm0:=hm0.trans hm3;replace hb3:=Blk.gr hb3 hm3;replace hb6:=Blk.gr hb6 hm3;clear hm3;have F15:=FK
 refine L.alloc tyZ26 rfl ?_
 intro g7 w4 hN7
 replace ht:=ht.new hN7;replace k:=k.new hN7;replace hv:=hv.new hN7;replace hbd:=hbd.new hN7;have hge_g7:=New.ge hN7 hm0.size;replace hm0:=hm0.trans (hN7.mod.mono (by simp));have hne_g3_g7:=hb3.ne_ hN7;replace hb3:=Blk.gr hb3 hN7.mod;have hne_g6_g7:=hb6.ne_ hN7;replace hb6:=Blk.gr hb6 hN7.mod;replace hn15:=hn15.new hN7;replace hd15:=hd15.new hN7;have hb7:=hN7.blk;clear hN7
 refine L.storeBox rfl rfl hb7 rfl rfl tyG26 ?_
 intro w5 hb7' hm5
 replace ht:=ht.mod hm5 (by simp);replace k:=k.mod hm5 (by simp);replace hv:=hv.mod hm5 (by simp);replace hbd:=hbd.gr hm5;replace hm0:=hm0.old1 hm5 hge_g7;replace hb3:=Blk.far hb3 hm5 (by first | exact hne_g3_g7 | exact (hne_g7_g3).symm);replace hb6:=Blk.far hb6 hm5 (by first | exact hne_g6_g7 | exact (hne_g7_g6).symm);replace hn15:=hn15.mod hm5 (by simp);replace hd15:=hd15.mod hm5 (by simp);clear hm5;replace hb7:=hb7'; clear hb7'
 refine L.nil<|X.seq<|W.seq<|W.region<|L.call rfl (c_rat_Int (n:=1) (by decide) (by decide) hbd) rfl ?_
 rintro _ w6 ⟨⟨A16,c16,B16,e16,rfl,hn16,hd16⟩,hm6⟩
 replace ht:=ht.gr hm6;replace k:=k.gr hm6;replace hv:=hv.gr hm6;replace hbd:=hbd.gr hm6;replace hm0:=hm0.trans hm6;replace hb3:=Blk.gr hb3 hm6;replace hb6:=Blk.gr hb6 hm6;replace hn15:=hn15.gr hm6;replace hd15:=hd15.gr hm6;replace hb7:=Blk.gr hb7 hm6;clear hm6;have F16:=Fit.int (n:=1) (by decide) (by decide)
 refine L.alloc tyZ26 rfl ?_
 intro g8 w7 hN8
 replace ht:=ht.new hN8;replace k:=k.new hN8;replace hv:=hv.new hN8;replace hbd:=hbd.new hN8;have hge_g8:=New.ge hN8 hm0.size;replace hm0:=hm0.trans (hN8.mod.mono (by simp));have hne_g3_g8:=hb3.ne_ hN8;replace hb3:=Blk.gr hb3 hN8.mod;have hne_g6_g8:=hb6.ne_ hN8;replace hb6:=Blk.gr hb6 hN8.mod;replace hn15:=hn15.new hN8;replace hd15:=hd15.new hN8;have hne_g7_g8:=hb7.ne_ hN8;replace hb7:=Blk.gr hb7 hN8.mod;replace hn16:=hn16.new hN8;replace hd16:=hd16.new hN8;have hb8:=hN8.blk;clear hN8
 refine L.storeBox rfl rfl hb8 rfl rfl tyG26 ?_
 intro w8 hb8' hm8
 replace ht:=ht.mod hm8 (by simp);replace k:=k.mod hm8 (by simp);replace hv:=hv.mod hm8 (by simp);replace hbd:=hbd.gr hm8;replace hm0:=hm0.old1 hm8 hge_g8;replace hb3:=Blk.far hb3 hm8 (by first | exact hne_g3_g8 | exact (hne_g8_g3).symm);replace hb6:=Blk.far hb6 hm8 (by first | exact hne_g6_g8 | exact (hne_g8_g6).symm);replace hn15:=hn15.mod hm8 (by simp);replace hd15:=hd15.mod hm8 (by simp);replace hb7:=Blk.far hb7 hm8 (by first | exact hne_g7_g8 | exact (hne_g8_g7).symm);replace hn16:=hn16.mod hm8 (by simp);replace hd16:=hd16.mod hm8 (by simp);clear hm8;replace hb8:=hb8'; clear hb8'
 refine L.nil<|X.seq<|W.seq<|W.seq<|W.region<|L.v (R1.fieldAt rfl tyF47_1) rfl<|L.v (R1.loadFld rfl hb3 rfl tyP44) rfl<|L.v (R1.lenLay rfl ht tyS44) rfl<|L.m rfl rfl<|L.nil<|X.seq ?_
 refine W.block<|W.loop (ι:=Nat × Rat × Option Addr × Nat × Option Addr × Nat × QR × Option Addr × Nat × Option Addr × Nat) (fun (i,x,A7,c7,B7,e7,b,A8,c8,B8,e8)=>[(1,.int .i64 v),(2,vv),(6,.pointer (some ⟨g6,0,none⟩)),(7,.pointer (some ⟨g7,0,none⟩)),(8,.pointer (some ⟨g8,0,none⟩)),(18,.slice T9 c.ts.length t9),(19,.int .i64 ((c.ts.length:Nat):Int)),(20,.int .i64 ((i:Nat):Int))]) (fun (i,x,A7,c7,B7,e7,b,A8,c8,B8,e8) w_=>Lay rdT (g8 :: g7 :: g6 :: N9) w_ (.slice T9 c.ts.length t9) c.ts∧Lay rdQ (g8 :: g7 :: g6 :: N8) w_ vv val∧U32 (g8 :: g7 :: g6 :: M) w_ (.slice A7 (toL x.num.natAbs).length c7) (toL x.num.natAbs)∧U32 (g8 :: g7 :: g6 :: M) w_ (.slice B7 (toL x.den).length e7) (toL x.den)∧U32 (g8 :: g7 :: g6 :: []) w_ (.slice A8 b.n.length c8) b.n∧U32 (g8 :: g7 :: g6 :: []) w_ (.slice B8 b.d.length e8) b.d∧Blk w_ g7 26 #[.bool (decide (x.num<0)),.slice A7 (toL x.num.natAbs).length c7,.slice B7 (toL x.den).length e7]∧Blk w_ g8 26 #[.bool b.s,.slice A8 b.n.length c8,.slice B8 b.d.length e8]∧Blk w_ g6 26 #[.bool false,.slice none 0 0,.slice none 0 0]∧w.heap.size≤g6∧w.heap.size≤g7∧w.heap.size≤g8∧g6≠g7∧g6≠g8∧g7≠g8∧i≤c.ts.length∧Fit x (10001 + i * 30000)∧x=atG val (othT (c.ts.take i) v) (QR.val c.k)∧b=byQ (c.ts.take i) v∧SmQ 10000 b∧Bd (g8 :: g7 :: g6 :: M) w_∧Mod [] w w_) (fun (i,x,A7,c7,B7,e7,b,A8,c8,B8,e8)=>c.ts.length - i) (0,QR.val c.k,A15,c15,B15,e15,QR.nf ((1:Int):Rat),A16,c16,B16,e16) ?_ ?_ ?_
 · exact ⟨rfl,rfl,rfl,rfl,rfl,rfl,rfl,rfl,trivial⟩
 ·
  exact ⟨ht.su,hv.su,hn15.su,hd15.su,hn16.su,hd16.su,hb7,hb8,hb6,hge_g6,hge_g7,hge_g8,hne_g6_g7,hne_g6_g8,hne_g7_g8,Nat.zero_le _,Fit.mono F15 (by decide),rfl,rfl,nf1_sm,hbd.su,hm0⟩
 rintro ⟨i,x,A7,c7,B7,e7,b,A8,c8,B8,e8⟩ w9 ⟨ht,hv,hn7,hd7,hn8,hd8,hb7,hb8,hb6,hge_g6,hge_g7,hge_g8,hne_g6_g7,hne_g6_g8,hne_g7_g8,hi,Fx,hx,hb,hsb,hbd,hm0⟩
 refine W.seq<|W.region<|L.v (R1.lt rfl rfl) rfl<|L.nil<|X.seq<|W.seq<|W.cond rfl ?_ ?_
 ·
  intro hc21
  try simp only [bq,ne_eq] at hc21
  refine W.skip<|X.seq<|W.seq<|W.block<|W.seq<|W.region<|L.v (R1.atLay (j:=i) rfl rfl ht tyS44 rfl (by omega)) rfl ?_
  obtain ⟨z23,cs23,hz23,hE23,ds23,rfl,vn23,vd23,rfl,hn23,hd23⟩:=Lay.elemQ ht (j:=i) (by omega);obtain ⟨A23,c23,rfl⟩:=hn23.form;obtain ⟨B23,e23,rfl⟩:=hd23.form
  refine L.v (R1.loadE rfl hE23 tyG43) rfl ?_
  have F23:=fit_sm hn23 hd23 (hsm.2.2 _ (List.mem_of_getElem? hz23))
  refine L.alloc tyZ43 rfl ?_
  intro g10 w10 hN10
  replace ht:=ht.new hN10;replace hv:=hv.new hN10;replace hn7:=hn7.new hN10;replace hd7:=hd7.new hN10;replace hn8:=hn8.new hN10;replace hd8:=hd8.new hN10;have hne_g7_g10:=hb7.ne_ hN10;replace hb7:=Blk.gr hb7 hN10.mod;have hne_g8_g10:=hb8.ne_ hN10;replace hb8:=Blk.gr hb8 hN10.mod;have hne_g6_g10:=hb6.ne_ hN10;replace hb6:=Blk.gr hb6 hN10.mod;replace hbd:=hbd.new hN10;have hge_g10:=New.ge hN10 hm0.size;replace hm0:=hm0.trans (hN10.mod.mono (by simp));replace hn23:=hn23.new hN10;replace hd23:=hd23.new hN10;have hb10:=hN10.blk;clear hN10
  refine L.storeBox rfl rfl hb10 rfl rfl tyG43 ?_
  intro w11 hb10' hm11
  replace ht:=ht.mod hm11 (by simp);replace hv:=hv.mod hm11 (by simp);replace hn7:=hn7.mod hm11 (by simp);replace hd7:=hd7.mod hm11 (by simp);replace hn8:=hn8.mod hm11 (by simp);replace hd8:=hd8.mod hm11 (by simp);replace hb7:=Blk.far hb7 hm11 (by first | exact hne_g7_g10 | exact (hne_g10_g7).symm);replace hb8:=Blk.far hb8 hm11 (by first | exact hne_g8_g10 | exact (hne_g10_g8).symm);replace hb6:=Blk.far hb6 hm11 (by first | exact hne_g6_g10 | exact (hne_g10_g6).symm);replace hbd:=hbd.gr hm11;replace hm0:=hm0.old1 hm11 hge_g10;replace hn23:=hn23.mod hm11 (by simp);replace hd23:=hd23.mod hm11 (by simp);clear hm11;replace hb10:=hb10'; clear hb10'
  refine L.nil<|X.seq<|W.seq<|W.seq<|W.region<|L.v (R1.fieldAt rfl tyF43_0) rfl<|L.v (R1.loadFld rfl hb10 rfl tyP3) rfl<|L.m rfl rfl<|L.v (R1.eq rfl rfl) rfl<|L.nil<|X.seq ?_
  refine W.cond rfl ?_ ?_
  ·
   intro hc27
   try simp only [bq,ne_eq] at hc27
   refine W.seq<|W.region<|L.v (R1.fieldAt rfl tyF43_1) rfl<|L.v (R1.loadBoxAt (ds:=[.bool z23.c.s,.slice A23 z23.c.n.length c23,.slice B23 z23.c.d.length e23]) rfl hb10 rfl tyG26) rfl<|L.storeBox rfl rfl hb8 rfl rfl tyG26 ?_
   intro w12 hb8' hm12
   replace ht:=ht.mod hm12 (by simp);replace hv:=hv.mod hm12 (by simp);replace hn7:=hn7.mod hm12 (by simp);replace hd7:=hd7.mod hm12 (by simp);replace hb7:=Blk.far hb7 hm12 (by first | exact hne_g7_g8 | exact (hne_g8_g7).symm);replace hb6:=Blk.far hb6 hm12 (by first | exact hne_g6_g8 | exact (hne_g8_g6).symm);replace hbd:=hbd.gr hm12;replace hm0:=hm0.old1 hm12 hge_g8;replace hn23:=hn23.mod hm12 (by simp);replace hd23:=hd23.mod hm12 (by simp);clear hm12;replace hb8:=hb8'; clear hb8'
   refine L.nil<|X.seq<|W.exit<|X.thenExit<|X.here<|X.seq<|W.region<|L.v (R1.addI (b:=1) rfl rfl (by omega)) rfl<|L.m rfl rfl<|L.nil<|X.next (i + 1,x,A7,c7,B7,e7,z23.c,A23,c23,B23,e23) ?_ ?_ ?_
   · exact ⟨rfl,rfl,rfl,rfl,rfl,rfl,rfl,rfl,trivial⟩
   ·
    exact ⟨ht.su,hv.su,hn7.su,hd7.su,hn23.su,hd23.su,hb7,hb8,hb6,hge_g6,hge_g7,hge_g8,hne_g6_g7,hne_g6_g8,hne_g7_g8,by omega,Fit.mono Fx (by omega),by rw [othT_snoc v hz23,if_pos hc27,List.append_nil]; exact hx,by rw [byQ_snoc v hz23,if_pos hc27],hsm.2.2 _ (List.mem_of_getElem? hz23),hbd.su,hm0⟩
   first | omega | (dsimp only; omega)
  intro hc27
  try simp only [bq,ne_eq] at hc27
  have hvr:=isC_all hC z23 (List.mem_of_getElem? hz23)
  refine W.skip<|X.seq<|W.drawW (T:=[10]) rfl (by decide +kernel) (NoHang.block (NoHang.then (NoHang.next (NoHang.block (NoHang.then NoHang.post))))) (fun w13 hm13=>?_)
  replace ht:=ht.gr hm13;replace hv:=hv.gr hm13;replace hn7:=hn7.gr hm13;replace hd7:=hd7.gr hm13;replace hn8:=hn8.gr hm13;replace hd8:=hd8.gr hm13;replace hb7:=Blk.gr hb7 hm13;replace hb8:=Blk.gr hb8 hm13;replace hb6:=Blk.gr hb6 hm13;replace hbd:=hbd.gr hm13;replace hm0:=hm0.trans hm13;replace hn23:=hn23.gr hm13;replace hd23:=hd23.gr hm13;replace hb10:=Blk.gr hb10 hm13
  have hS1:Mod [] w13 w13:=Mod.refl _ _
  clear hm13;have hb7_s:=hb7;have hb10_s:=hb10
  refine D.take 0 rfl (by kernel_rfl) (fun w_ hS=>(R1.loadBox rfl (Blk.gr hb7_s hS) tyG26)) hS1 rfl<|D.take 1 rfl (by kernel_rfl) (fun w_ hS=>(R1.fieldAt rfl tyF43_1)) hS1 rfl<|D.take 2 rfl (by kernel_rfl) (fun w_ hS=>(R1.loadBoxAt (ds:=[.bool z23.c.s,.slice A23 z23.c.n.length c23,.slice B23 z23.c.d.length e23]) rfl (Blk.gr hb10_s hS) rfl tyG26)) hS1 rfl<|D.m 3 rfl (by kernel_rfl) rfl hS1 rfl<|D.take 4 rfl (by kernel_rfl) (fun w_ hS=>(R1.fieldAt rfl tyF43_0)) hS1 rfl<|D.take 5 rfl (by kernel_rfl) (fun w_ hS=>(R1.loadFld rfl (Blk.gr hb10_s hS) rfl tyP3)) hS1 rfl<|D.take 6 rfl (by kernel_rfl) (fun w_ hS=>(R1.atLay (j:=z23.v.toNat) rfl rfl (Lay.gr hv hS) tyS23 (by omega) (by omega))) hS1 rfl ?_
  obtain ⟨z37,cs37,hz37,hE37,vn37,vd37,rfl,hn37,hd37⟩:=Lay.elemQ hv (j:=z23.v.toNat) (by omega);obtain ⟨A37,c37,rfl⟩:=hn37.form;obtain ⟨B37,e37,rfl⟩:=hd37.form
  refine D.take 7 rfl (by kernel_rfl) (fun w_ hS=>(R1.loadE rfl (SlE.gr hE37 hS) tyG26)) hS1 rfl ?_
  have F37:=fit_sm hn37 hd37 (hsv _ (List.mem_of_getElem? hz37))
  refine D.one 8 rfl (by kernel_rfl) (fun hX=>?_)
  refine L.call rfl (c_rat_Mul (qa:=(QR.val z23.c)) (qb:=(QR.val z37)) rfl rfl hn23 hd23 hn37 hd37 hbd (Nat.le_trans (hsm.2.2 _ (List.mem_of_getElem? hz23)).1 (by decide)) (Nat.le_trans (hsm.2.2 _ (List.mem_of_getElem? hz23)).2 (by decide)) (Nat.le_trans (hsv _ (List.mem_of_getElem? hz37)).1 (by decide)) (Nat.le_trans (hsv _ (List.mem_of_getElem? hz37)).2 (by decide))) rfl ?_
  rintro _ w14 ⟨⟨A38,c38,B38,e38,rfl,hn38,hd38⟩,hm14⟩
  replace ht:=ht.gr hm14;replace hv:=hv.gr hm14;replace hn7:=hn7.gr hm14;replace hd7:=hd7.gr hm14;replace hn8:=hn8.gr hm14;replace hd8:=hd8.gr hm14;replace hb7:=Blk.gr hb7 hm14;replace hb8:=Blk.gr hb8 hm14;replace hb6:=Blk.gr hb6 hm14;replace hbd:=hbd.gr hm14;replace hm0:=hm0.trans hm14;replace hS1:=hS1.trans hm14;clear hm14;have F38:=Fit.mul F23 F37
  refine L.nil (hX _ _ ⟨.inr hS1,?_⟩)
  refine D.one 9 rfl (by kernel_rfl) (fun hX=>?_)
  refine L.call rfl (c_rat_Add (qa:=x) (qb:=((QR.val z23.c) * (QR.val z37))) (rv_toL _) (rv_toL _) hn7 hd7 hn38 hd38 hbd (Nat.le_trans Fx.1 (by omega)) (Nat.le_trans Fx.2 (by omega)) (Nat.le_trans F38.1 (by decide)) (Nat.le_trans F38.2 (by decide))) rfl ?_
  rintro _ w15 ⟨⟨A39,c39,B39,e39,rfl,hn39,hd39⟩,hm15⟩
  replace ht:=ht.gr hm15;replace hv:=hv.gr hm15;replace hn8:=hn8.gr hm15;replace hd8:=hd8.gr hm15;replace hb7:=Blk.gr hb7 hm15;replace hb8:=Blk.gr hb8 hm15;replace hb6:=Blk.gr hb6 hm15;replace hbd:=hbd.gr hm15;replace hm0:=hm0.trans hm15;replace hS1:=hS1.trans hm15;clear hm15;have F39:=Fit.add Fx F38
  refine L.nil (hX _ _ ⟨.inr hS1,?_⟩)
  refine D.one 10 rfl (by kernel_rfl) (fun hX=>?_)
  refine L.storeBox rfl rfl hb7 rfl rfl tyG26 ?_
  intro w16 hb7' hm16
  replace ht:=ht.mod hm16 (by simp);replace hv:=hv.mod hm16 (by simp);replace hn8:=hn8.mod hm16 (by simp);replace hd8:=hd8.mod hm16 (by simp);replace hb8:=Blk.far hb8 hm16 (by first | exact hne_g8_g7 | exact (hne_g7_g8).symm);replace hb6:=Blk.far hb6 hm16 (by first | exact hne_g6_g7 | exact (hne_g7_g6).symm);replace hbd:=hbd.gr hm16;replace hm0:=hm0.old1 hm16 hge_g7;replace hn39:=hn39.mod hm16 (by simp);replace hd39:=hd39.mod hm16 (by simp);clear hm16;replace hb7:=hb7'; clear hb7'
  refine L.nil (hX _ _ ⟨.inl rfl,?_⟩)
  refine D.done (by decide +kernel) ?_ _
  refine X.blockEnd<|X.seq<|W.region<|L.v (R1.addI (b:=1) rfl rfl (by omega)) rfl<|L.m rfl rfl<|L.nil<|X.next (i + 1,x + QR.val z23.c * QR.val z37,A39,c39,B39,e39,b,A8,c8,B8,e8) ?_ ?_ ?_
  · exact ⟨rfl,rfl,rfl,rfl,rfl,rfl,rfl,rfl,trivial⟩
  ·
   exact ⟨ht.su,hv.su,hn39.su,hd39.su,hn8.su,hd8.su,hb7,hb8,hb6,hge_g6,hge_g7,hge_g8,hne_g6_g7,hne_g6_g8,hne_g7_g8,by omega,Fit.mono F39 (by omega),by rw [othT_snoc v hz23,if_neg hc27,atG_app,← hx]; simp only [atG]; rw [valOf_some (by omega) hz37],by rw [byQ_snoc v hz23,if_neg hc27]; exact hb,hsb,hbd.su,hm0⟩
  first | omega | (dsimp only; omega)
 intro hc21
 try simp only [bq,ne_eq] at hc21
 obtain rfl:i=c.ts.length:=by omega
 rw [List.take_length] at hx hb
 have Fb:=fit_sm hn8 hd8 hsb;replace Fx:=Fit.mono Fx (show 10001 + c.ts.length * 30000≤400000000 by omega)
 refine W.exit<|X.thenExit<|X.nextExit<|X.here<|X.seq<|W.seq<|W.drawW (T:=[]) rfl (by decide +kernel) (NoHang.then NoHang.post) (fun w17 hm17=>?_)
 replace hn7:=hn7.gr hm17;replace hd7:=hd7.gr hm17;replace hn8:=hn8.gr hm17;replace hd8:=hd8.gr hm17;replace hb7:=Blk.gr hb7 hm17;replace hb8:=Blk.gr hb8 hm17;replace hb6:=Blk.gr hb6 hm17;replace hbd:=hbd.gr hm17;replace hm0:=hm0.trans hm17
 have hS2:Mod [] w17 w17:=Mod.refl _ _
 clear hm17;have hb7_s:=hb7;have hb8_s:=hb8
 refine D.take 0 rfl (by kernel_rfl) (fun w_ hS=>(R1.loadBox rfl (Blk.gr hb7_s hS) tyG26)) hS2 rfl<|D.take 2 rfl (by kernel_rfl) (fun w_ hS=>(R1.loadBox rfl (Blk.gr hb8_s hS) tyG26)) hS2 rfl<|D.many (rs:=[1,7]) (by decide +kernel) rfl ?_
 intro i_ hi_
 simp only [List.mem_cons,List.not_mem_nil,or_false] at hi_
 rcases hi_ with rfl | rfl
 ·
  refine ⟨_,rfl,fun hX=>?_⟩
  refine L.call rfl (c_rat_Neg (q:=x) (rv_toL _) hn7 hd7 hbd (Nat.le_trans Fx.1 (by omega)) (Nat.le_trans Fx.2 (by omega))) rfl ?_
  rintro _ w18 ⟨⟨A43,c43,B43,e43,rfl,hn43,hd43⟩,hm18⟩
  replace hn8:=hn8.gr hm18;replace hd8:=hd8.gr hm18;replace hb6:=Blk.gr hb6 hm18;replace hbd:=hbd.gr hm18;replace hm0:=hm0.trans hm18;replace hS2:=hS2.trans hm18;clear hm18;have F43:=Fit.neg Fx
  refine L.nil (hX _ _ ⟨.inr hS2,?_⟩)
  refine D.many (rs:=[3,7]) (by decide +kernel) rfl ?_
  intro i_ hi_
  simp only [List.mem_cons,List.not_mem_nil,or_false] at hi_
  rcases hi_ with rfl | rfl
  ·
   refine ⟨_,rfl,fun hX=>?_⟩
   refine L.call rfl (c_rat_Div (qa:=(-x)) (qb:=(QR.val b)) (rv_toL _) rfl hn43 hd43 hn8 hd8 hbd (Nat.le_trans F43.1 (by decide)) (Nat.le_trans F43.2 (by decide)) (Nat.le_trans hsb.1 (by decide)) (Nat.le_trans hsb.2 (by decide))) rfl ?_
   rintro _ w19 ⟨v45,rfl,⟨A45,c45,B45,e45,rfl,hn45,hd45⟩,hm19⟩
   replace hb6:=Blk.gr hb6 hm19;replace hm0:=hm0.trans hm19;replace hS2:=hS2.trans hm19;clear hm19;have F45:=Fit.div F43 Fb (by decide)
   refine L.nil (hX _ _ ⟨.inr hS2,?_⟩)
   refine D.m 4 rfl (by kernel_rfl) rfl hS2 rfl<|D.take 5 rfl (by kernel_rfl) (fun w_ hS=>(R1.extract rfl rfl)) hS2 rfl<|D.take 6 rfl (by kernel_rfl) (fun w_ hS=>(R1.extract rfl rfl)) hS2 rfl<|D.one 7 rfl (by kernel_rfl) (fun hX=>?_)
   refine L.alloc tyZ26 rfl ?_
   intro g11 w20 hN11
   have hgs_g11:=New.ge hN11 hS2.size;replace hS2:=hS2.trans hN11.mod;have hne_g6_g11:=hb6.ne_ hN11;replace hb6:=Blk.gr hb6 hN11.mod;have hge_g11:=New.ge hN11 hm0.size;replace hm0:=hm0.trans (hN11.mod.mono (by simp));replace hn45:=hn45.new hN11;replace hd45:=hd45.new hN11;have hb11:=hN11.blk;clear hN11
   refine L.nil (hX _ _ ⟨.inr hS2,?_⟩)
   refine D.one 8 rfl (by kernel_rfl) (fun hX=>?_)
   refine L.storeBox rfl rfl hb11 rfl rfl tyG26 ?_
   intro w21 hb11' hm21
   replace hS2:=hS2.old1 hm21 hgs_g11;replace hb6:=Blk.far hb6 hm21 (by first | exact hne_g6_g11 | exact (hne_g11_g6).symm);replace hm0:=hm0.old1 hm21 hge_g11;replace hn45:=hn45.mod hm21 (by simp);replace hd45:=hd45.mod hm21 (by simp);clear hm21;replace hb11:=hb11'; clear hb11'
   refine L.nil (hX _ _ ⟨.inr hS2,?_⟩)
   refine D.take 9 rfl (by kernel_rfl) (fun w_ hS=>(R1.assign rfl)) hS2 rfl<|D.done (by decide +kernel) ?_ _
   refine X.seq<|W.seq<|W.region<|L.v (R1.loadBox rfl hb11 tyG26) rfl<|L.storeBox rfl rfl hb6 rfl rfl tyG26 ?_
   intro w22 hb6' hm22
   replace hm0:=hm0.old1 hm22 hge_g6;replace hn45:=hn45.mod hm22 (by simp);replace hd45:=hd45.mod hm22 (by simp);clear hm22;replace hb6:=hb6'; clear hb6'
   refine L.nil<|X.seq<|W.ret<|X.result1 rfl (.cell rfl (loadVar_blk hb6 tyG26) .nil) ?_
   have he9:toldV c v val=((-x) / QR.val b):=by unfold toldV; rw [← hx,← hb]
   rw [he9]
   exact ⟨RN.mk rfl (hn45.su) (hd45.su),Fit.mono F45 (by decide),hm0⟩
  refine ⟨_,rfl,fun hX=>?_⟩
  refine L.alloc tyZ26 rfl ?_
  intro g11 w23 hN11
  have hgs_g11:=New.ge hN11 hS2.size;replace hS2:=hS2.trans hN11.mod;replace hn8:=hn8.new hN11;replace hd8:=hd8.new hN11;have hne_g6_g11:=hb6.ne_ hN11;replace hb6:=Blk.gr hb6 hN11.mod;replace hbd:=hbd.new hN11;have hge_g11:=New.ge hN11 hm0.size;replace hm0:=hm0.trans (hN11.mod.mono (by simp));replace hn43:=hn43.new hN11;replace hd43:=hd43.new hN11;have hb11:=hN11.blk;clear hN11
  refine L.nil (hX _ _ ⟨.inr hS2,?_⟩)
  refine D.one 3 rfl (by kernel_rfl) (fun hX=>?_)
  refine L.call rfl (c_rat_Div (qa:=(-x)) (qb:=(QR.val b)) (rv_toL _) rfl hn43 hd43 hn8 hd8 hbd (Nat.le_trans F43.1 (by decide)) (Nat.le_trans F43.2 (by decide)) (Nat.le_trans hsb.1 (by decide)) (Nat.le_trans hsb.2 (by decide))) rfl ?_
  rintro _ w24 ⟨v45,rfl,⟨A45,c45,B45,e45,rfl,hn45,hd45⟩,hm24⟩
  replace hb6:=Blk.gr hb6 hm24;replace hm0:=hm0.trans hm24;replace hb11:=Blk.gr hb11 hm24;replace hS2:=hS2.trans hm24;clear hm24;have F45:=Fit.div F43 Fb (by decide)
  refine L.nil (hX _ _ ⟨.inr hS2,?_⟩)
  refine D.m 4 rfl (by kernel_rfl) rfl hS2 rfl<|D.take 5 rfl (by kernel_rfl) (fun w_ hS=>(R1.extract rfl rfl)) hS2 rfl<|D.take 6 rfl (by kernel_rfl) (fun w_ hS=>(R1.extract rfl rfl)) hS2 rfl<|D.one 8 rfl (by kernel_rfl) (fun hX=>?_)
  refine L.storeBox rfl rfl hb11 rfl rfl tyG26 ?_
  intro w25 hb11' hm25
  replace hS2:=hS2.old1 hm25 hgs_g11;replace hb6:=Blk.far hb6 hm25 (by first | exact hne_g6_g11 | exact (hne_g11_g6).symm);replace hm0:=hm0.old1 hm25 hge_g11;replace hn45:=hn45.mod hm25 (by simp);replace hd45:=hd45.mod hm25 (by simp);clear hm25;replace hb11:=hb11'; clear hb11'
  refine L.nil (hX _ _ ⟨.inr hS2,?_⟩)
  refine D.take 9 rfl (by kernel_rfl) (fun w_ hS=>(R1.assign rfl)) hS2 rfl<|D.done (by decide +kernel) ?_ _
  refine X.seq<|W.seq<|W.region<|L.v (R1.loadBox rfl hb11 tyG26) rfl<|L.storeBox rfl rfl hb6 rfl rfl tyG26 ?_
  intro w26 hb6' hm26
  replace hm0:=hm0.old1 hm26 hge_g6;replace hn45:=hn45.mod hm26 (by simp);replace hd45:=hd45.mod hm26 (by simp);clear hm26;replace hb6:=hb6'; clear hb6'
  refine L.nil<|X.seq<|W.ret<|X.result1 rfl (.cell rfl (loadVar_blk hb6 tyG26) .nil) ?_
  have he9:toldV c v val=((-x) / QR.val b):=by unfold toldV; rw [← hx,← hb]
  rw [he9]
  exact ⟨RN.mk rfl (hn45.su) (hd45.su),Fit.mono F45 (by decide),hm0⟩
 refine ⟨_,rfl,fun hX=>?_⟩
 refine L.alloc tyZ26 rfl ?_
 intro g11 w27 hN11
 have hgs_g11:=New.ge hN11 hS2.size;replace hS2:=hS2.trans hN11.mod;replace hn7:=hn7.new hN11;replace hd7:=hd7.new hN11;replace hn8:=hn8.new hN11;replace hd8:=hd8.new hN11;have hne_g6_g11:=hb6.ne_ hN11;replace hb6:=Blk.gr hb6 hN11.mod;replace hbd:=hbd.new hN11;have hge_g11:=New.ge hN11 hm0.size;replace hm0:=hm0.trans (hN11.mod.mono (by simp));have hb11:=hN11.blk;clear hN11
 refine L.nil (hX _ _ ⟨.inr hS2,?_⟩)
 refine D.one 1 rfl (by kernel_rfl) (fun hX=>?_)
 refine L.call rfl (c_rat_Neg (q:=x) (rv_toL _) hn7 hd7 hbd (Nat.le_trans Fx.1 (by omega)) (Nat.le_trans Fx.2 (by omega))) rfl ?_
 rintro _ w28 ⟨⟨A43,c43,B43,e43,rfl,hn43,hd43⟩,hm28⟩
 replace hn8:=hn8.gr hm28;replace hd8:=hd8.gr hm28;replace hb6:=Blk.gr hb6 hm28;replace hbd:=hbd.gr hm28;replace hm0:=hm0.trans hm28;replace hb11:=Blk.gr hb11 hm28;replace hS2:=hS2.trans hm28;clear hm28;have F43:=Fit.neg Fx
 refine L.nil (hX _ _ ⟨.inr hS2,?_⟩)
 refine D.one 3 rfl (by kernel_rfl) (fun hX=>?_)
 refine L.call rfl (c_rat_Div (qa:=(-x)) (qb:=(QR.val b)) (rv_toL _) rfl hn43 hd43 hn8 hd8 hbd (Nat.le_trans F43.1 (by decide)) (Nat.le_trans F43.2 (by decide)) (Nat.le_trans hsb.1 (by decide)) (Nat.le_trans hsb.2 (by decide))) rfl ?_
 rintro _ w29 ⟨v45,rfl,⟨A45,c45,B45,e45,rfl,hn45,hd45⟩,hm29⟩
 replace hb6:=Blk.gr hb6 hm29;replace hm0:=hm0.trans hm29;replace hb11:=Blk.gr hb11 hm29;replace hS2:=hS2.trans hm29;clear hm29;have F45:=Fit.div F43 Fb (by decide)
 refine L.nil (hX _ _ ⟨.inr hS2,?_⟩)
 refine D.m 4 rfl (by kernel_rfl) rfl hS2 rfl<|D.take 5 rfl (by kernel_rfl) (fun w_ hS=>(R1.extract rfl rfl)) hS2 rfl<|D.take 6 rfl (by kernel_rfl) (fun w_ hS=>(R1.extract rfl rfl)) hS2 rfl<|D.one 8 rfl (by kernel_rfl) (fun hX=>?_)
 refine L.storeBox rfl rfl hb11 rfl rfl tyG26 ?_
 intro w30 hb11' hm30
 replace hS2:=hS2.old1 hm30 hgs_g11;replace hb6:=Blk.far hb6 hm30 (by first | exact hne_g6_g11 | exact (hne_g11_g6).symm);replace hm0:=hm0.old1 hm30 hge_g11;replace hn45:=hn45.mod hm30 (by simp);replace hd45:=hd45.mod hm30 (by simp);clear hm30;replace hb11:=hb11'; clear hb11'
 refine L.nil (hX _ _ ⟨.inr hS2,?_⟩)
 refine D.take 9 rfl (by kernel_rfl) (fun w_ hS=>(R1.assign rfl)) hS2 rfl<|D.done (by decide +kernel) ?_ _
 refine X.seq<|W.seq<|W.region<|L.v (R1.loadBox rfl hb11 tyG26) rfl<|L.storeBox rfl rfl hb6 rfl rfl tyG26 ?_
 intro w31 hb6' hm31
 replace hm0:=hm0.old1 hm31 hge_g6;replace hn45:=hn45.mod hm31 (by simp);replace hd45:=hd45.mod hm31 (by simp);clear hm31;replace hb6:=hb6'; clear hb6'
 refine L.nil<|X.seq<|W.ret<|X.result1 rfl (.cell rfl (loadVar_blk hb6 tyG26) .nil) ?_
 have he9:toldV c v val=((-x) / QR.val b):=by unfold toldV; rw [← hx,← hb]
 rw [he9]
 exact ⟨RN.mk rfl (hn45.su) (hd45.su),Fit.mono F45 (by decide),hm0⟩
set_option maxHeartbeats 1000000 in
theorem c_told {M N9 : List Nat} {w : World} {c : CR} {vt vn vd : Value} (ht : Lay rdT N9 w vt c.ts) (h : U32 N9 w vn c.k.n) (k : U32 N9 w vd c.k.d) {N8 : List Nat} {vv : Value} {val : List QR} {v : Int} (hv : Lay rdQ N8 w vv val) (hbd : Bd M w) (hsm : SmC 10000 c) (hsv : ∀ q ∈ val, SmQ 10000 q) (hC : isC c (val.length : Int) = true) :
    Ret Tryz.prog 56 #[.agg #[.int .i64 c.st,vt,.bool c.k.s,vn,vd],.int .i64 v,vv] w (fun r w'=>RN M w' r (toldV c v val)∧Fit (toldV c v val) 4000000000∧Mod [] w w'):=by
 obtain ⟨T9,t9,rfl⟩:=ht.form;obtain ⟨A9,c9,rfl⟩:=h.form;obtain ⟨B9,e9,rfl⟩:=k.form;have hlt:=hsm.1;have FK:=fit_sm h k hsm.2.1
 refine Ret.of (vs:=[.agg #[.int .i64 c.st,.slice T9 c.ts.length t9,.bool c.k.s,.slice A9 c.k.n.length c9,.slice B9 c.k.d.length e9],.int .i64 v,vv]) (n:=57) Tryz.func56 rfl rfl rfl rfl ?_
 have hm0:Mod [] w w:=Mod.refl _ _
 refine W.seq<|W.region<|L.box rfl rfl ?_
 intro g3 w1 hN3
 replace ht:=ht.new hN3;replace h:=h.new hN3;replace k:=k.new hN3;replace hv:=hv.new hN3;replace hbd:=hbd.new hN3;have hge_g3:=New.ge hN3 hm0.size;replace hm0:=hm0.trans (hN3.mod.mono (by simp));have hb3:=hN3.blk;clear hN3
 refine L.alloc tyZ26 rfl ?_
 intro g6 w2 hN6
 replace ht:=ht.new hN6;replace h:=h.new hN6;replace k:=k.new hN6;replace hv:=hv.new hN6;replace hbd:=hbd.new hN6;have hge_g6:=New.ge hN6 hm0.size;replace hm0:=hm0.trans (hN6.mod.mono (by simp));have hne_g3_g6:=hb3.ne_ hN6;replace hb3:=Blk.gr hb3 hN6.mod;have hb6:=hN6.blk;clear hN6
 refine L.nil<|X.seq<|W.seq<|W.region<|L.call rfl (c_ref2_Int (n:=1) (by decide) (by decide) hbd) rfl ?_
 rintro _ w3 ⟨⟨A12,c12,B12,e12,rfl,hn12,hd12⟩,hm3⟩
 replace ht:=ht.gr hm3;replace h:=h.gr hm3;replace k:=k.gr hm3;replace hv:=hv.gr hm3;replace hbd:=hbd.gr hm3;replace hm0:=hm0.trans hm3;replace hb3:=Blk.gr hb3 hm3;replace hb6:=Blk.gr hb6 hm3;clear hm3;have F12:=Fit.int (n:=1) (by decide) (by decide)
 refine L.alloc tyZ26 rfl ?_
 intro g7 w4 hN7
 replace ht:=ht.new hN7;replace h:=h.new hN7;replace k:=k.new hN7;replace hv:=hv.new hN7;replace hbd:=hbd.new hN7;have hge_g7:=New.ge hN7 hm0.size;replace hm0:=hm0.trans (hN7.mod.mono (by simp));have hne_g3_g7:=hb3.ne_ hN7;replace hb3:=Blk.gr hb3 hN7.mod;have hne_g6_g7:=hb6.ne_ hN7;replace hb6:=Blk.gr hb6 hN7.mod;replace hn12:=hn12.new hN7;replace hd12:=hd12.new hN7;have hb7:=hN7.blk;clear hN7
 refine L.storeBox rfl rfl hb7 rfl rfl tyG26 ?_
 intro w5 hb7' hm5
 replace ht:=ht.mod hm5 (by simp);replace h:=h.mod hm5 (by simp);replace k:=k.mod hm5 (by simp);replace hv:=hv.mod hm5 (by simp);replace hbd:=hbd.gr hm5;replace hm0:=hm0.old1 hm5 hge_g7;replace hb3:=Blk.far hb3 hm5 (by first | exact hne_g3_g7 | exact (hne_g7_g3).symm);replace hb6:=Blk.far hb6 hm5 (by first | exact hne_g6_g7 | exact (hne_g7_g6).symm);replace hn12:=hn12.mod hm5 (by simp);replace hd12:=hd12.mod hm5 (by simp);clear hm5;replace hb7:=hb7'; clear hb7'
 refine L.nil<|X.seq<|W.seq<|W.region<|L.v (R1.fieldAt rfl tyF47_2) rfl<|L.v (R1.loadBoxAt (ds:=[.bool c.k.s,.slice A9 c.k.n.length c9,.slice B9 c.k.d.length e9]) rfl hb3 rfl tyG26) rfl<|L.v (R1.build (vs:=[.agg #[.bool c.k.s,.slice A9 c.k.n.length c9,.slice B9 c.k.d.length e9]]) rfl (built_C2 _ _ _ _ _ _ _)) rfl<|L.alloc tyZ47 rfl ?_
 intro g8 w6 hN8
 replace ht:=ht.new hN8;replace h:=h.new hN8;replace k:=k.new hN8;replace hv:=hv.new hN8;replace hbd:=hbd.new hN8;have hge_g8:=New.ge hN8 hm0.size;replace hm0:=hm0.trans (hN8.mod.mono (by simp));have hne_g3_g8:=hb3.ne_ hN8;replace hb3:=Blk.gr hb3 hN8.mod;have hne_g6_g8:=hb6.ne_ hN8;replace hb6:=Blk.gr hb6 hN8.mod;replace hn12:=hn12.new hN8;replace hd12:=hd12.new hN8;have hne_g7_g8:=hb7.ne_ hN8;replace hb7:=Blk.gr hb7 hN8.mod;have hb8:=hN8.blk;clear hN8
 refine L.storeBox rfl rfl hb8 rfl rfl tyG47 ?_
 intro w7 hb8' hm7
 replace ht:=ht.mod hm7 (by simp);replace h:=h.mod hm7 (by simp);replace k:=k.mod hm7 (by simp);replace hv:=hv.mod hm7 (by simp);replace hbd:=hbd.gr hm7;replace hm0:=hm0.old1 hm7 hge_g8;replace hb3:=Blk.far hb3 hm7 (by first | exact hne_g3_g8 | exact (hne_g8_g3).symm);replace hb6:=Blk.far hb6 hm7 (by first | exact hne_g6_g8 | exact (hne_g8_g6).symm);replace hn12:=hn12.mod hm7 (by simp);replace hd12:=hd12.mod hm7 (by simp);replace hb7:=Blk.far hb7 hm7 (by first | exact hne_g7_g8 | exact (hne_g8_g7).symm);clear hm7;replace hb8:=hb8'; clear hb8'
 refine L.nil<|X.seq<|W.seq<|W.seq<|W.region<|L.a rfl rfl<|L.nil<|X.seq<|W.block<|W.loop (ι:=Nat × Value × List (List Value) × QR × Option Addr × Nat × Option Addr × Nat) (fun (i,u,css,b,A7,c7,B7,e7)=>[(1,.int .i64 v),(2,vv),(3,.pointer (some ⟨g3,0,none⟩)),(6,.pointer (some ⟨g6,0,none⟩)),(7,.pointer (some ⟨g7,0,none⟩)),(8,.pointer (some ⟨g8,0,none⟩)),(9,.int .i64 ((i:Nat):Int))]) (fun (i,u,css,b,A7,c7,B7,e7) w_=>Lay rdT (ownL u ++ (g8 :: g7 :: g6 :: g3 :: N9)) w_ (.slice T9 c.ts.length t9) c.ts∧U32 (ownL u ++ (g8 :: g7 :: g6 :: g3 :: N9)) w_ (.slice A9 c.k.n.length c9) c.k.n∧U32 (ownL u ++ (g8 :: g7 :: g6 :: g3 :: N9)) w_ (.slice B9 c.k.d.length e9) c.k.d∧Lay rdQ (ownL u ++ (g8 :: g7 :: g6 :: g3 :: N8)) w_ vv val∧U32 (ownL u ++ (g8 :: g7 :: g6 :: g3 :: [])) w_ (.slice A7 b.n.length c7) b.n∧U32 (ownL u ++ (g8 :: g7 :: g6 :: g3 :: [])) w_ (.slice B7 b.d.length e7) b.d∧Blk w_ g3 47 #[.int .i64 c.st,.slice T9 c.ts.length t9,.bool c.k.s,.slice A9 c.k.n.length c9,.slice B9 c.k.d.length e9]∧Blk w_ g7 26 #[.bool b.s,.slice A7 b.n.length c7,.slice B7 b.d.length e7]∧Blk w_ g8 47 #[.int .i64 0,u,.bool c.k.s,.slice A9 c.k.n.length c9,.slice B9 c.k.d.length e9]∧Blk w_ g6 26 #[.bool false,.slice none 0 0,.slice none 0 0]∧w_.ownsRow w.heap.size 43 4 u (othT (c.ts.take i) v).length css.flatten∧LayL rdT (ownL u ++ (g8 :: g7 :: g6 :: g3 :: N9)) w_ css (othT (c.ts.take i) v)∧u.ownBlock≠some g3∧u.ownBlock≠some g6∧u.ownBlock≠some g7∧u.ownBlock≠some g8∧w.heap.size≤g6∧w.heap.size≤g7∧w.heap.size≤g8∧g6≠g7∧g6≠g8∧g7≠g8∧w.heap.size≤g3∧g3≠g6∧g3≠g7∧g3≠g8∧i≤c.ts.length∧b=byQ (c.ts.take i) v∧SmQ 10000 b∧Bd (ownL u ++ (g8 :: g7 :: g6 :: g3 :: M)) w_∧Mod [] w w_) (fun (i,u,css,b,A7,c7,B7,e7)=>c.ts.length - i) (0,.slice none 0 0,[],QR.nf ((1:Int):Rat),A12,c12,B12,e12) ?_ ?_ ?_
 · exact ⟨rfl,rfl,rfl,rfl,rfl,rfl,rfl,trivial⟩
 ·
  exact ⟨ht.su,h.su,k.su,hv.su,hn12.su,hd12.su,hb3,hb7,hb8,hb6,own_nil _ _ _ _,LayL.nil,(fun h=>by cases h),(fun h=>by cases h),(fun h=>by cases h),(fun h=>by cases h),hge_g6,hge_g7,hge_g8,hne_g6_g7,hne_g6_g8,hne_g7_g8,hge_g3,hne_g3_g6,hne_g3_g7,hne_g3_g8,Nat.zero_le _,rfl,nf1_sm,hbd.su,hm0⟩
 rintro ⟨i,u,css,b,A7,c7,B7,e7⟩ w8 ⟨ht,h,k,hv,hn7,hd7,hb3,hb7,hb8,hb6,ho,hl,hno_ho_g3,hno_ho_g6,hno_ho_g7,hno_ho_g8,hge_g6,hge_g7,hge_g8,hne_g6_g7,hne_g6_g8,hne_g7_g8,hge_g3,hne_g3_g6,hne_g3_g7,hne_g3_g8,hi,hb,hsb,hbd,hm0⟩
 refine W.seq<|W.seq<|W.region<|L.m rfl rfl<|L.v (R1.fieldAt rfl tyF47_1) rfl<|L.v (R1.loadFld rfl hb3 rfl tyP44) rfl<|L.v (R1.lenLay rfl ht tyS44) rfl<|L.v (R1.lt rfl rfl) rfl<|L.nil<|X.seq<|W.cond rfl ?_ ?_
 ·
  intro hc20
  try simp only [bq,ne_eq] at hc20
  refine W.skip<|X.seq<|W.seq<|W.block<|W.seq<|W.region<|L.v (R1.fieldAt rfl tyF47_1) rfl<|L.v (R1.loadFld rfl hb3 rfl tyP44) rfl<|L.m rfl rfl<|L.v (R1.atLay (j:=i) rfl rfl ht tyS44 rfl (by omega)) rfl<|L.v (R1.fieldAddr rfl tyF43_0) rfl ?_
  obtain ⟨z28,cs28,hz28,hE28,ds28,rfl,vn28,vd28,rfl,hn28,hd28⟩:=Lay.elemQ ht (j:=i) (by omega);obtain ⟨A28,c28,rfl⟩:=hn28.form;obtain ⟨B28,e28,rfl⟩:=hd28.form
  refine L.v (R1.loadEF rfl hE28 rfl tyP3) rfl<|L.m rfl rfl<|L.v (R1.eq rfl rfl) rfl<|L.nil<|X.seq<|W.cond rfl ?_ ?_
  ·
   intro hc30
   try simp only [bq,ne_eq] at hc30
   refine W.region<|L.v (R1.fieldAt rfl tyF47_1) rfl<|L.v (R1.loadFld rfl hb3 rfl tyP44) rfl<|L.m rfl rfl<|L.v (R1.atLay (j:=i) rfl rfl ht tyS44 rfl (by omega)) rfl<|L.v (R1.fieldAddr rfl tyF43_1) rfl ?_
   obtain ⟨z36,cs36,hz36,hE36,ds36,rfl,vn36,vd36,rfl,hn36,hd36⟩:=Lay.elemQ ht (j:=i) (by omega);obtain ⟨A36,c36,rfl⟩:=hn36.form;obtain ⟨B36,e36,rfl⟩:=hd36.form
   obtain rfl:z28=z36:=by have h9:=hz36; rw [hz28] at h9; injection h9
   refine L.v (R1.loadEA (ds:=[.bool z28.c.s,.slice A36 z28.c.n.length c36,.slice B36 z28.c.d.length e36]) rfl hE36 rfl tyG26) rfl<|L.storeBox rfl rfl hb7 rfl rfl tyG26 ?_
   intro w9 hb7' hm9
   replace ht:=ht.mod hm9 (by simp);replace h:=h.mod hm9 (by simp);replace k:=k.mod hm9 (by simp);replace hv:=hv.mod hm9 (by simp);replace hb3:=Blk.far hb3 hm9 (by first | exact hne_g3_g7 | exact (hne_g7_g3).symm);replace hb8:=Blk.far hb8 hm9 (by first | exact hne_g8_g7 | exact (hne_g7_g8).symm);replace hb6:=Blk.far hb6 hm9 (by first | exact hne_g6_g7 | exact (hne_g7_g6).symm);replace ho:=own_far ho hm9 hno_ho_g7;replace hl:=hl.mod hm9 (by simp);replace hbd:=hbd.gr hm9;replace hm0:=hm0.old1 hm9 hge_g7;replace hn36:=hn36.mod hm9 (by simp);replace hd36:=hd36.mod hm9 (by simp);clear hm9;replace hb7:=hb7'; clear hb7'
   refine L.nil<|X.blockEnd<|X.seq<|W.region<|L.m rfl rfl<|L.v (R1.addI (b:=1) rfl rfl (by omega)) rfl<|L.a rfl rfl<|L.nil<|X.next (i + 1,u,css,z28.c,A36,c36,B36,e36) ?_ ?_ ?_
   · exact ⟨rfl,rfl,rfl,rfl,rfl,rfl,rfl,trivial⟩
   ·
    exact ⟨ht.su,h.su,k.su,hv.su,hn36.su,hd36.su,hb3,hb7,hb8,hb6,own_congr ho (by rw [othT_snoc v hz28,if_pos hc30,List.append_nil]) rfl,by rw [othT_snoc v hz28,if_pos hc30,List.append_nil]; exact hl.su,hno_ho_g3,hno_ho_g6,hno_ho_g7,hno_ho_g8,hge_g6,hge_g7,hge_g8,hne_g6_g7,hne_g6_g8,hne_g7_g8,hge_g3,hne_g3_g6,hne_g3_g7,hne_g3_g8,by omega,by rw [byQ_snoc v hz28,if_pos hc30],hsm.2.2 _ (List.mem_of_getElem? hz28),hbd.su,hm0⟩
   first | omega | (dsimp only; omega)
  intro hc30
  try simp only [bq,ne_eq] at hc30
  refine W.drawW (T:=[8,9,10]) rfl (by decide +kernel) (NoHang.block (NoHang.then (NoHang.next (NoHang.block (NoHang.then NoHang.post))))) (fun w10 hm10=>?_)
  replace ht:=ht.gr hm10;replace h:=h.gr hm10;replace k:=k.gr hm10;replace hv:=hv.gr hm10;replace hn7:=hn7.gr hm10;replace hd7:=hd7.gr hm10;replace hb3:=Blk.gr hb3 hm10;replace hb7:=Blk.gr hb7 hm10;replace hb8:=Blk.gr hb8 hm10;replace hb6:=Blk.gr hb6 hm10;replace ho:=own_gr ho hm10 (by simp);replace hl:=hl.gr hm10;replace hbd:=hbd.gr hm10;replace hm0:=hm0.trans hm10;replace hn28:=hn28.gr hm10;replace hd28:=hd28.gr hm10
  have hS1:Mod [] w10 w10:=Mod.refl _ _
  clear hm10;have hb3_s:=hb3;have hb8_s:=hb8
  refine D.take 0 rfl (by kernel_rfl) (fun w_ hS=>(R1.fieldAt rfl tyF47_1)) hS1 rfl<|D.take 1 rfl (by kernel_rfl) (fun w_ hS=>((R1.loadFld rfl (Blk.gr hb8_s hS) rfl tyP44).asV (v:=u) rfl)) hS1 rfl<|D.take 2 rfl (by kernel_rfl) (fun w_ hS=>(R1.fieldAt rfl tyF47_1)) hS1 rfl<|D.take 3 rfl (by kernel_rfl) (fun w_ hS=>(R1.loadFld rfl (Blk.gr hb3_s hS) rfl tyP44)) hS1 rfl<|D.m 4 rfl (by kernel_rfl) rfl hS1 rfl<|D.take 5 rfl (by kernel_rfl) (fun w_ hS=>(R1.atLay (j:=i) rfl rfl (Lay.gr ht hS) tyS44 rfl (by omega))) hS1 rfl ?_
  obtain ⟨z43,cs43,hz43,hE43,ds43,rfl,vn43,vd43,rfl,hn43,hd43⟩:=Lay.elemQ ht (j:=i) (by omega);obtain ⟨A43,c43,rfl⟩:=hn43.form;obtain ⟨B43,e43,rfl⟩:=hd43.form
  obtain rfl:z28=z43:=by have h9:=hz43; rw [hz28] at h9; injection h9
  refine D.take 6 rfl (by kernel_rfl) (fun w_ hS=>(R1.loadE rfl (SlE.gr hE43 hS) tyG43)) hS1 rfl<|D.one 7 rfl (by kernel_rfl) (fun hX=>?_)
  refine L.buildSlice (cells:=[.int .i64 z28.v,.bool z28.c.s,.slice A43 z28.c.n.length c43,.slice B43 z28.c.d.length e43]) rfl tyS44 tyZ43 (fillN1 _ _ _ _ _ _ _ _) (by decide) (by decide) rfl ?_
  intro g44 w11 hN44
  replace ht:=ht.gr hN44.mod;replace h:=h.gr hN44.mod;replace k:=k.gr hN44.mod;replace hv:=hv.gr hN44.mod;replace hn7:=hn7.gr hN44.mod;replace hd7:=hd7.gr hN44.mod;replace hb3:=Blk.gr hb3 hN44.mod;replace hb7:=Blk.gr hb7 hN44.mod;replace hb8:=Blk.gr hb8 hN44.mod;replace hb6:=Blk.gr hb6 hN44.mod;replace ho:=own_gr ho hN44.mod (by simp);replace hl:=hl.gr hN44.mod;replace hbd:=hbd.gr hN44.mod;replace hm0:=hm0.trans hN44.mod;replace hn28:=hn28.gr hN44.mod;replace hd28:=hd28.gr hN44.mod;replace hn43:=hn43.gr hN44.mod;replace hd43:=hd43.gr hN44.mod;replace hS1:=hS1.trans hN44.mod
  have hrow:Sl [] w11 4 (.slice (some ⟨g44,0,none⟩) 1 1) 1 [.int .i64 z28.v,.bool z28.c.s,.slice A43 z28.c.n.length c43,.slice B43 z28.c.d.length e43]:=Sl.of_blk hN44.blk 0 (Nat.le_refl _) (by decide) rfl (by simp) (fun j hj=>by simp)
  clear hN44
  refine L.nil (hX _ _ ⟨.inr hS1,?_⟩)
  have hfl:=othT_len (c.ts.take i) v
  rw [List.length_take] at hfl
  refine D.one 8 rfl (by kernel_rfl) (fun hX=>?_)
  refine L.append rfl rfl ho hrow (by intro c hc; simp only [List.mem_cons,List.not_mem_nil,or_false] at hc; rcases hc with rfl | rfl | rfl | rfl <;> rfl) tyS44 tyZ43 (by omega) (by unfold maxLen; omega) hm0.size rfl ?_
  intro v45 w12 ho45' hG45
  replace ht:=ht.grew2 hG45 (by first | exact mem_own | (intro b hb; simp [hb]));replace h:=h.grew2 hG45 (by first | exact mem_own | (intro b hb; simp [hb]));replace k:=k.grew2 hG45 (by first | exact mem_own | (intro b hb; simp [hb]));replace hv:=hv.grew2 hG45 (by first | exact mem_own | (intro b hb; simp [hb]));replace hn7:=hn7.grew2 hG45 (by first | exact mem_own | (intro b hb; simp [hb]));replace hd7:=hd7.grew2 hG45 (by first | exact mem_own | (intro b hb; simp [hb]));have hnn_g3:=hG45.ne hno_ho_g3 hb3;replace hb3:=Blk.grew hb3 hG45 hno_ho_g3;replace hno_ho_g3:=hnn_g3;have hnn_g7:=hG45.ne hno_ho_g7 hb7;replace hb7:=Blk.grew hb7 hG45 hno_ho_g7;replace hno_ho_g7:=hnn_g7;have hnn_g8:=hG45.ne hno_ho_g8 hb8;replace hb8:=Blk.grew hb8 hG45 hno_ho_g8;replace hno_ho_g8:=hnn_g8;have hnn_g6:=hG45.ne hno_ho_g6 hb6;replace hb6:=Blk.grew hb6 hG45 hno_ho_g6;replace hno_ho_g6:=hnn_g6;replace hl:=hl.grew2 hG45 (by first | exact mem_own | (intro b hb; simp [hb]));replace hbd:=hbd.grew2 hG45 (by first | exact mem_own | (intro b hb; simp [hb]));replace hm0:=Mod.oldOwn hm0 hG45.mod ho;replace hn28:=hn28.grew2 hG45 (by first | exact mem_own | (intro b hb; simp [hb]));replace hd28:=hd28.grew2 hG45 (by first | exact mem_own | (intro b hb; simp [hb]));replace hn43:=hn43.grew2 hG45 (by first | exact mem_own | (intro b hb; simp [hb]));replace hd43:=hd43.grew2 hG45 (by first | exact mem_own | (intro b hb; simp [hb]));replace ho:=ho45'; clear ho45';clear hG45
  refine L.nil (hX _ _ ⟨.inl rfl,?_⟩)
  refine D.one 9 rfl (by kernel_rfl) (fun hX=>?_)
  refine L.v (R1.fieldAt rfl tyF47_1) rfl (L.nil (hX _ _ ⟨.inl rfl,?_⟩))
  refine D.one 10 rfl (by kernel_rfl) (fun hX=>?_)
  refine L.store rfl rfl hb8 (show 1<5 by decide) (own_one ho) tyP44 ?_
  intro w13 hb8' hm13
  replace ht:=ht.mod hm13 (by simp);replace h:=h.mod hm13 (by simp);replace k:=k.mod hm13 (by simp);replace hv:=hv.mod hm13 (by simp);replace hn7:=hn7.mod hm13 (by simp);replace hd7:=hd7.mod hm13 (by simp);replace hb3:=Blk.far hb3 hm13 (by first | exact hne_g3_g8 | exact (hne_g8_g3).symm);replace hb7:=Blk.far hb7 hm13 (by first | exact hne_g7_g8 | exact (hne_g8_g7).symm);replace hb6:=Blk.far hb6 hm13 (by first | exact hne_g6_g8 | exact (hne_g8_g6).symm);replace ho:=own_far ho hm13 hno_ho_g8;replace hl:=hl.mod hm13 (by simp);replace hbd:=hbd.gr hm13;replace hm0:=hm0.old1 hm13 hge_g8;replace hn43:=hn43.mod hm13 (by simp);replace hd43:=hd43.mod hm13 (by simp);clear hm13;replace hb8:=hb8'; clear hb8'
  refine L.nil (hX _ _ ⟨.inl rfl,?_⟩)
  refine D.done (by decide +kernel) ?_ _
  refine X.blockEnd<|X.seq<|W.region<|L.m rfl rfl<|L.v (R1.addI (b:=1) rfl rfl (by omega)) rfl<|L.a rfl rfl<|L.nil<|X.next (i + 1,v45,css ++ [[.int .i64 z28.v,.bool z28.c.s,.slice A43 z28.c.n.length c43,.slice B43 z28.c.d.length e43]],b,A7,c7,B7,e7) ?_ ?_ ?_
  · exact ⟨rfl,rfl,rfl,rfl,rfl,rfl,rfl,trivial⟩
  ·
   exact ⟨ht.su,h.su,k.su,hv.su,hn7.su,hd7.su,hb3,hb7,hb8,hb6,own_congr ho (by rw [othT_snoc v hz28,if_neg hc30] <;> simp) (by simp),by rw [othT_snoc v hz28,if_neg hc30]; exact (hl.su).append (LayL.one _ z28 (rdT_mk (hn43.su) (hd43.su))),hno_ho_g3,hno_ho_g6,hno_ho_g7,hno_ho_g8,hge_g6,hge_g7,hge_g8,hne_g6_g7,hne_g6_g8,hne_g7_g8,hge_g3,hne_g3_g6,hne_g3_g7,hne_g3_g8,by omega,by rw [byQ_snoc v hz28,if_neg hc30]; exact hb,hsb,hbd.su,hm0⟩
  first | omega | (dsimp only; omega)
 intro hc20
 try simp only [bq,ne_eq] at hc20
 obtain rfl:i=c.ts.length:=by omega
 rw [List.take_length] at ho hl hb
 have Fb:=fit_sm hn7 hd7 hsb
 refine W.exit<|X.thenExit<|X.nextExit<|X.here<|X.seq<|W.seq<|W.drawW (T:=[]) rfl (by decide +kernel) (NoHang.then NoHang.post) (fun w14 hm14=>?_)
 replace h:=h.gr hm14;replace k:=k.gr hm14;replace hv:=hv.gr hm14;replace hn7:=hn7.gr hm14;replace hd7:=hd7.gr hm14;replace hb7:=Blk.gr hb7 hm14;replace hb8:=Blk.gr hb8 hm14;replace hb6:=Blk.gr hb6 hm14;replace ho:=own_gr ho hm14 (by simp);replace hl:=hl.gr hm14;replace hbd:=hbd.gr hm14;replace hm0:=hm0.trans hm14
 have hS2:Mod [] w14 w14:=Mod.refl _ _
 clear hm14;have hb7_s:=hb7;have hb8_s:=hb8
 refine D.take 0 rfl (by kernel_rfl) (fun w_ hS=>(R1.loadBox rfl (Blk.gr hb8_s hS) tyG47)) hS2 rfl<|D.m 1 rfl (by kernel_rfl) rfl hS2 rfl<|D.take 4 rfl (by kernel_rfl) (fun w_ hS=>(R1.loadBox rfl (Blk.gr hb7_s hS) tyG26)) hS2 rfl<|D.many (rs:=[2,9]) (by decide +kernel) rfl ?_
 intro i_ hi_
 simp only [List.mem_cons,List.not_mem_nil,or_false] at hi_
 rcases hi_ with rfl | rfl
 ·
  refine ⟨_,rfl,fun hX=>?_⟩
  have hT9:Lay rdT [] _ u (othT c.ts v):=Lay.of_own ho (hl.sub (by simp)) (by simp)
  have h9_:U32 [] _ (.slice A9 c.k.n.length c9) c.k.n:=h.sub (by simp)
  have k9_:U32 [] _ (.slice B9 c.k.d.length e9) c.k.d:=k.sub (by simp)
  have hsm9:SmC 10000 (⟨0,othT c.ts v,c.k⟩:CR):=⟨Nat.le_trans (othT_len _ _) hsm.1,hsm.2.1,fun t ht9=>hsm.2.2 t (List.mem_filter.1 ht9).1⟩
  have hF9:=at_fit (c:=⟨0,othT c.ts v,c.k⟩) hT9 h9_ k9_ hv hsm9 hsv
  refine L.call rfl (c_ref8_At (c:=⟨0,othT c.ts v,c.k⟩) hT9 h9_ k9_ hv hbd hsm9 hsv) rfl ?_
  rintro _ w15 ⟨⟨A50,c50,B50,e50,rfl,hn50,hd50⟩,hm15⟩
  replace k:=k.gr hm15;replace hn7:=hn7.gr hm15;replace hd7:=hd7.gr hm15;replace hb6:=Blk.gr hb6 hm15;replace hbd:=hbd.gr hm15;replace hm0:=hm0.trans hm15;replace hS2:=hS2.trans hm15;clear hm15
  have F50:Fit (atG val (othT c.ts v) (QR.val c.k)) 1000000000:=hF9
  refine L.nil (hX _ _ ⟨.inr hS2,?_⟩)
  refine D.many (rs:=[3,9]) (by decide +kernel) rfl ?_
  intro i_ hi_
  simp only [List.mem_cons,List.not_mem_nil,or_false] at hi_
  rcases hi_ with rfl | rfl
  ·
   refine ⟨_,rfl,fun hX=>?_⟩
   refine L.call rfl (c_ref2_Neg (q:=(atG val (othT c.ts v) (QR.val c.k))) (rv_toL _) hn50 hd50 hbd (Nat.le_trans F50.1 (by decide)) (Nat.le_trans F50.2 (by decide))) rfl ?_
   rintro _ w16 ⟨⟨A51,c51,B51,e51,rfl,hn51,hd51⟩,hm16⟩
   replace k:=k.gr hm16;replace hn7:=hn7.gr hm16;replace hd7:=hd7.gr hm16;replace hb6:=Blk.gr hb6 hm16;replace hbd:=hbd.gr hm16;replace hm0:=hm0.trans hm16;replace hS2:=hS2.trans hm16;clear hm16;have F51:=Fit.neg F50
   refine L.nil (hX _ _ ⟨.inr hS2,?_⟩)
   refine D.many (rs:=[5,9]) (by decide +kernel) rfl ?_
   intro i_ hi_
   simp only [List.mem_cons,List.not_mem_nil,or_false] at hi_
   rcases hi_ with rfl | rfl
   ·
    refine ⟨_,rfl,fun hX=>?_⟩
    refine L.call rfl (c_ref2_Div (qa:=(-(atG val (othT c.ts v) (QR.val c.k)))) (qb:=(QR.val b)) (rv_toL _) rfl hn51 hd51 hn7 hd7 hbd (Nat.le_trans F51.1 (by decide)) (Nat.le_trans F51.2 (by decide)) (Nat.le_trans hsb.1 (by decide)) (Nat.le_trans hsb.2 (by decide))) rfl ?_
    rintro _ w17 ⟨v53,rfl,⟨A53,c53,B53,e53,rfl,hn53,hd53⟩,hm17⟩
    replace k:=k.gr hm17;replace hb6:=Blk.gr hb6 hm17;replace hm0:=hm0.trans hm17;replace hS2:=hS2.trans hm17;clear hm17;have F53:=Fit.div F51 Fb (by decide)
    refine L.nil (hX _ _ ⟨.inr hS2,?_⟩)
    refine D.m 6 rfl (by kernel_rfl) rfl hS2 rfl<|D.take 7 rfl (by kernel_rfl) (fun w_ hS=>(R1.extract rfl rfl)) hS2 rfl<|D.take 8 rfl (by kernel_rfl) (fun w_ hS=>(R1.extract rfl rfl)) hS2 rfl<|D.one 9 rfl (by kernel_rfl) (fun hX=>?_)
    refine L.alloc tyZ26 rfl ?_
    intro g10 w18 hN10
    have hgs_g10:=New.ge hN10 hS2.size;replace hS2:=hS2.trans hN10.mod;replace k:=k.new hN10;have hne_g6_g10:=hb6.ne_ hN10;replace hb6:=Blk.gr hb6 hN10.mod;have hge_g10:=New.ge hN10 hm0.size;replace hm0:=hm0.trans (hN10.mod.mono (by simp));replace hn53:=hn53.new hN10;replace hd53:=hd53.new hN10;have hb10:=hN10.blk;clear hN10
    refine L.nil (hX _ _ ⟨.inr hS2,?_⟩)
    refine D.one 10 rfl (by kernel_rfl) (fun hX=>?_)
    refine L.storeBox rfl rfl hb10 rfl rfl tyG26 ?_
    intro w19 hb10' hm19
    replace hS2:=hS2.old1 hm19 hgs_g10;replace k:=k.mod hm19 (by simp);replace hb6:=Blk.far hb6 hm19 (by first | exact hne_g6_g10 | exact (hne_g10_g6).symm);replace hm0:=hm0.old1 hm19 hge_g10;replace hn53:=hn53.mod hm19 (by simp);replace hd53:=hd53.mod hm19 (by simp);clear hm19;replace hb10:=hb10'; clear hb10'
    refine L.nil (hX _ _ ⟨.inr hS2,?_⟩)
    refine D.take 11 rfl (by kernel_rfl) (fun w_ hS=>(R1.assign rfl)) hS2 rfl<|D.done (by decide +kernel) ?_ _
    refine X.seq<|W.seq<|W.region<|L.v (R1.loadBox rfl hb10 tyG26) rfl<|L.storeBox rfl rfl hb6 rfl rfl tyG26 ?_
    intro w20 hb6' hm20
    replace k:=k.mod hm20 (by simp);replace hm0:=hm0.old1 hm20 hge_g6;replace hn53:=hn53.mod hm20 (by simp);replace hd53:=hd53.mod hm20 (by simp);clear hm20;replace hb6:=hb6'; clear hb6'
    refine L.nil<|X.seq<|W.ret<|X.result1 rfl (.cell rfl (loadVar_blk hb6 tyG26) .nil) ?_
    have he9:toldV c v val=((-(atG val (othT c.ts v) (QR.val c.k))) / QR.val b):=by unfold toldV; rw [← hb]
    rw [he9]
    exact ⟨RN.mk rfl (hn53.su) (hd53.su),Fit.mono F53 (by decide),hm0⟩
   refine ⟨_,rfl,fun hX=>?_⟩
   refine L.alloc tyZ26 rfl ?_
   intro g10 w21 hN10
   have hgs_g10:=New.ge hN10 hS2.size;replace hS2:=hS2.trans hN10.mod;replace k:=k.new hN10;replace hn7:=hn7.new hN10;replace hd7:=hd7.new hN10;have hne_g6_g10:=hb6.ne_ hN10;replace hb6:=Blk.gr hb6 hN10.mod;replace hbd:=hbd.new hN10;have hge_g10:=New.ge hN10 hm0.size;replace hm0:=hm0.trans (hN10.mod.mono (by simp));replace hn51:=hn51.new hN10;replace hd51:=hd51.new hN10;have hb10:=hN10.blk;clear hN10
   refine L.nil (hX _ _ ⟨.inr hS2,?_⟩)
   refine D.one 5 rfl (by kernel_rfl) (fun hX=>?_)
   refine L.call rfl (c_ref2_Div (qa:=(-(atG val (othT c.ts v) (QR.val c.k)))) (qb:=(QR.val b)) (rv_toL _) rfl hn51 hd51 hn7 hd7 hbd (Nat.le_trans F51.1 (by decide)) (Nat.le_trans F51.2 (by decide)) (Nat.le_trans hsb.1 (by decide)) (Nat.le_trans hsb.2 (by decide))) rfl ?_
   rintro _ w22 ⟨v53,rfl,⟨A53,c53,B53,e53,rfl,hn53,hd53⟩,hm22⟩
   replace k:=k.gr hm22;replace hb6:=Blk.gr hb6 hm22;replace hm0:=hm0.trans hm22;replace hb10:=Blk.gr hb10 hm22;replace hS2:=hS2.trans hm22;clear hm22;have F53:=Fit.div F51 Fb (by decide)
   refine L.nil (hX _ _ ⟨.inr hS2,?_⟩)
   refine D.m 6 rfl (by kernel_rfl) rfl hS2 rfl<|D.take 7 rfl (by kernel_rfl) (fun w_ hS=>(R1.extract rfl rfl)) hS2 rfl<|D.take 8 rfl (by kernel_rfl) (fun w_ hS=>(R1.extract rfl rfl)) hS2 rfl<|D.one 10 rfl (by kernel_rfl) (fun hX=>?_)
   refine L.storeBox rfl rfl hb10 rfl rfl tyG26 ?_
   intro w23 hb10' hm23
   replace hS2:=hS2.old1 hm23 hgs_g10;replace k:=k.mod hm23 (by simp);replace hb6:=Blk.far hb6 hm23 (by first | exact hne_g6_g10 | exact (hne_g10_g6).symm);replace hm0:=hm0.old1 hm23 hge_g10;replace hn53:=hn53.mod hm23 (by simp);replace hd53:=hd53.mod hm23 (by simp);clear hm23;replace hb10:=hb10'; clear hb10'
   refine L.nil (hX _ _ ⟨.inr hS2,?_⟩)
   refine D.take 11 rfl (by kernel_rfl) (fun w_ hS=>(R1.assign rfl)) hS2 rfl<|D.done (by decide +kernel) ?_ _
   refine X.seq<|W.seq<|W.region<|L.v (R1.loadBox rfl hb10 tyG26) rfl<|L.storeBox rfl rfl hb6 rfl rfl tyG26 ?_
   intro w24 hb6' hm24
   replace k:=k.mod hm24 (by simp);replace hm0:=hm0.old1 hm24 hge_g6;replace hn53:=hn53.mod hm24 (by simp);replace hd53:=hd53.mod hm24 (by simp);clear hm24;replace hb6:=hb6'; clear hb6'
   refine L.nil<|X.seq<|W.ret<|X.result1 rfl (.cell rfl (loadVar_blk hb6 tyG26) .nil) ?_
   have he9:toldV c v val=((-(atG val (othT c.ts v) (QR.val c.k))) / QR.val b):=by unfold toldV; rw [← hb]
   rw [he9]
   exact ⟨RN.mk rfl (hn53.su) (hd53.su),Fit.mono F53 (by decide),hm0⟩
  refine ⟨_,rfl,fun hX=>?_⟩
  refine L.alloc tyZ26 rfl ?_
  intro g10 w25 hN10
  have hgs_g10:=New.ge hN10 hS2.size;replace hS2:=hS2.trans hN10.mod;replace k:=k.new hN10;replace hn7:=hn7.new hN10;replace hd7:=hd7.new hN10;have hne_g6_g10:=hb6.ne_ hN10;replace hb6:=Blk.gr hb6 hN10.mod;replace hbd:=hbd.new hN10;have hge_g10:=New.ge hN10 hm0.size;replace hm0:=hm0.trans (hN10.mod.mono (by simp));replace hn50:=hn50.new hN10;replace hd50:=hd50.new hN10;have hb10:=hN10.blk;clear hN10
  refine L.nil (hX _ _ ⟨.inr hS2,?_⟩)
  refine D.one 3 rfl (by kernel_rfl) (fun hX=>?_)
  refine L.call rfl (c_ref2_Neg (q:=(atG val (othT c.ts v) (QR.val c.k))) (rv_toL _) hn50 hd50 hbd (Nat.le_trans F50.1 (by decide)) (Nat.le_trans F50.2 (by decide))) rfl ?_
  rintro _ w26 ⟨⟨A51,c51,B51,e51,rfl,hn51,hd51⟩,hm26⟩
  replace k:=k.gr hm26;replace hn7:=hn7.gr hm26;replace hd7:=hd7.gr hm26;replace hb6:=Blk.gr hb6 hm26;replace hbd:=hbd.gr hm26;replace hm0:=hm0.trans hm26;replace hb10:=Blk.gr hb10 hm26;replace hS2:=hS2.trans hm26;clear hm26;have F51:=Fit.neg F50
  refine L.nil (hX _ _ ⟨.inr hS2,?_⟩)
  refine D.one 5 rfl (by kernel_rfl) (fun hX=>?_)
  refine L.call rfl (c_ref2_Div (qa:=(-(atG val (othT c.ts v) (QR.val c.k)))) (qb:=(QR.val b)) (rv_toL _) rfl hn51 hd51 hn7 hd7 hbd (Nat.le_trans F51.1 (by decide)) (Nat.le_trans F51.2 (by decide)) (Nat.le_trans hsb.1 (by decide)) (Nat.le_trans hsb.2 (by decide))) rfl ?_
  rintro _ w27 ⟨v53,rfl,⟨A53,c53,B53,e53,rfl,hn53,hd53⟩,hm27⟩
  replace k:=k.gr hm27;replace hb6:=Blk.gr hb6 hm27;replace hm0:=hm0.trans hm27;replace hb10:=Blk.gr hb10 hm27;replace hS2:=hS2.trans hm27;clear hm27;have F53:=Fit.div F51 Fb (by decide)
  refine L.nil (hX _ _ ⟨.inr hS2,?_⟩)
  refine D.m 6 rfl (by kernel_rfl) rfl hS2 rfl<|D.take 7 rfl (by kernel_rfl) (fun w_ hS=>(R1.extract rfl rfl)) hS2 rfl<|D.take 8 rfl (by kernel_rfl) (fun w_ hS=>(R1.extract rfl rfl)) hS2 rfl<|D.one 10 rfl (by kernel_rfl) (fun hX=>?_)
  refine L.storeBox rfl rfl hb10 rfl rfl tyG26 ?_
  intro w28 hb10' hm28
  replace hS2:=hS2.old1 hm28 hgs_g10;replace k:=k.mod hm28 (by simp);replace hb6:=Blk.far hb6 hm28 (by first | exact hne_g6_g10 | exact (hne_g10_g6).symm);replace hm0:=hm0.old1 hm28 hge_g10;replace hn53:=hn53.mod hm28 (by simp);replace hd53:=hd53.mod hm28 (by simp);clear hm28;replace hb10:=hb10'; clear hb10'
  refine L.nil (hX _ _ ⟨.inr hS2,?_⟩)
  refine D.take 11 rfl (by kernel_rfl) (fun w_ hS=>(R1.assign rfl)) hS2 rfl<|D.done (by decide +kernel) ?_ _
  refine X.seq<|W.seq<|W.region<|L.v (R1.loadBox rfl hb10 tyG26) rfl<|L.storeBox rfl rfl hb6 rfl rfl tyG26 ?_
  intro w29 hb6' hm29
  replace k:=k.mod hm29 (by simp);replace hm0:=hm0.old1 hm29 hge_g6;replace hn53:=hn53.mod hm29 (by simp);replace hd53:=hd53.mod hm29 (by simp);clear hm29;replace hb6:=hb6'; clear hb6'
  refine L.nil<|X.seq<|W.ret<|X.result1 rfl (.cell rfl (loadVar_blk hb6 tyG26) .nil) ?_
  have he9:toldV c v val=((-(atG val (othT c.ts v) (QR.val c.k))) / QR.val b):=by unfold toldV; rw [← hb]
  rw [he9]
  exact ⟨RN.mk rfl (hn53.su) (hd53.su),Fit.mono F53 (by decide),hm0⟩
 refine ⟨_,rfl,fun hX=>?_⟩
 refine L.alloc tyZ26 rfl ?_
 intro g10 w30 hN10
 have hgs_g10:=New.ge hN10 hS2.size;replace hS2:=hS2.trans hN10.mod;replace h:=h.new hN10;replace k:=k.new hN10;replace hv:=hv.new hN10;replace hn7:=hn7.new hN10;replace hd7:=hd7.new hN10;have hne_g6_g10:=hb6.ne_ hN10;replace hb6:=Blk.gr hb6 hN10.mod;replace ho:=own_gr ho hN10.mod (by simp);replace hl:=hl.new hN10;replace hbd:=hbd.new hN10;have hge_g10:=New.ge hN10 hm0.size;replace hm0:=hm0.trans (hN10.mod.mono (by simp));have hb10:=hN10.blk;clear hN10
 refine L.nil (hX _ _ ⟨.inr hS2,?_⟩)
 refine D.one 2 rfl (by kernel_rfl) (fun hX=>?_)
 have hT9:Lay rdT [] _ u (othT c.ts v):=Lay.of_own ho (hl.sub (by simp)) (by simp)
 have h9_:U32 [] _ (.slice A9 c.k.n.length c9) c.k.n:=h.sub (by simp)
 have k9_:U32 [] _ (.slice B9 c.k.d.length e9) c.k.d:=k.sub (by simp)
 have hsm9:SmC 10000 (⟨0,othT c.ts v,c.k⟩:CR):=⟨Nat.le_trans (othT_len _ _) hsm.1,hsm.2.1,fun t ht9=>hsm.2.2 t (List.mem_filter.1 ht9).1⟩
 have hF9:=at_fit (c:=⟨0,othT c.ts v,c.k⟩) hT9 h9_ k9_ hv hsm9 hsv
 refine L.call rfl (c_ref8_At (c:=⟨0,othT c.ts v,c.k⟩) hT9 h9_ k9_ hv hbd hsm9 hsv) rfl ?_
 rintro _ w31 ⟨⟨A50,c50,B50,e50,rfl,hn50,hd50⟩,hm31⟩
 replace k:=k.gr hm31;replace hn7:=hn7.gr hm31;replace hd7:=hd7.gr hm31;replace hb6:=Blk.gr hb6 hm31;replace hbd:=hbd.gr hm31;replace hm0:=hm0.trans hm31;replace hb10:=Blk.gr hb10 hm31;replace hS2:=hS2.trans hm31;clear hm31
 have F50:Fit (atG val (othT c.ts v) (QR.val c.k)) 1000000000:=hF9
 refine L.nil (hX _ _ ⟨.inr hS2,?_⟩)
 refine D.one 3 rfl (by kernel_rfl) (fun hX=>?_)
 refine L.call rfl (c_ref2_Neg (q:=(atG val (othT c.ts v) (QR.val c.k))) (rv_toL _) hn50 hd50 hbd (Nat.le_trans F50.1 (by decide)) (Nat.le_trans F50.2 (by decide))) rfl ?_
 rintro _ w32 ⟨⟨A51,c51,B51,e51,rfl,hn51,hd51⟩,hm32⟩
 replace k:=k.gr hm32;replace hn7:=hn7.gr hm32;replace hd7:=hd7.gr hm32;replace hb6:=Blk.gr hb6 hm32;replace hbd:=hbd.gr hm32;replace hm0:=hm0.trans hm32;replace hb10:=Blk.gr hb10 hm32;replace hS2:=hS2.trans hm32;clear hm32;have F51:=Fit.neg F50
 refine L.nil (hX _ _ ⟨.inr hS2,?_⟩)
 refine D.one 5 rfl (by kernel_rfl) (fun hX=>?_)
 refine L.call rfl (c_ref2_Div (qa:=(-(atG val (othT c.ts v) (QR.val c.k)))) (qb:=(QR.val b)) (rv_toL _) rfl hn51 hd51 hn7 hd7 hbd (Nat.le_trans F51.1 (by decide)) (Nat.le_trans F51.2 (by decide)) (Nat.le_trans hsb.1 (by decide)) (Nat.le_trans hsb.2 (by decide))) rfl ?_
 rintro _ w33 ⟨v53,rfl,⟨A53,c53,B53,e53,rfl,hn53,hd53⟩,hm33⟩
 replace k:=k.gr hm33;replace hb6:=Blk.gr hb6 hm33;replace hm0:=hm0.trans hm33;replace hb10:=Blk.gr hb10 hm33;replace hS2:=hS2.trans hm33;clear hm33;have F53:=Fit.div F51 Fb (by decide)
 refine L.nil (hX _ _ ⟨.inr hS2,?_⟩)
 refine D.m 6 rfl (by kernel_rfl) rfl hS2 rfl<|D.take 7 rfl (by kernel_rfl) (fun w_ hS=>(R1.extract rfl rfl)) hS2 rfl<|D.take 8 rfl (by kernel_rfl) (fun w_ hS=>(R1.extract rfl rfl)) hS2 rfl<|D.one 10 rfl (by kernel_rfl) (fun hX=>?_)
 refine L.storeBox rfl rfl hb10 rfl rfl tyG26 ?_
 intro w34 hb10' hm34
 replace hS2:=hS2.old1 hm34 hgs_g10;replace k:=k.mod hm34 (by simp);replace hb6:=Blk.far hb6 hm34 (by first | exact hne_g6_g10 | exact (hne_g10_g6).symm);replace hm0:=hm0.old1 hm34 hge_g10;replace hn53:=hn53.mod hm34 (by simp);replace hd53:=hd53.mod hm34 (by simp);clear hm34;replace hb10:=hb10'; clear hb10'
 refine L.nil (hX _ _ ⟨.inr hS2,?_⟩)
 refine D.take 11 rfl (by kernel_rfl) (fun w_ hS=>(R1.assign rfl)) hS2 rfl<|D.done (by decide +kernel) ?_ _
 refine X.seq<|W.seq<|W.region<|L.v (R1.loadBox rfl hb10 tyG26) rfl<|L.storeBox rfl rfl hb6 rfl rfl tyG26 ?_
 intro w35 hb6' hm35
 replace k:=k.mod hm35 (by simp);replace hm0:=hm0.old1 hm35 hge_g6;replace hn53:=hn53.mod hm35 (by simp);replace hd53:=hd53.mod hm35 (by simp);clear hm35;replace hb6:=hb6'; clear hb6'
 refine L.nil<|X.seq<|W.ret<|X.result1 rfl (.cell rfl (loadVar_blk hb6 tyG26) .nil) ?_
 have he9:toldV c v val=((-(atG val (othT c.ts v) (QR.val c.k))) / QR.val b):=by unfold toldV; rw [← hb]
 rw [he9]
 exact ⟨RN.mk rfl (hn53.su) (hd53.su),Fit.mono F53 (by decide),hm0⟩
end Go.Proofs.YtedokfpoajfflaaGreat
