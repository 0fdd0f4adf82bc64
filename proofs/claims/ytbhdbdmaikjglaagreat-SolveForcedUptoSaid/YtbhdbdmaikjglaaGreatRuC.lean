/- Walks: what the functions compute. -/
import Derived.Test.YtbhdbdmaikjglaaGreatRuB
namespace Go.Proofs.YtbhdbdmaikjglaaGreat
open Go.RowKit
set_option linter.unusedVariables false
set_option linter.unusedSimpArgs false
set_option maxRecDepth 10000
def valOf (val:List QR) (v:Int):Rat:=if v<0 then 0 else match val[v.toNat]? with
  | some q=>q.val
  | none=>0
theorem valOf_some {val:List QR} {v:Int} {q:QR} (h0:0≤v) (h:val[v.toNat]?=some q):valOf val v=q.val:=by
  unfold valOf; rw [if_neg (by omega),h]
def atG (val:List QR):List TR→Rat→Rat
  | [],x=>x
  | t :: r,x=>atG val r (x + t.c.val * valOf val t.v)
theorem atG_app (val:List QR):∀ (l r:List TR) (x:Rat),atG val (l ++ r) x=atG val r (atG val l x)
  | [],_,_=>rfl
  | t :: l,r,x=>by simp only [List.cons_append,atG]; rw [atG_app val l r]
theorem fit_sm {M:List Nat} {w:World} {vn vd:Value} {q:QR} {L:Nat} (h:U32 M w vn q.n) (k:U32 M w vd q.d) (hs:SmQ L q):Fit q.val (L + 1):=Fit.rv rfl h.2 k.2 hs.1 hs.2
theorem built_T01 (v:Int) (s:Bool) (A:Option Addr) (n c:Nat) (B:Option Addr) (m d:Nat):Tryz.prog.built 45 [(0,.int .i64 v),(1,.agg #[.bool s,.slice A n c,.slice B m d])]=some #[.int .i64 v,.bool s,.slice A n c,.slice B m d]:=by kernel_rfl
theorem fillN1 (v:Int) (s:Bool) (A:Option Addr) (n c:Nat) (B:Option Addr) (m d:Nat):Instr.fill (fun i=>some (i * 4,4)) ((Array.range (1 * 4)).map ((Value.agg #[.int .i64 0,.bool false,.slice none 0 0,.slice none 0 0]).cells[· % (Value.agg #[.int .i64 0,.bool false,.slice none 0 0,.slice none 0 0]).cells.size]!)) [(0,.agg #[.int .i64 v,.bool s,.slice A n c,.slice B m d])]=some #[.int .i64 v,.bool s,.slice A n c,.slice B m d]:=by kernel_rfl
def byQ (ts:List TR) (v:Int):QR:=ts.foldl (fun b t=>if t.v=v then t.c else b) (QR.nf ((1:Int):Rat))
def othT (ts:List TR) (v:Int):List TR:=ts.filter (fun t=>decide (t.v≠v))
def toldV (c:CR) (v:Int) (val:List QR):Rat:=(-(atG val (othT c.ts v) (QR.val c.k))) / QR.val (byQ c.ts v)
theorem byQ_snoc {ts:List TR} {i:Nat} {z:TR} (v:Int) (hz:ts[i]?=some z):byQ (ts.take (i + 1)) v=if z.v=v then z.c else byQ (ts.take i) v:=by
  obtain ⟨hi,rfl⟩:=List.getElem?_eq_some_iff.1 hz
  unfold byQ
  rw [List.take_succ_eq_append_getElem hi,List.foldl_append]; rfl
theorem othT_snoc {ts:List TR} {i:Nat} {z:TR} (v:Int) (hz:ts[i]?=some z):othT (ts.take (i + 1)) v=othT (ts.take i) v ++ (if z.v=v then [] else [z]):=by
  obtain ⟨hi,rfl⟩:=List.getElem?_eq_some_iff.1 hz
  unfold othT
  rw [List.take_succ_eq_append_getElem hi,List.filter_append]
  by_cases h:ts[i].v=v <;> simp [h]
theorem nf1_sm:SmQ 10000 (QR.nf ((1:Int):Rat)):=by
  have h:toL 1=[1]:=by rw [toL_pos (by decide)]; simp [toL_zero]
  constructor
  · show (toL ((1:Int):Rat).num.natAbs).length≤10000
    rw [Rat.num_intCast]; rw [show (1:Int).natAbs=1 from rfl,h]; decide
  · show (toL ((1:Int):Rat).den).length≤10000
    rw [Rat.den_intCast,h]; decide
set_option maxHeartbeats 1000000 in
theorem c_tells {M N9 : List Nat} {w : World} {c : CR} {vt vn vd : Value} (ht : Lay rdT N9 w vt c.ts) (h : U32 N9 w vn c.k.n) (k : U32 N9 w vd c.k.d) {N8 : List Nat} {vv : Value} {val : List QR} {v : Int} (hv : Lay rdQ N8 w vv val) (hbd : Bd M w) (hsm : SmC 10000 c) (hsv : ∀ q ∈ val, SmQ 10000 q) (hC : isC c (val.length : Int) = true) :
    Ret Tryz.prog 42 #[.agg #[.int .i64 c.st,vt,.bool c.k.s,vn,vd],.int .i64 v,vv] w (fun r w'=>RN M w' r (toldV c v val)∧Fit (toldV c v val) 4000000000∧Mod [] w w'):=by
 obtain ⟨T9,t9,rfl⟩:=ht.form
 obtain ⟨A9,c9,rfl⟩:=h.form
 obtain ⟨B9,e9,rfl⟩:=k.form
 have hlt:=hsm.1
 have FK:=fit_sm h k hsm.2.1
 refine Ret.of (vs:=[.agg #[.int .i64 c.st,.slice T9 c.ts.length t9,.bool c.k.s,.slice A9 c.k.n.length c9,.slice B9 c.k.d.length e9],.int .i64 v,vv]) (n:=49) Tryz.func42 rfl rfl rfl rfl ?_
 have hm0:Mod [] w w:=Mod.refl _ _
 refine W.seq<|W.region<|L.box rfl rfl ?_
 intro g3 w1 hN3
 replace ht:=ht.new hN3
 replace h:=h.new hN3
 replace k:=k.new hN3
 replace hv:=hv.new hN3
 replace hbd:=hbd.new hN3
 replace hm0:=hm0.trans (hN3.mod.mono (by simp))
 have hb3:=hN3.blk
 clear hN3
 refine L.alloc tyZ39 rfl ?_
 intro g6 w2 hN6
 replace ht:=ht.new hN6
 replace h:=h.new hN6
 replace k:=k.new hN6
 replace hv:=hv.new hN6
 replace hbd:=hbd.new hN6
 have hge_g6:=New.ge hN6 hm0.size
 replace hm0:=hm0.trans (hN6.mod.mono (by simp))
 replace hb3:=Blk.gr hb3 hN6.mod
 have hb6:=hN6.blk
 clear hN6
 refine L.nil<|X.seq<|W.seq<|W.region<|L.v (R1.fieldAt rfl tyF41_2) rfl<|L.v (R1.loadBoxAt (ds:=[.bool c.k.s,.slice A9 c.k.n.length c9,.slice B9 c.k.d.length e9]) rfl hb3 rfl tyG39) rfl<|L.call rfl (c_rat_Norm (q:=(QR.val c.k)) rfl h k hbd (Nat.le_trans hsm.2.1.1 (by decide)) (Nat.le_trans hsm.2.1.2 (by decide))) rfl ?_
 rintro _ w3 ⟨⟨A15,c15,B15,e15,rfl,hn15,hd15⟩,hm3⟩
 replace ht:=ht.gr hm3
 replace k:=k.gr hm3
 replace hv:=hv.gr hm3
 replace hbd:=hbd.gr hm3
 replace hm0:=hm0.trans hm3
 replace hb3:=Blk.gr hb3 hm3
 replace hb6:=Blk.gr hb6 hm3
 clear hm3
 have F15:=FK
 refine L.alloc tyZ39 rfl ?_
 intro g7 w4 hN7
 replace ht:=ht.new hN7
 replace k:=k.new hN7
 replace hv:=hv.new hN7
 replace hbd:=hbd.new hN7
 have hge_g7:=New.ge hN7 hm0.size
 replace hm0:=hm0.trans (hN7.mod.mono (by simp))
 have hne_g3_g7:=hb3.ne_ hN7
 replace hb3:=Blk.gr hb3 hN7.mod
 have hne_g6_g7:=hb6.ne_ hN7
 replace hb6:=Blk.gr hb6 hN7.mod
 replace hn15:=hn15.new hN7
 replace hd15:=hd15.new hN7
 have hb7:=hN7.blk
 clear hN7
 refine L.storeBox rfl rfl hb7 rfl rfl tyG39 ?_
 intro w5 hb7' hm5
 replace ht:=ht.mod hm5 (by simp)
 replace k:=k.mod hm5 (by simp)
 replace hv:=hv.mod hm5 (by simp)
 replace hbd:=hbd.gr hm5
 replace hm0:=hm0.old1 hm5 hge_g7
 replace hb3:=Blk.far hb3 hm5 (by first | exact hne_g3_g7 | exact (hne_g7_g3).symm)
 replace hb6:=Blk.far hb6 hm5 (by first | exact hne_g6_g7 | exact (hne_g7_g6).symm)
 replace hn15:=hn15.mod hm5 (by simp)
 replace hd15:=hd15.mod hm5 (by simp)
 clear hm5
 replace hb7:=hb7'; clear hb7'
 refine L.nil<|X.seq<|W.seq<|W.region<|L.call rfl (c_rat_Int (n:=1) (by decide) (by decide) hbd) rfl ?_
 rintro _ w6 ⟨⟨A16,c16,B16,e16,rfl,hn16,hd16⟩,hm6⟩
 replace ht:=ht.gr hm6
 replace k:=k.gr hm6
 replace hv:=hv.gr hm6
 replace hbd:=hbd.gr hm6
 replace hm0:=hm0.trans hm6
 replace hb3:=Blk.gr hb3 hm6
 replace hb6:=Blk.gr hb6 hm6
 replace hn15:=hn15.gr hm6
 replace hd15:=hd15.gr hm6
 replace hb7:=Blk.gr hb7 hm6
 clear hm6
 have F16:=Fit.int (n:=1) (by decide) (by decide)
 refine L.alloc tyZ39 rfl ?_
 intro g8 w7 hN8
 replace ht:=ht.new hN8
 replace k:=k.new hN8
 replace hv:=hv.new hN8
 replace hbd:=hbd.new hN8
 have hge_g8:=New.ge hN8 hm0.size
 replace hm0:=hm0.trans (hN8.mod.mono (by simp))
 have hne_g3_g8:=hb3.ne_ hN8
 replace hb3:=Blk.gr hb3 hN8.mod
 have hne_g6_g8:=hb6.ne_ hN8
 replace hb6:=Blk.gr hb6 hN8.mod
 replace hn15:=hn15.new hN8
 replace hd15:=hd15.new hN8
 have hne_g7_g8:=hb7.ne_ hN8
 replace hb7:=Blk.gr hb7 hN8.mod
 replace hn16:=hn16.new hN8
 replace hd16:=hd16.new hN8
 have hb8:=hN8.blk
 clear hN8
 refine L.storeBox rfl rfl hb8 rfl rfl tyG39 ?_
 intro w8 hb8' hm8
 replace ht:=ht.mod hm8 (by simp)
 replace k:=k.mod hm8 (by simp)
 replace hv:=hv.mod hm8 (by simp)
 replace hbd:=hbd.gr hm8
 replace hm0:=hm0.old1 hm8 hge_g8
 replace hb3:=Blk.far hb3 hm8 (by first | exact hne_g3_g8 | exact (hne_g8_g3).symm)
 replace hb6:=Blk.far hb6 hm8 (by first | exact hne_g6_g8 | exact (hne_g8_g6).symm)
 replace hn15:=hn15.mod hm8 (by simp)
 replace hd15:=hd15.mod hm8 (by simp)
 replace hb7:=Blk.far hb7 hm8 (by first | exact hne_g7_g8 | exact (hne_g8_g7).symm)
 replace hn16:=hn16.mod hm8 (by simp)
 replace hd16:=hd16.mod hm8 (by simp)
 clear hm8
 replace hb8:=hb8'; clear hb8'
 refine L.nil<|X.seq<|W.seq<|W.seq<|W.region<|L.v (R1.fieldAt rfl tyF41_1) rfl<|L.v (R1.loadFld rfl hb3 rfl tyP36) rfl<|L.v (R1.lenLay rfl ht tyS36) rfl<|L.m rfl rfl<|L.nil<|X.seq ?_
 refine W.block<|W.loop (ι:=Nat × Rat × Option Addr × Nat × Option Addr × Nat × QR × Option Addr × Nat × Option Addr × Nat) (fun (i,x,A7,c7,B7,e7,b,A8,c8,B8,e8)=>[(1,.int .i64 v),(2,vv),(6,.pointer (some ⟨g6,0,none⟩)),(7,.pointer (some ⟨g7,0,none⟩)),(8,.pointer (some ⟨g8,0,none⟩)),(18,.slice T9 c.ts.length t9),(19,.int .i64 ((c.ts.length:Nat):Int)),(20,.int .i64 ((i:Nat):Int))]) (fun (i,x,A7,c7,B7,e7,b,A8,c8,B8,e8) w_=>Lay rdT (g8 :: g7 :: g6 :: N9) w_ (.slice T9 c.ts.length t9) c.ts∧Lay rdQ (g8 :: g7 :: g6 :: N8) w_ vv val∧U32 (g8 :: g7 :: g6 :: M) w_ (.slice A7 (toL x.num.natAbs).length c7) (toL x.num.natAbs)∧U32 (g8 :: g7 :: g6 :: M) w_ (.slice B7 (toL x.den).length e7) (toL x.den)∧U32 (g8 :: g7 :: g6 :: []) w_ (.slice A8 b.n.length c8) b.n∧U32 (g8 :: g7 :: g6 :: []) w_ (.slice B8 b.d.length e8) b.d∧Blk w_ g7 39 #[.bool (decide (x.num<0)),.slice A7 (toL x.num.natAbs).length c7,.slice B7 (toL x.den).length e7]∧Blk w_ g8 39 #[.bool b.s,.slice A8 b.n.length c8,.slice B8 b.d.length e8]∧Blk w_ g6 39 #[.bool false,.slice none 0 0,.slice none 0 0]∧w.heap.size≤g6∧w.heap.size≤g7∧w.heap.size≤g8∧g6≠g7∧g6≠g8∧g7≠g8∧i≤c.ts.length∧Fit x (10001 + i * 30000)∧x=atG val (othT (c.ts.take i) v) (QR.val c.k)∧b=byQ (c.ts.take i) v∧SmQ 10000 b∧Bd (g8 :: g7 :: g6 :: M) w_∧Mod [] w w_) (fun (i,x,A7,c7,B7,e7,b,A8,c8,B8,e8)=>c.ts.length - i) (0,QR.val c.k,A15,c15,B15,e15,QR.nf ((1:Int):Rat),A16,c16,B16,e16) ?_ ?_ ?_
 · exact ⟨rfl,rfl,rfl,rfl,rfl,rfl,rfl,rfl,trivial⟩
 ·
  exact ⟨ht.su,hv.su,hn15.su,hd15.su,hn16.su,hd16.su,hb7,hb8,hb6,hge_g6,hge_g7,hge_g8,hne_g6_g7,hne_g6_g8,hne_g7_g8,Nat.zero_le _,Fit.mono F15 (by decide),rfl,rfl,nf1_sm,hbd.su,hm0⟩
 ·
  rintro ⟨i,x,A7,c7,B7,e7,b,A8,c8,B8,e8⟩ w9 ⟨ht,hv,hn7,hd7,hn8,hd8,hb7,hb8,hb6,hge_g6,hge_g7,hge_g8,hne_g6_g7,hne_g6_g8,hne_g7_g8,hi,Fx,hx,hb,hsb,hbd,hm0⟩
  refine W.seq<|W.region<|L.v (R1.lt rfl rfl) rfl<|L.nil<|X.seq<|W.seq<|W.cond rfl ?_ ?_
  ·
   intro hc21
   try simp only [bq,ne_eq] at hc21
   refine W.skip<|X.seq<|W.seq<|W.block<|W.seq<|W.region<|L.v (R1.atLay (j:=i) rfl rfl ht tyS36 rfl (by omega)) rfl ?_
   obtain ⟨z23,cs23,hz23,hE23,ds23,rfl,vn23,vd23,rfl,hn23,hd23⟩:=Lay.elemQ ht (j:=i) (by omega)
   obtain ⟨A23,c23,rfl⟩:=hn23.form
   obtain ⟨B23,e23,rfl⟩:=hd23.form
   refine L.v (R1.loadE rfl hE23 tyG45) rfl ?_
   have F23:=fit_sm hn23 hd23 (hsm.2.2 _ (List.mem_of_getElem? hz23))
   refine L.alloc tyZ45 rfl ?_
   intro g10 w10 hN10
   replace ht:=ht.new hN10
   replace hv:=hv.new hN10
   replace hn7:=hn7.new hN10
   replace hd7:=hd7.new hN10
   replace hn8:=hn8.new hN10
   replace hd8:=hd8.new hN10
   have hne_g7_g10:=hb7.ne_ hN10
   replace hb7:=Blk.gr hb7 hN10.mod
   have hne_g8_g10:=hb8.ne_ hN10
   replace hb8:=Blk.gr hb8 hN10.mod
   have hne_g6_g10:=hb6.ne_ hN10
   replace hb6:=Blk.gr hb6 hN10.mod
   replace hbd:=hbd.new hN10
   have hge_g10:=New.ge hN10 hm0.size
   replace hm0:=hm0.trans (hN10.mod.mono (by simp))
   replace hn23:=hn23.new hN10
   replace hd23:=hd23.new hN10
   have hb10:=hN10.blk
   clear hN10
   refine L.storeBox rfl rfl hb10 rfl rfl tyG45 ?_
   intro w11 hb10' hm11
   replace ht:=ht.mod hm11 (by simp)
   replace hv:=hv.mod hm11 (by simp)
   replace hn7:=hn7.mod hm11 (by simp)
   replace hd7:=hd7.mod hm11 (by simp)
   replace hn8:=hn8.mod hm11 (by simp)
   replace hd8:=hd8.mod hm11 (by simp)
   replace hb7:=Blk.far hb7 hm11 (by first | exact hne_g7_g10 | exact (hne_g10_g7).symm)
   replace hb8:=Blk.far hb8 hm11 (by first | exact hne_g8_g10 | exact (hne_g10_g8).symm)
   replace hb6:=Blk.far hb6 hm11 (by first | exact hne_g6_g10 | exact (hne_g10_g6).symm)
   replace hbd:=hbd.gr hm11
   replace hm0:=hm0.old1 hm11 hge_g10
   replace hn23:=hn23.mod hm11 (by simp)
   replace hd23:=hd23.mod hm11 (by simp)
   clear hm11
   replace hb10:=hb10'; clear hb10'
   refine L.nil<|X.seq<|W.seq<|W.seq<|W.region<|L.v (R1.fieldAt rfl tyF45_0) rfl<|L.v (R1.loadFld rfl hb10 rfl tyP3) rfl<|L.m rfl rfl<|L.v (R1.eq rfl rfl) rfl<|L.nil<|X.seq ?_
   refine W.cond rfl ?_ ?_
   ·
    intro hc27
    try simp only [bq,ne_eq] at hc27
    refine W.seq<|W.region<|L.v (R1.fieldAt rfl tyF45_1) rfl<|L.v (R1.loadBoxAt (ds:=[.bool z23.c.s,.slice A23 z23.c.n.length c23,.slice B23 z23.c.d.length e23]) rfl hb10 rfl tyG39) rfl<|L.storeBox rfl rfl hb8 rfl rfl tyG39 ?_
    intro w12 hb8' hm12
    replace ht:=ht.mod hm12 (by simp)
    replace hv:=hv.mod hm12 (by simp)
    replace hn7:=hn7.mod hm12 (by simp)
    replace hd7:=hd7.mod hm12 (by simp)
    replace hb7:=Blk.far hb7 hm12 (by first | exact hne_g7_g8 | exact (hne_g8_g7).symm)
    replace hb6:=Blk.far hb6 hm12 (by first | exact hne_g6_g8 | exact (hne_g8_g6).symm)
    replace hbd:=hbd.gr hm12
    replace hm0:=hm0.old1 hm12 hge_g8
    replace hn23:=hn23.mod hm12 (by simp)
    replace hd23:=hd23.mod hm12 (by simp)
    clear hm12
    replace hb8:=hb8'; clear hb8'
    refine L.nil<|X.seq<|W.exit<|X.thenExit<|X.here<|X.seq<|W.region<|L.v (R1.addI (b:=1) rfl rfl (by omega)) rfl<|L.m rfl rfl<|L.nil<|X.next (i + 1,x,A7,c7,B7,e7,z23.c,A23,c23,B23,e23) ?_ ?_ ?_
    · exact ⟨rfl,rfl,rfl,rfl,rfl,rfl,rfl,rfl,trivial⟩
    ·
     exact ⟨ht.su,hv.su,hn7.su,hd7.su,hn23.su,hd23.su,hb7,hb8,hb6,hge_g6,hge_g7,hge_g8,hne_g6_g7,hne_g6_g8,hne_g7_g8,by omega,Fit.mono Fx (by omega),by rw [othT_snoc v hz23,if_pos hc27,List.append_nil]; exact hx,by rw [byQ_snoc v hz23,if_pos hc27],hsm.2.2 _ (List.mem_of_getElem? hz23),hbd.su,hm0⟩
    · first | omega | (dsimp only; omega)
   ·
    intro hc27
    try simp only [bq,ne_eq] at hc27
    have hvr:=isC_all hC z23 (List.mem_of_getElem? hz23)
    refine W.skip<|X.seq<|W.drawW (T:=[10]) rfl (by decide +kernel) (NoHang.block (NoHang.then (NoHang.next (NoHang.block (NoHang.then NoHang.post))))) (fun w13 hm13=>?_)
    replace ht:=ht.gr hm13
    replace hv:=hv.gr hm13
    replace hn7:=hn7.gr hm13
    replace hd7:=hd7.gr hm13
    replace hn8:=hn8.gr hm13
    replace hd8:=hd8.gr hm13
    replace hb7:=Blk.gr hb7 hm13
    replace hb8:=Blk.gr hb8 hm13
    replace hb6:=Blk.gr hb6 hm13
    replace hbd:=hbd.gr hm13
    replace hm0:=hm0.trans hm13
    replace hn23:=hn23.gr hm13
    replace hd23:=hd23.gr hm13
    replace hb10:=Blk.gr hb10 hm13
    have hS1:Mod [] w13 w13:=Mod.refl _ _
    clear hm13
    have hb7_s:=hb7
    have hb10_s:=hb10
    refine D.take 0 rfl (by kernel_rfl) (fun w_ hS=>(R1.loadBox rfl (Blk.gr hb7_s hS) tyG39)) hS1 rfl<|D.take 1 rfl (by kernel_rfl) (fun w_ hS=>(R1.fieldAt rfl tyF45_1)) hS1 rfl<|D.take 2 rfl (by kernel_rfl) (fun w_ hS=>(R1.loadBoxAt (ds:=[.bool z23.c.s,.slice A23 z23.c.n.length c23,.slice B23 z23.c.d.length e23]) rfl (Blk.gr hb10_s hS) rfl tyG39)) hS1 rfl<|D.m 3 rfl (by kernel_rfl) rfl hS1 rfl<|D.take 4 rfl (by kernel_rfl) (fun w_ hS=>(R1.fieldAt rfl tyF45_0)) hS1 rfl<|D.take 5 rfl (by kernel_rfl) (fun w_ hS=>(R1.loadFld rfl (Blk.gr hb10_s hS) rfl tyP3)) hS1 rfl<|D.take 6 rfl (by kernel_rfl) (fun w_ hS=>(R1.atLay (j:=z23.v.toNat) rfl rfl (Lay.gr hv hS) tyS23 (by omega) (by omega))) hS1 rfl ?_
    obtain ⟨z37,cs37,hz37,hE37,vn37,vd37,rfl,hn37,hd37⟩:=Lay.elemQ hv (j:=z23.v.toNat) (by omega)
    obtain ⟨A37,c37,rfl⟩:=hn37.form
    obtain ⟨B37,e37,rfl⟩:=hd37.form
    refine D.take 7 rfl (by kernel_rfl) (fun w_ hS=>(R1.loadE rfl (SlE.gr hE37 hS) tyG39)) hS1 rfl ?_
    have F37:=fit_sm hn37 hd37 (hsv _ (List.mem_of_getElem? hz37))
    refine D.one 8 rfl (by kernel_rfl) (fun hX=>?_)
    refine L.call rfl (c_rat_Mul (qa:=(QR.val z23.c)) (qb:=(QR.val z37)) rfl rfl hn23 hd23 hn37 hd37 hbd (Nat.le_trans (hsm.2.2 _ (List.mem_of_getElem? hz23)).1 (by decide)) (Nat.le_trans (hsm.2.2 _ (List.mem_of_getElem? hz23)).2 (by decide)) (Nat.le_trans (hsv _ (List.mem_of_getElem? hz37)).1 (by decide)) (Nat.le_trans (hsv _ (List.mem_of_getElem? hz37)).2 (by decide))) rfl ?_
    rintro _ w14 ⟨⟨A38,c38,B38,e38,rfl,hn38,hd38⟩,hm14⟩
    replace ht:=ht.gr hm14
    replace hv:=hv.gr hm14
    replace hn7:=hn7.gr hm14
    replace hd7:=hd7.gr hm14
    replace hn8:=hn8.gr hm14
    replace hd8:=hd8.gr hm14
    replace hb7:=Blk.gr hb7 hm14
    replace hb8:=Blk.gr hb8 hm14
    replace hb6:=Blk.gr hb6 hm14
    replace hbd:=hbd.gr hm14
    replace hm0:=hm0.trans hm14
    replace hS1:=hS1.trans hm14
    clear hm14
    have F38:=Fit.mul F23 F37
    refine L.nil (hX _ _ ⟨.inr hS1,?_⟩)
    refine D.one 9 rfl (by kernel_rfl) (fun hX=>?_)
    refine L.call rfl (c_rat_Add (qa:=x) (qb:=((QR.val z23.c) * (QR.val z37))) (rv_toL _) (rv_toL _) hn7 hd7 hn38 hd38 hbd (Nat.le_trans Fx.1 (by omega)) (Nat.le_trans Fx.2 (by omega)) (Nat.le_trans F38.1 (by decide)) (Nat.le_trans F38.2 (by decide))) rfl ?_
    rintro _ w15 ⟨⟨A39,c39,B39,e39,rfl,hn39,hd39⟩,hm15⟩
    replace ht:=ht.gr hm15
    replace hv:=hv.gr hm15
    replace hn8:=hn8.gr hm15
    replace hd8:=hd8.gr hm15
    replace hb7:=Blk.gr hb7 hm15
    replace hb8:=Blk.gr hb8 hm15
    replace hb6:=Blk.gr hb6 hm15
    replace hbd:=hbd.gr hm15
    replace hm0:=hm0.trans hm15
    replace hS1:=hS1.trans hm15
    clear hm15
    have F39:=Fit.add Fx F38
    refine L.nil (hX _ _ ⟨.inr hS1,?_⟩)
    refine D.one 10 rfl (by kernel_rfl) (fun hX=>?_)
    refine L.storeBox rfl rfl hb7 rfl rfl tyG39 ?_
    intro w16 hb7' hm16
    replace ht:=ht.mod hm16 (by simp)
    replace hv:=hv.mod hm16 (by simp)
    replace hn8:=hn8.mod hm16 (by simp)
    replace hd8:=hd8.mod hm16 (by simp)
    replace hb8:=Blk.far hb8 hm16 (by first | exact hne_g8_g7 | exact (hne_g7_g8).symm)
    replace hb6:=Blk.far hb6 hm16 (by first | exact hne_g6_g7 | exact (hne_g7_g6).symm)
    replace hbd:=hbd.gr hm16
    replace hm0:=hm0.old1 hm16 hge_g7
    replace hn39:=hn39.mod hm16 (by simp)
    replace hd39:=hd39.mod hm16 (by simp)
    clear hm16
    replace hb7:=hb7'; clear hb7'
    refine L.nil (hX _ _ ⟨.inl rfl,?_⟩)
    refine D.done (by decide +kernel) ?_ _
    refine X.blockEnd<|X.seq<|W.region<|L.v (R1.addI (b:=1) rfl rfl (by omega)) rfl<|L.m rfl rfl<|L.nil<|X.next (i + 1,x + QR.val z23.c * QR.val z37,A39,c39,B39,e39,b,A8,c8,B8,e8) ?_ ?_ ?_
    · exact ⟨rfl,rfl,rfl,rfl,rfl,rfl,rfl,rfl,trivial⟩
    ·
     exact ⟨ht.su,hv.su,hn39.su,hd39.su,hn8.su,hd8.su,hb7,hb8,hb6,hge_g6,hge_g7,hge_g8,hne_g6_g7,hne_g6_g8,hne_g7_g8,by omega,Fit.mono F39 (by omega),by rw [othT_snoc v hz23,if_neg hc27,atG_app,← hx]; simp only [atG]; rw [valOf_some (by omega) hz37],by rw [byQ_snoc v hz23,if_neg hc27]; exact hb,hsb,hbd.su,hm0⟩
    · first | omega | (dsimp only; omega)
  ·
   intro hc21
   try simp only [bq,ne_eq] at hc21
   obtain rfl:i=c.ts.length:=by omega
   rw [List.take_length] at hx hb
   have Fb:=fit_sm hn8 hd8 hsb
   replace Fx:=Fit.mono Fx (show 10001 + c.ts.length * 30000≤400000000 by omega)
   refine W.exit<|X.thenExit<|X.nextExit<|X.here<|X.seq<|W.seq<|W.drawW (T:=[]) rfl (by decide +kernel) (NoHang.then NoHang.post) (fun w17 hm17=>?_)
   replace hn7:=hn7.gr hm17
   replace hd7:=hd7.gr hm17
   replace hn8:=hn8.gr hm17
   replace hd8:=hd8.gr hm17
   replace hb7:=Blk.gr hb7 hm17
   replace hb8:=Blk.gr hb8 hm17
   replace hb6:=Blk.gr hb6 hm17
   replace hbd:=hbd.gr hm17
   replace hm0:=hm0.trans hm17
   have hS2:Mod [] w17 w17:=Mod.refl _ _
   clear hm17
   have hb7_s:=hb7
   have hb8_s:=hb8
   refine D.take 0 rfl (by kernel_rfl) (fun w_ hS=>(R1.loadBox rfl (Blk.gr hb7_s hS) tyG39)) hS2 rfl<|D.take 2 rfl (by kernel_rfl) (fun w_ hS=>(R1.loadBox rfl (Blk.gr hb8_s hS) tyG39)) hS2 rfl<|D.many (rs:=[1,7]) (by decide +kernel) rfl ?_
   intro i_ hi_
   simp only [List.mem_cons,List.not_mem_nil,or_false] at hi_
   rcases hi_ with rfl | rfl
   ·
    refine ⟨_,rfl,fun hX=>?_⟩
    refine L.call rfl (c_rat_Neg (q:=x) (rv_toL _) hn7 hd7 hbd (Nat.le_trans Fx.1 (by omega)) (Nat.le_trans Fx.2 (by omega))) rfl ?_
    rintro _ w18 ⟨⟨A43,c43,B43,e43,rfl,hn43,hd43⟩,hm18⟩
    replace hn8:=hn8.gr hm18
    replace hd8:=hd8.gr hm18
    replace hb6:=Blk.gr hb6 hm18
    replace hbd:=hbd.gr hm18
    replace hm0:=hm0.trans hm18
    replace hS2:=hS2.trans hm18
    clear hm18
    have F43:=Fit.neg Fx
    refine L.nil (hX _ _ ⟨.inr hS2,?_⟩)
    refine D.many (rs:=[3,7]) (by decide +kernel) rfl ?_
    intro i_ hi_
    simp only [List.mem_cons,List.not_mem_nil,or_false] at hi_
    rcases hi_ with rfl | rfl
    ·
     refine ⟨_,rfl,fun hX=>?_⟩
     refine L.call rfl (c_rat_Div (qa:=(-x)) (qb:=(QR.val b)) (rv_toL _) rfl hn43 hd43 hn8 hd8 hbd (Nat.le_trans F43.1 (by decide)) (Nat.le_trans F43.2 (by decide)) (Nat.le_trans hsb.1 (by decide)) (Nat.le_trans hsb.2 (by decide))) rfl ?_
     rintro _ w19 ⟨v45,rfl,⟨A45,c45,B45,e45,rfl,hn45,hd45⟩,hm19⟩
     replace hb6:=Blk.gr hb6 hm19
     replace hm0:=hm0.trans hm19
     replace hS2:=hS2.trans hm19
     clear hm19
     have F45:=Fit.div F43 Fb (by decide)
     refine L.nil (hX _ _ ⟨.inr hS2,?_⟩)
     refine D.m 4 rfl (by kernel_rfl) rfl hS2 rfl<|D.take 5 rfl (by kernel_rfl) (fun w_ hS=>(R1.extract rfl rfl)) hS2 rfl<|D.take 6 rfl (by kernel_rfl) (fun w_ hS=>(R1.extract rfl rfl)) hS2 rfl<|D.one 7 rfl (by kernel_rfl) (fun hX=>?_)
     refine L.alloc tyZ39 rfl ?_
     intro g11 w20 hN11
     have hgs_g11:=New.ge hN11 hS2.size
     replace hS2:=hS2.trans hN11.mod
     have hne_g6_g11:=hb6.ne_ hN11
     replace hb6:=Blk.gr hb6 hN11.mod
     have hge_g11:=New.ge hN11 hm0.size
     replace hm0:=hm0.trans (hN11.mod.mono (by simp))
     replace hn45:=hn45.new hN11
     replace hd45:=hd45.new hN11
     have hb11:=hN11.blk
     clear hN11
     refine L.nil (hX _ _ ⟨.inr hS2,?_⟩)
     refine D.one 8 rfl (by kernel_rfl) (fun hX=>?_)
     refine L.storeBox rfl rfl hb11 rfl rfl tyG39 ?_
     intro w21 hb11' hm21
     replace hS2:=hS2.old1 hm21 hgs_g11
     replace hb6:=Blk.far hb6 hm21 (by first | exact hne_g6_g11 | exact (hne_g11_g6).symm)
     replace hm0:=hm0.old1 hm21 hge_g11
     replace hn45:=hn45.mod hm21 (by simp)
     replace hd45:=hd45.mod hm21 (by simp)
     clear hm21
     replace hb11:=hb11'; clear hb11'
     refine L.nil (hX _ _ ⟨.inr hS2,?_⟩)
     refine D.take 9 rfl (by kernel_rfl) (fun w_ hS=>(R1.assign rfl)) hS2 rfl<|D.done (by decide +kernel) ?_ _
     refine X.seq<|W.seq<|W.region<|L.v (R1.loadBox rfl hb11 tyG39) rfl<|L.storeBox rfl rfl hb6 rfl rfl tyG39 ?_
     intro w22 hb6' hm22
     replace hm0:=hm0.old1 hm22 hge_g6
     replace hn45:=hn45.mod hm22 (by simp)
     replace hd45:=hd45.mod hm22 (by simp)
     clear hm22
     replace hb6:=hb6'; clear hb6'
     refine L.nil<|X.seq<|W.ret<|X.result1 rfl (.cell rfl (loadVar_blk hb6 tyG39) .nil) ?_
     have he9:toldV c v val=((-x) / QR.val b):=by unfold toldV; rw [← hx,← hb]
     rw [he9]
     exact ⟨RN.mk rfl (hn45.su) (hd45.su),Fit.mono F45 (by decide),hm0⟩
    ·
     refine ⟨_,rfl,fun hX=>?_⟩
     refine L.alloc tyZ39 rfl ?_
     intro g11 w23 hN11
     have hgs_g11:=New.ge hN11 hS2.size
     replace hS2:=hS2.trans hN11.mod
     replace hn8:=hn8.new hN11
     replace hd8:=hd8.new hN11
     have hne_g6_g11:=hb6.ne_ hN11
     replace hb6:=Blk.gr hb6 hN11.mod
     replace hbd:=hbd.new hN11
     have hge_g11:=New.ge hN11 hm0.size
     replace hm0:=hm0.trans (hN11.mod.mono (by simp))
     replace hn43:=hn43.new hN11
     replace hd43:=hd43.new hN11
     have hb11:=hN11.blk
     clear hN11
     refine L.nil (hX _ _ ⟨.inr hS2,?_⟩)
     refine D.one 3 rfl (by kernel_rfl) (fun hX=>?_)
     refine L.call rfl (c_rat_Div (qa:=(-x)) (qb:=(QR.val b)) (rv_toL _) rfl hn43 hd43 hn8 hd8 hbd (Nat.le_trans F43.1 (by decide)) (Nat.le_trans F43.2 (by decide)) (Nat.le_trans hsb.1 (by decide)) (Nat.le_trans hsb.2 (by decide))) rfl ?_
     rintro _ w24 ⟨v45,rfl,⟨A45,c45,B45,e45,rfl,hn45,hd45⟩,hm24⟩
     replace hb6:=Blk.gr hb6 hm24
     replace hm0:=hm0.trans hm24
     replace hb11:=Blk.gr hb11 hm24
     replace hS2:=hS2.trans hm24
     clear hm24
     have F45:=Fit.div F43 Fb (by decide)
     refine L.nil (hX _ _ ⟨.inr hS2,?_⟩)
     refine D.m 4 rfl (by kernel_rfl) rfl hS2 rfl<|D.take 5 rfl (by kernel_rfl) (fun w_ hS=>(R1.extract rfl rfl)) hS2 rfl<|D.take 6 rfl (by kernel_rfl) (fun w_ hS=>(R1.extract rfl rfl)) hS2 rfl<|D.one 8 rfl (by kernel_rfl) (fun hX=>?_)
     refine L.storeBox rfl rfl hb11 rfl rfl tyG39 ?_
     intro w25 hb11' hm25
     replace hS2:=hS2.old1 hm25 hgs_g11
     replace hb6:=Blk.far hb6 hm25 (by first | exact hne_g6_g11 | exact (hne_g11_g6).symm)
     replace hm0:=hm0.old1 hm25 hge_g11
     replace hn45:=hn45.mod hm25 (by simp)
     replace hd45:=hd45.mod hm25 (by simp)
     clear hm25
     replace hb11:=hb11'; clear hb11'
     refine L.nil (hX _ _ ⟨.inr hS2,?_⟩)
     refine D.take 9 rfl (by kernel_rfl) (fun w_ hS=>(R1.assign rfl)) hS2 rfl<|D.done (by decide +kernel) ?_ _
     refine X.seq<|W.seq<|W.region<|L.v (R1.loadBox rfl hb11 tyG39) rfl<|L.storeBox rfl rfl hb6 rfl rfl tyG39 ?_
     intro w26 hb6' hm26
     replace hm0:=hm0.old1 hm26 hge_g6
     replace hn45:=hn45.mod hm26 (by simp)
     replace hd45:=hd45.mod hm26 (by simp)
     clear hm26
     replace hb6:=hb6'; clear hb6'
     refine L.nil<|X.seq<|W.ret<|X.result1 rfl (.cell rfl (loadVar_blk hb6 tyG39) .nil) ?_
     have he9:toldV c v val=((-x) / QR.val b):=by unfold toldV; rw [← hx,← hb]
     rw [he9]
     exact ⟨RN.mk rfl (hn45.su) (hd45.su),Fit.mono F45 (by decide),hm0⟩
   ·
    refine ⟨_,rfl,fun hX=>?_⟩
    refine L.alloc tyZ39 rfl ?_
    intro g11 w27 hN11
    have hgs_g11:=New.ge hN11 hS2.size
    replace hS2:=hS2.trans hN11.mod
    replace hn7:=hn7.new hN11
    replace hd7:=hd7.new hN11
    replace hn8:=hn8.new hN11
    replace hd8:=hd8.new hN11
    have hne_g6_g11:=hb6.ne_ hN11
    replace hb6:=Blk.gr hb6 hN11.mod
    replace hbd:=hbd.new hN11
    have hge_g11:=New.ge hN11 hm0.size
    replace hm0:=hm0.trans (hN11.mod.mono (by simp))
    have hb11:=hN11.blk
    clear hN11
    refine L.nil (hX _ _ ⟨.inr hS2,?_⟩)
    refine D.one 1 rfl (by kernel_rfl) (fun hX=>?_)
    refine L.call rfl (c_rat_Neg (q:=x) (rv_toL _) hn7 hd7 hbd (Nat.le_trans Fx.1 (by omega)) (Nat.le_trans Fx.2 (by omega))) rfl ?_
    rintro _ w28 ⟨⟨A43,c43,B43,e43,rfl,hn43,hd43⟩,hm28⟩
    replace hn8:=hn8.gr hm28
    replace hd8:=hd8.gr hm28
    replace hb6:=Blk.gr hb6 hm28
    replace hbd:=hbd.gr hm28
    replace hm0:=hm0.trans hm28
    replace hb11:=Blk.gr hb11 hm28
    replace hS2:=hS2.trans hm28
    clear hm28
    have F43:=Fit.neg Fx
    refine L.nil (hX _ _ ⟨.inr hS2,?_⟩)
    refine D.one 3 rfl (by kernel_rfl) (fun hX=>?_)
    refine L.call rfl (c_rat_Div (qa:=(-x)) (qb:=(QR.val b)) (rv_toL _) rfl hn43 hd43 hn8 hd8 hbd (Nat.le_trans F43.1 (by decide)) (Nat.le_trans F43.2 (by decide)) (Nat.le_trans hsb.1 (by decide)) (Nat.le_trans hsb.2 (by decide))) rfl ?_
    rintro _ w29 ⟨v45,rfl,⟨A45,c45,B45,e45,rfl,hn45,hd45⟩,hm29⟩
    replace hb6:=Blk.gr hb6 hm29
    replace hm0:=hm0.trans hm29
    replace hb11:=Blk.gr hb11 hm29
    replace hS2:=hS2.trans hm29
    clear hm29
    have F45:=Fit.div F43 Fb (by decide)
    refine L.nil (hX _ _ ⟨.inr hS2,?_⟩)
    refine D.m 4 rfl (by kernel_rfl) rfl hS2 rfl<|D.take 5 rfl (by kernel_rfl) (fun w_ hS=>(R1.extract rfl rfl)) hS2 rfl<|D.take 6 rfl (by kernel_rfl) (fun w_ hS=>(R1.extract rfl rfl)) hS2 rfl<|D.one 8 rfl (by kernel_rfl) (fun hX=>?_)
    refine L.storeBox rfl rfl hb11 rfl rfl tyG39 ?_
    intro w30 hb11' hm30
    replace hS2:=hS2.old1 hm30 hgs_g11
    replace hb6:=Blk.far hb6 hm30 (by first | exact hne_g6_g11 | exact (hne_g11_g6).symm)
    replace hm0:=hm0.old1 hm30 hge_g11
    replace hn45:=hn45.mod hm30 (by simp)
    replace hd45:=hd45.mod hm30 (by simp)
    clear hm30
    replace hb11:=hb11'; clear hb11'
    refine L.nil (hX _ _ ⟨.inr hS2,?_⟩)
    refine D.take 9 rfl (by kernel_rfl) (fun w_ hS=>(R1.assign rfl)) hS2 rfl<|D.done (by decide +kernel) ?_ _
    refine X.seq<|W.seq<|W.region<|L.v (R1.loadBox rfl hb11 tyG39) rfl<|L.storeBox rfl rfl hb6 rfl rfl tyG39 ?_
    intro w31 hb6' hm31
    replace hm0:=hm0.old1 hm31 hge_g6
    replace hn45:=hn45.mod hm31 (by simp)
    replace hd45:=hd45.mod hm31 (by simp)
    clear hm31
    replace hb6:=hb6'; clear hb6'
    refine L.nil<|X.seq<|W.ret<|X.result1 rfl (.cell rfl (loadVar_blk hb6 tyG39) .nil) ?_
    have he9:toldV c v val=((-x) / QR.val b):=by unfold toldV; rw [← hx,← hb]
    rw [he9]
    exact ⟨RN.mk rfl (hn45.su) (hd45.su),Fit.mono F45 (by decide),hm0⟩
end Go.Proofs.YtbhdbdmaikjglaaGreat
