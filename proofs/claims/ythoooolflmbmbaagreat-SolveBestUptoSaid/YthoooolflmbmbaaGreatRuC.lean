/- Walks: what the functions compute. -/
import Derived.Test.YthoooolflmbmbaaGreatRuB
namespace Go.Proofs.YthoooolflmbmbaaGreat
open Go.RowKit
set_option linter.unusedVariables false
set_option linter.unusedSimpArgs false
set_option maxRecDepth 10000
def valOf (val:List QR) (v:Int):Rat:=if v<0 then 0 else match val[v.toNat]? with
  | some q=>q.val
  | none=>0
theorem valOf_some {val:List QR} {v:Int} {q:QR} (h0:0≤v) (h:val[v.toNat]?=some q):valOf val v=q.val:=by
  unfold valOf; rw [if_neg (by omega),h]
theorem valOf_none {val:List QR} {v:Int} (h:v<0∨(val.length:Int)≤v):valOf val v=0:=by
  unfold valOf
  split
  · rfl
  rw [List.getElem?_eq_none (by omega)]
def atG (val:List QR):List TR→Rat→Rat
  | [],x=>x
  | t :: r,x=>atG val r (x + t.c.val * valOf val t.v)
theorem atG_app (val:List QR):∀ (l r:List TR) (x:Rat),atG val (l ++ r) x=atG val r (atG val l x)
  | [],_,_=>rfl
  | t :: l,r,x=>by simp only [List.cons_append,atG]; rw [atG_app val l r]
theorem atG_snoc {val:List QR} {l:List TR} {i:Nat} {z:TR} (hz:l[i]?=some z) (x:Rat):atG val (l.take (i + 1)) x=atG val (l.take i) x + z.c.val * valOf val z.v:=by
  obtain ⟨hi,rfl⟩:=List.getElem?_eq_some_iff.1 hz
  rw [List.take_succ_eq_append_getElem hi,atG_app]; rfl
theorem fit_sm {M:List Nat} {w:World} {vn vd:Value} {q:QR} {L:Nat} (h:U32 M w vn q.n) (k:U32 M w vd q.d) (hs:SmQ L q):Fit q.val (L + 1):=Fit.rv rfl h.2 k.2 hs.1 hs.2
theorem valOf_fit {N:List Nat} {w:World} {vv:Value} {val:List QR} {L:Nat} (hv:Lay rdQ N w vv val) (hs:∀ q∈val,SmQ L q) (v:Int):Fit (valOf val v) (L + 1):=by
  unfold valOf
  split
  · exact Fit.zero (by omega)
  split
  · rename_i q hq
    obtain ⟨hi,rfl⟩:=List.getElem?_eq_some_iff.1 hq;obtain ⟨cs,_,vn,vd,_,h1,h2⟩:=hv.elem hi
    exact fit_sm h1 h2 (hs _ (List.getElem_mem hi))
  exact Fit.zero (by omega)
theorem rat_add0 (x y:Rat):x + y * 0=x:=by grind
theorem built_T01 (v:Int) (s:Bool) (A:Option Addr) (n c:Nat) (B:Option Addr) (m d:Nat):Tryz.prog.built 47 [(0,.int .i64 v),(1,.agg #[.bool s,.slice A n c,.slice B m d])]=some #[.int .i64 v,.bool s,.slice A n c,.slice B m d]:=by kernel_rfl
theorem fillN1 (v:Int) (s:Bool) (A:Option Addr) (n c:Nat) (B:Option Addr) (m d:Nat):Instr.fill (fun i=>some (i * 4,4)) ((Array.range (1 * 4)).map ((Value.agg #[.int .i64 0,.bool false,.slice none 0 0,.slice none 0 0]).cells[· % (Value.agg #[.int .i64 0,.bool false,.slice none 0 0,.slice none 0 0]).cells.size]!)) [(0,.agg #[.int .i64 v,.bool s,.slice A n c,.slice B m d])]=some #[.int .i64 v,.bool s,.slice A n c,.slice B m d]:=by kernel_rfl
theorem c_ref8_At {M N9 : List Nat} {w : World} {c : CR} {vt vn vd : Value} (ht : Lay rdT N9 w vt c.ts) (h : U32 N9 w vn c.k.n) (k : U32 N9 w vd c.k.d) {N8 : List Nat} {vv : Value} {val : List QR} (hv : Lay rdQ N8 w vv val) (hbd : Bd M w) (hsm : SmC 10000 c) (hsv : ∀ q ∈ val, SmQ 10000 q) :
    Ret Tryz.prog 27 #[.agg #[.int .i64 c.st,vt,.bool c.k.s,vn,vd],vv] w (fun r w'=>RN M w' r (atG val c.ts (QR.val c.k))∧Mod [] w w'):=by
 obtain ⟨T9,t9,rfl⟩:=ht.form;obtain ⟨A9,c9,rfl⟩:=h.form;obtain ⟨B9,e9,rfl⟩:=k.form;have hlt:=hsm.1;have FK:=fit_sm h k hsm.2.1
 refine Ret.of (vs:=[.agg #[.int .i64 c.st,.slice T9 c.ts.length t9,.bool c.k.s,.slice A9 c.k.n.length c9,.slice B9 c.k.d.length e9],vv]) (n:=46) Tryz.func27 rfl rfl rfl rfl ?_
 have C0:Mod [] w w:=Mod.refl _ _
 refine W.sr<|L.box rfl rfl ?_
 intro g2 w1 D2
 replace ht:=ht.new D2;replace h:=h.new D2;replace k:=k.new D2;replace hv:=hv.new D2;replace hbd:=hbd.new D2;replace C0:=C0.tn D2;have E2:=D2.blk;clear D2
 refine L.alloc tyZ40 rfl ?_
 intro g4 w2 D4
 replace ht:=ht.new D4;replace h:=h.new D4;replace k:=k.new D4;replace hv:=hv.new D4;replace hbd:=hbd.new D4;have K4:=New.ge D4 C0.size;replace C0:=C0.tn D4;have hne_g2_g4:=E2.ne_ D4;replace E2:=E2.gr D4.mod;have E4:=D4.blk;clear D4
 refine L.z<|W.sr<|L.fA rfl tyF42_2<|L.v (R1.loadBoxAt (ds:=[.bool c.k.s,.slice A9 c.k.n.length c9,.slice B9 c.k.d.length e9]) rfl E2 rfl tyG40) rfl<|L.c rfl (c_ref2_Norm (q:=(QR.val c.k)) rfl h k hbd (Nat.le_trans hsm.2.1.1 (by decide)) (Nat.le_trans hsm.2.1.2 (by decide))) ?_
 rintro _ w3 ⟨⟨A10,c10,B10,e10,rfl,I10,H10⟩,C3⟩
 replace ht:=ht.gr C3;replace k:=k.gr C3;replace hv:=hv.gr C3;replace hbd:=hbd.gr C3;replace C0:=C0.trans C3;replace E2:=E2.gr C3;replace E4:=E4.gr C3;clear C3;have F10:=FK
 refine L.alloc tyZ40 rfl ?_
 intro g5 w4 D5
 replace ht:=ht.new D5;replace k:=k.new D5;replace hv:=hv.new D5;replace hbd:=hbd.new D5;have K5:=New.ge D5 C0.size;replace C0:=C0.tn D5;have hne_g2_g5:=E2.ne_ D5;replace E2:=E2.gr D5.mod;have hne_g4_g5:=E4.ne_ D5;replace E4:=E4.gr D5.mod;replace I10:=I10.new D5;replace H10:=H10.new D5;have E5:=D5.blk;clear D5
 refine L.storeBox rfl rfl E5 rfl rfl tyG40 ?_
 intro w5 E5' C5
 replace ht:=ht.ms C5;replace k:=k.ms C5;replace hv:=hv.ms C5;replace hbd:=hbd.gr C5;replace C0:=C0.old1 C5 K5;replace E2:=E2.fr C5;replace E4:=E4.fr C5;replace I10:=I10.ms C5;replace H10:=H10.ms C5;clear C5;replace E5:=E5'; clear E5'
 refine L.z<|W.seq<|W.sr<|L.b rfl<|L.z<|W.block<|W.loop (ι:=Nat × Rat × Option Addr × Nat × Option Addr × Nat) (fun (i,x,A5,c5,B5,e5)=>[(1,vv),(2,.pointer (some ⟨g2,0,none⟩)),(4,.pointer (some ⟨g4,0,none⟩)),(5,.pointer (some ⟨g5,0,none⟩)),(6,.int .i64 (i:Int))]) (fun (i,x,A5,c5,B5,e5) w_=>Lay rdT (g5 :: g4 :: N9) w_ (.slice T9 c.ts.length t9) c.ts∧Lay rdQ (g5 :: g4 :: N8) w_ vv val∧U32 (g5 :: g4 :: M) w_ (.slice A5 (toL x.num.natAbs).length c5) (toL x.num.natAbs)∧U32 (g5 :: g4 :: M) w_ (.slice B5 (toL x.den).length e5) (toL x.den)∧Blk w_ g5 40 #[.bool (decide (x.num<0)),.slice A5 (toL x.num.natAbs).length c5,.slice B5 (toL x.den).length e5]∧Blk w_ g4 40 #[.bool false,.slice none 0 0,.slice none 0 0]∧w.heap.size≤g5∧w.heap.size≤g4∧g4≠g5∧i≤c.ts.length∧Fit x (10001 + i * 30000)∧x=atG val (c.ts.take i) (QR.val c.k)∧Bd (g5 :: g4 :: M) w_∧Mod [] w w_∧Blk w_ g2 42 #[.int .i64 c.st,.slice T9 c.ts.length t9,.bool c.k.s,.slice A9 c.k.n.length c9,.slice B9 c.k.d.length e9]∧g2≠g4∧g2≠g5) (fun (i,x,A5,c5,B5,e5)=>c.ts.length - i) (0,QR.val c.k,A10,c10,B10,e10) ?_ ?_ ?_
 · repeat' constructor
 ·
  exact ⟨ht.su,hv.su,I10.su,H10.su,E5,E4,K5,K4,hne_g4_g5,Nat.zero_le _,Fit.mono F10 (by decide),rfl,hbd.su,C0,E2,hne_g2_g4,hne_g2_g5⟩
 rintro ⟨i,x,A5,c5,B5,e5⟩ w6 ⟨ht,hv,I5,H5,E5,E4,K5,K4,hne_g4_g5,hi,Fx,hx,hbd,C0,E2,hne_g2_g4,hne_g2_g5⟩
 refine W.seq<|W.sr<|L.k rfl<|L.fA rfl tyF42_1<|L.lF rfl E2 rfl tyP37<|L.lL rfl ht Q37<|L.lt rfl rfl<|L.z<|W.cond rfl ?_ ?_
 ·
  intro J15
  try simp only [bq,ne_eq] at J15
  refine W.skip<|X.seq<|W.seq<|W.block<|W.sr<|L.fA rfl tyF42_1<|L.lF rfl E2 rfl tyP37<|L.k rfl<|L.aL (j:=i) rfl rfl ht Q37 rfl (by omega)<|L.v (R1.fieldAddr rfl tyF47_0) rfl ?_
  obtain ⟨z23,cs23,P23,V23,ds23,rfl,vn23,vd23,rfl,I23,H23⟩:=Lay.elemQ ht (j:=i) (by omega);obtain ⟨A23,c23,rfl⟩:=I23.form;obtain ⟨B23,e23,rfl⟩:=H23.form
  refine L.v (R1.loadEF rfl V23 rfl tyP3) rfl<|L.b rfl<|L.z<|W.sr<|L.k rfl<|L.v ((R1.ge rfl rfl).asB (c:=decide (0≤z23.v)) (rfl)) rfl<|L.k rfl ?_
  cases W26:decide (0≤z23.v)
  ·
   simp only [bq] at W26
   refine L.o rfl<|L.o rfl<|L.o rfl<|L.o rfl<|L.pF rfl rfl<|L.z<|W.condF rfl<|W.skip<|X.blockEnd<|X.seq ?_
   refine W.region<|L.k rfl<|L.inc rfl rfl (by omega)<|L.b rfl<|L.nil<|X.next (i + 1,x,A5,c5,B5,e5) ?_ ?_ ?_
   · repeat' constructor
   ·
    exact ⟨ht.su,hv.su,I5.su,H5.su,E5,E4,K5,K4,hne_g4_g5,by omega,Fit.mono Fx (by omega),by rw [atG_snoc P23,← hx,valOf_none (by omega),rat_add0],hbd.su,C0,E2,hne_g2_g4,hne_g2_g5⟩
   first | omega | (dsimp only; omega)
  simp only [bq] at W26
  refine L.p rfl (R1.move rfl)<|L.p rfl (R1.move rfl)<|L.p rfl (R1.lenLay rfl hv Q23)<|L.p rfl ((R1.lt rfl rfl).asB (c:=decide (z23.v<(val.length:Int))) (rfl))<|L.pT rfl rfl<|L.z<|W.cond rfl ?_ ?_
  ·
   intro J31
   simp only [bq] at J31
   refine W.drawW (T:=[13]) rfl (by decide +kernel) (NoHang.block (NoHang.then (NoHang.next (NoHang.block (NoHang.then NoHang.post))))) (fun w7 C7=>?_)
   replace ht:=ht.gr C7;replace hv:=hv.gr C7;replace I5:=I5.gr C7;replace H5:=H5.gr C7;replace E5:=E5.gr C7;replace E4:=E4.gr C7;replace hbd:=hbd.gr C7;replace C0:=C0.trans C7;replace E2:=E2.gr C7
   have G1:Mod [] w7 w7:=Mod.refl _ _
   clear C7;have hb5_s:=E5;have hb2_s:=E2
   refine D.t 0 rfl (by kernel_rfl) (fun _ hS=>R1.loadBox rfl (hb5_s.gr hS) tyG40) G1<|D.t 1 rfl (by kernel_rfl) (fun _ hS=>R1.fieldAt rfl tyF42_1) G1<|D.t 2 rfl (by kernel_rfl) (fun _ hS=>R1.loadFld rfl (hb2_s.gr hS) rfl tyP37) G1<|D.z 3 rfl (by kernel_rfl) rfl G1<|D.t 4 rfl (by kernel_rfl) (fun _ hS=>R1.atLay (j:=i) rfl rfl (Lay.gr ht hS) Q37 rfl (by omega)) G1<|D.t 5 rfl (by kernel_rfl) (fun _ hS=>R1.fieldAddr rfl tyF47_1) G1 ?_
   obtain ⟨z38,cs38,P38,V38,ds38,rfl,vn38,vd38,rfl,I38,H38⟩:=Lay.elemQ ht (j:=i) (by omega);obtain ⟨A38,c38,rfl⟩:=I38.form;obtain ⟨B38,e38,rfl⟩:=H38.form
   obtain rfl:z23=z38:=by have h9:=P38; rw [P23] at h9; injection h9
   refine D.t 6 rfl (by kernel_rfl) (fun _ hS=>R1.loadEA (ds:=[.bool z23.c.s,.slice A38 z23.c.n.length c38,.slice B38 z23.c.d.length e38]) rfl (SlE.gr V38 hS) rfl tyG40) G1 ?_
   have F38:=fit_sm I38 H38 (hsm.2.2 _ (List.mem_of_getElem? P38))
   refine D.z 7 rfl (by kernel_rfl) rfl G1<|D.z 8 rfl (by kernel_rfl) rfl G1<|D.t 9 rfl (by kernel_rfl) (fun _ hS=>R1.atLay (j:=z23.v.toNat) rfl rfl (Lay.gr hv hS) Q23 (by omega) (by omega)) G1 ?_
   obtain ⟨z42,cs42,P42,V42,vn42,vd42,rfl,I42,H42⟩:=Lay.elemQ hv (j:=z23.v.toNat) (by omega);obtain ⟨A42,c42,rfl⟩:=I42.form;obtain ⟨B42,e42,rfl⟩:=H42.form
   refine D.t 10 rfl (by kernel_rfl) (fun _ hS=>R1.loadE rfl (SlE.gr V42 hS) tyG40) G1 ?_
   have F42:=fit_sm I42 H42 (hsv _ (List.mem_of_getElem? P42))
   refine D.one 11 rfl (by kernel_rfl) (fun hX=>?_)
   refine L.c rfl (c_ref2_Mul (qa:=(QR.val z23.c)) (qb:=(QR.val z42)) rfl rfl I38 H38 I42 H42 hbd (Nat.le_trans (hsm.2.2 _ (List.mem_of_getElem? P38)).1 (by decide)) (Nat.le_trans (hsm.2.2 _ (List.mem_of_getElem? P38)).2 (by decide)) (Nat.le_trans (hsv _ (List.mem_of_getElem? P42)).1 (by decide)) (Nat.le_trans (hsv _ (List.mem_of_getElem? P42)).2 (by decide))) ?_
   rintro _ w8 ⟨⟨A43,c43,B43,e43,rfl,I43,H43⟩,C8⟩
   replace ht:=ht.gr C8;replace hv:=hv.gr C8;replace I5:=I5.gr C8;replace H5:=H5.gr C8;replace E5:=E5.gr C8;replace E4:=E4.gr C8;replace hbd:=hbd.gr C8;replace C0:=C0.trans C8;replace E2:=E2.gr C8;replace G1:=G1.trans C8;clear C8;have F43:=Fit.mul F38 F42
   refine L.nil (hX _ _ ⟨.inr G1,?_⟩)
   refine D.one 12 rfl (by kernel_rfl) (fun hX=>?_)
   refine L.c rfl (c_ref2_Add (qa:=x) (qb:=((QR.val z23.c) * (QR.val z42))) (rv_toL _) (rv_toL _) I5 H5 I43 H43 hbd (Nat.le_trans Fx.1 (by omega)) (Nat.le_trans Fx.2 (by omega)) (Nat.le_trans F43.1 (by decide)) (Nat.le_trans F43.2 (by decide))) ?_
   rintro _ w9 ⟨⟨A44,c44,B44,e44,rfl,I44,H44⟩,C9⟩
   replace ht:=ht.gr C9;replace hv:=hv.gr C9;replace E5:=E5.gr C9;replace E4:=E4.gr C9;replace hbd:=hbd.gr C9;replace C0:=C0.trans C9;replace E2:=E2.gr C9;replace G1:=G1.trans C9;clear C9;have F44:=Fit.add Fx F43
   refine L.nil (hX _ _ ⟨.inr G1,?_⟩)
   refine D.one 13 rfl (by kernel_rfl) (fun hX=>?_)
   refine L.storeBox rfl rfl E5 rfl rfl tyG40 ?_
   intro w10 E5' C10
   replace ht:=ht.ms C10;replace hv:=hv.ms C10;replace E4:=E4.fr C10;replace hbd:=hbd.gr C10;replace C0:=C0.old1 C10 K5;replace E2:=E2.fr C10;replace I44:=I44.ms C10;replace H44:=H44.ms C10;clear C10;replace E5:=E5'; clear E5'
   refine L.nil (hX _ _ ⟨.inl rfl,?_⟩)
   refine D.done (by decide +kernel) ?_ _
   refine X.blockEnd<|X.seq<|W.region<|L.k rfl<|L.inc rfl rfl (by omega)<|L.b rfl<|L.nil<|X.next (i + 1,x + QR.val z23.c * QR.val z42,A44,c44,B44,e44) ?_ ?_ ?_
   · repeat' constructor
   ·
    exact ⟨ht.su,hv.su,I44.su,H44.su,E5,E4,K5,K4,hne_g4_g5,by omega,Fit.mono F44 (by omega),by rw [atG_snoc P23,← hx,valOf_some (by omega) P42],hbd.su,C0,E2,hne_g2_g4,hne_g2_g5⟩
   first | omega | (dsimp only; omega)
  intro J31
  simp only [bq] at J31
  refine W.skip<|X.blockEnd<|X.seq<|W.region<|L.k rfl<|L.inc rfl rfl (by omega)<|L.b rfl<|L.nil<|X.next (i + 1,x,A5,c5,B5,e5) ?_ ?_ ?_
  · repeat' constructor
  ·
   exact ⟨ht.su,hv.su,I5.su,H5.su,E5,E4,K5,K4,hne_g4_g5,by omega,Fit.mono Fx (by omega),by rw [atG_snoc P23,← hx,valOf_none (by omega),rat_add0],hbd.su,C0,E2,hne_g2_g4,hne_g2_g5⟩
  first | omega | (dsimp only; omega)
 intro J15
 try simp only [bq,ne_eq] at J15
 obtain rfl:i=c.ts.length:=by omega
 rw [List.take_length] at hx
 refine W.brk<|W.sr<|L.v (R1.loadBox rfl E5 tyG40) rfl<|L.storeBox rfl rfl E4 rfl rfl tyG40 ?_
 intro w11 E4' C11
 replace I5:=I5.ms C11;replace H5:=H5.ms C11;replace C0:=C0.old1 C11 K4;clear C11;replace E4:=E4'; clear E4'
 refine L.z<|W.ret<|X.result1 rfl (.cell rfl (loadVar_blk E4 tyG40) .nil) ?_
 exact ⟨by rw [← hx]; exact RN.mk rfl (I5.su) (H5.su),C0⟩
theorem atG_fit {val:List QR} {L:Nat} (hv:∀ v,Fit (valOf val v) L):∀ (l:List TR) {x:Rat} {b:Nat},(∀ t∈l,Fit t.c.val L)→Fit x b→Fit (atG val l x) (b + l.length * (2 * L + 1))
  | [],x,b,_,hx=>by simpa [atG] using hx
  | t :: l,x,b,h,hx=>by
    have h1:=(hx.add ((h t (by simp)).mul (hv t.v)));have h2:=atG_fit hv l (fun s hs=>h s (by simp [hs])) h1
    simp only [atG,List.length_cons]
    refine h2.mono ?_
    rw [Nat.add_mul]; omega
theorem fit_ts {N:List Nat} {w:World} {v:Value} {ts:List TR} {L:Nat} (h:Lay rdT N w v ts) (hs:∀ t∈ts,SmQ L t.c):∀ t∈ts,Fit t.c.val (L + 1):=fun t ht=>by
  obtain ⟨i,hi,rfl⟩:=List.mem_iff_getElem.1 ht;obtain ⟨cs,_,ds,_,vn,vd,_,h1,h2⟩:=h.elem hi
  exact fit_sm h1 h2 (hs _ ht)
theorem at_fit {M N8:List Nat} {w:World} {vt vn vd vv:Value} {c:CR} {val:List QR} (ht:Lay rdT M w vt c.ts) (h:U32 M w vn c.k.n) (k:U32 M w vd c.k.d) (hv:Lay rdQ N8 w vv val) (hsm:SmC 10000 c) (hsv:∀ q∈val,SmQ 10000 q):Fit (atG val c.ts (QR.val c.k)) 1000000000 :=
  (atG_fit (valOf_fit hv hsv) c.ts (fit_ts ht hsm.2.2) (fit_sm h k hsm.2.1)).mono (by
    have h1:c.ts.length * (2 * (10000 + 1) + 1)≤10000 * (2 * (10000 + 1) + 1):=Nat.mul_le_mul_right _ hsm.1
    omega)
def byQ (ts:List TR) (v:Int):QR:=ts.foldl (fun b t=>if t.v=v then t.c else b) (QR.nf ((1:Int):Rat))
def othT (ts:List TR) (v:Int):List TR:=ts.filter (fun t=>decide (t.v≠v))
def toldV (c:CR) (v:Int) (val:List QR):Rat:=(-(atG val (othT c.ts v) (QR.val c.k))) / QR.val (byQ c.ts v)
theorem byQ_snoc {ts:List TR} {i:Nat} {z:TR} (v:Int) (hz:ts[i]?=some z):byQ (ts.take (i + 1)) v=if z.v=v then z.c else byQ (ts.take i) v:=by
  obtain ⟨hi,rfl⟩:=List.getElem?_eq_some_iff.1 hz
  unfold byQ
  rw [List.take_succ_eq_append_getElem hi,List.foldl_append]; rfl
theorem othT_snoc {ts:List TR} {i:Nat} {z:TR} (v:Int) (hz:ts[i]?=some z):othT (ts.take (i + 1)) v=othT (ts.take i) v ++ (if z.v=v then [] else [z]):=by
  obtain ⟨hi,rfl⟩:=List.getElem?_eq_some_iff.1 hz
  unfold othT
  rw [List.take_succ_eq_append_getElem hi,List.filter_append]
  by_cases h:ts[i].v=v <;> simp [h]
theorem othT_len (ts:List TR) (v:Int):(othT ts v).length≤ts.length:=List.length_filter_le _ _
theorem nf1_sm:SmQ 10000 (QR.nf ((1:Int):Rat)):=by
  have h:toL 1=[1]:=by rw [toL_pos (by decide)]; simp [toL_zero]
  constructor
  · show (toL ((1:Int):Rat).num.natAbs).length≤10000
    rw [Rat.num_intCast]; rw [show (1:Int).natAbs=1 from rfl,h]; decide
  show (toL ((1:Int):Rat).den).length≤10000
  rw [Rat.den_intCast,h]; decide
theorem built_C2 (s:Bool) (A:Option Addr) (n c:Nat) (B:Option Addr) (m d:Nat):Tryz.prog.built 42 [(2,.agg #[.bool s,.slice A n c,.slice B m d])]=some #[.int .i64 0,.slice none 0 0,.bool s,.slice A n c,.slice B m d]:=by kernel_rfl
set_option maxHeartbeats 1000000 in
theorem c_tells {M N9 : List Nat} {w : World} {c : CR} {vt vn vd : Value} (ht : Lay rdT N9 w vt c.ts) (h : U32 N9 w vn c.k.n) (k : U32 N9 w vd c.k.d) {N8 : List Nat} {vv : Value} {val : List QR} {v : Int} (hv : Lay rdQ N8 w vv val) (hbd : Bd M w) (hsm : SmC 10000 c) (hsv : ∀ q ∈ val, SmQ 10000 q) (hC : isC c (val.length : Int) = true) :
    Ret Tryz.prog 44 #[.agg #[.int .i64 c.st,vt,.bool c.k.s,vn,vd],.int .i64 v,vv] w (fun r w'=>RN M w' r (toldV c v val)∧Fit (toldV c v val) 4000000000∧Mod [] w w'):=by
 obtain ⟨T9,t9,rfl⟩:=ht.form;obtain ⟨A9,c9,rfl⟩:=h.form;obtain ⟨B9,e9,rfl⟩:=k.form;have hlt:=hsm.1;have FK:=fit_sm h k hsm.2.1
 refine Ret.of (vs:=[.agg #[.int .i64 c.st,.slice T9 c.ts.length t9,.bool c.k.s,.slice A9 c.k.n.length c9,.slice B9 c.k.d.length e9],.int .i64 v,vv]) (n:=49) Tryz.func44 rfl rfl rfl rfl ?_
 have C0:Mod [] w w:=Mod.refl _ _
 refine W.sr<|L.box rfl rfl ?_
 intro g3 w1 D3
 replace ht:=ht.new D3;replace h:=h.new D3;replace k:=k.new D3;replace hv:=hv.new D3;replace hbd:=hbd.new D3;replace C0:=C0.tn D3;have E3:=D3.blk;clear D3
 refine L.alloc tyZ40 rfl ?_
 intro g6 w2 D6
 replace ht:=ht.new D6;replace h:=h.new D6;replace k:=k.new D6;replace hv:=hv.new D6;replace hbd:=hbd.new D6;have K6:=New.ge D6 C0.size;replace C0:=C0.tn D6;replace E3:=E3.gr D6.mod;have E6:=D6.blk;clear D6
 refine L.z<|W.sr<|L.fA rfl tyF42_2<|L.v (R1.loadBoxAt (ds:=[.bool c.k.s,.slice A9 c.k.n.length c9,.slice B9 c.k.d.length e9]) rfl E3 rfl tyG40) rfl<|L.c rfl (c_rat_Norm (q:=(QR.val c.k)) rfl h k hbd (Nat.le_trans hsm.2.1.1 (by decide)) (Nat.le_trans hsm.2.1.2 (by decide))) ?_
 rintro _ w3 ⟨⟨A15,c15,B15,e15,rfl,I15,H15⟩,C3⟩
 replace ht:=ht.gr C3;replace k:=k.gr C3;replace hv:=hv.gr C3;replace hbd:=hbd.gr C3;replace C0:=C0.trans C3;replace E3:=E3.gr C3;replace E6:=E6.gr C3;clear C3;have F15:=FK
 refine L.alloc tyZ40 rfl ?_
 intro g7 w4 D7
 replace ht:=ht.new D7;replace k:=k.new D7;replace hv:=hv.new D7;replace hbd:=hbd.new D7;have K7:=New.ge D7 C0.size;replace C0:=C0.tn D7;have hne_g3_g7:=E3.ne_ D7;replace E3:=E3.gr D7.mod;have hne_g6_g7:=E6.ne_ D7;replace E6:=E6.gr D7.mod;replace I15:=I15.new D7;replace H15:=H15.new D7;have E7:=D7.blk;clear D7
 refine L.storeBox rfl rfl E7 rfl rfl tyG40 ?_
 intro w5 E7' C5
 replace ht:=ht.ms C5;replace k:=k.ms C5;replace hv:=hv.ms C5;replace hbd:=hbd.gr C5;replace C0:=C0.old1 C5 K7;replace E3:=E3.fr C5;replace E6:=E6.fr C5;replace I15:=I15.ms C5;replace H15:=H15.ms C5;clear C5;replace E7:=E7'; clear E7'
 refine L.z<|W.sr<|L.c rfl (c_rat_Int (n:=1) (by decide) (by decide) hbd) ?_
 rintro _ w6 ⟨⟨A16,c16,B16,e16,rfl,I16,H16⟩,C6⟩
 replace ht:=ht.gr C6;replace k:=k.gr C6;replace hv:=hv.gr C6;replace hbd:=hbd.gr C6;replace C0:=C0.trans C6;replace E3:=E3.gr C6;replace E6:=E6.gr C6;replace I15:=I15.gr C6;replace H15:=H15.gr C6;replace E7:=E7.gr C6;clear C6;have F16:=Fit.int (n:=1) (by decide) (by decide)
 refine L.alloc tyZ40 rfl ?_
 intro g8 w7 D8
 replace ht:=ht.new D8;replace k:=k.new D8;replace hv:=hv.new D8;replace hbd:=hbd.new D8;have K8:=New.ge D8 C0.size;replace C0:=C0.tn D8;have hne_g3_g8:=E3.ne_ D8;replace E3:=E3.gr D8.mod;have hne_g6_g8:=E6.ne_ D8;replace E6:=E6.gr D8.mod;replace I15:=I15.new D8;replace H15:=H15.new D8;have hne_g7_g8:=E7.ne_ D8;replace E7:=E7.gr D8.mod;replace I16:=I16.new D8;replace H16:=H16.new D8;have E8:=D8.blk;clear D8
 refine L.storeBox rfl rfl E8 rfl rfl tyG40 ?_
 intro w8 E8' C8
 replace ht:=ht.ms C8;replace k:=k.ms C8;replace hv:=hv.ms C8;replace hbd:=hbd.gr C8;replace C0:=C0.old1 C8 K8;replace E3:=E3.fr C8;replace E6:=E6.fr C8;replace I15:=I15.ms C8;replace H15:=H15.ms C8;replace E7:=E7.fr C8;replace I16:=I16.ms C8;replace H16:=H16.ms C8;clear C8;replace E8:=E8'; clear E8'
 refine L.z<|W.seq<|W.sr<|L.fA rfl tyF42_1<|L.lF rfl E3 rfl tyP37<|L.lL rfl ht Q37<|L.k rfl<|L.z ?_
 refine W.block<|W.loop (ι:=Nat × Rat × Option Addr × Nat × Option Addr × Nat × QR × Option Addr × Nat × Option Addr × Nat) (fun (i,x,A7,c7,B7,e7,b,A8,c8,B8,e8)=>[(1,.int .i64 v),(2,vv),(6,.pointer (some ⟨g6,0,none⟩)),(7,.pointer (some ⟨g7,0,none⟩)),(8,.pointer (some ⟨g8,0,none⟩)),(18,.slice T9 c.ts.length t9),(19,.int .i64 ((c.ts.length:Nat):Int)),(20,.int .i64 ((i:Nat):Int))]) (fun (i,x,A7,c7,B7,e7,b,A8,c8,B8,e8) w_=>Lay rdT (g8 :: g7 :: g6 :: N9) w_ (.slice T9 c.ts.length t9) c.ts∧Lay rdQ (g8 :: g7 :: g6 :: N8) w_ vv val∧U32 (g8 :: g7 :: g6 :: M) w_ (.slice A7 (toL x.num.natAbs).length c7) (toL x.num.natAbs)∧U32 (g8 :: g7 :: g6 :: M) w_ (.slice B7 (toL x.den).length e7) (toL x.den)∧U32 (g8 :: g7 :: g6 :: []) w_ (.slice A8 b.n.length c8) b.n∧U32 (g8 :: g7 :: g6 :: []) w_ (.slice B8 b.d.length e8) b.d∧Blk w_ g7 40 #[.bool (decide (x.num<0)),.slice A7 (toL x.num.natAbs).length c7,.slice B7 (toL x.den).length e7]∧Blk w_ g8 40 #[.bool b.s,.slice A8 b.n.length c8,.slice B8 b.d.length e8]∧Blk w_ g6 40 #[.bool false,.slice none 0 0,.slice none 0 0]∧w.heap.size≤g6∧w.heap.size≤g7∧w.heap.size≤g8∧g6≠g7∧g6≠g8∧g7≠g8∧i≤c.ts.length∧Fit x (10001 + i * 30000)∧x=atG val (othT (c.ts.take i) v) (QR.val c.k)∧b=byQ (c.ts.take i) v∧SmQ 10000 b∧Bd (g8 :: g7 :: g6 :: M) w_∧Mod [] w w_) (fun (i,x,A7,c7,B7,e7,b,A8,c8,B8,e8)=>c.ts.length - i) (0,QR.val c.k,A15,c15,B15,e15,QR.nf ((1:Int):Rat),A16,c16,B16,e16) ?_ ?_ ?_
 · repeat' constructor
 ·
  exact ⟨ht.su,hv.su,I15.su,H15.su,I16.su,H16.su,E7,E8,E6,K6,K7,K8,hne_g6_g7,hne_g6_g8,hne_g7_g8,Nat.zero_le _,Fit.mono F15 (by decide),rfl,rfl,nf1_sm,hbd.su,C0⟩
 rintro ⟨i,x,A7,c7,B7,e7,b,A8,c8,B8,e8⟩ w9 ⟨ht,hv,I7,H7,I8,H8,E7,E8,E6,K6,K7,K8,hne_g6_g7,hne_g6_g8,hne_g7_g8,hi,Fx,hx,hb,hsb,hbd,C0⟩
 refine W.sr<|L.lt rfl rfl<|L.z<|W.seq<|W.cond rfl ?_ ?_
 ·
  intro J21
  try simp only [bq,ne_eq] at J21
  refine W.skip<|X.seq<|W.seq<|W.block<|W.sr<|L.aL (j:=i) rfl rfl ht Q37 rfl (by omega) ?_
  obtain ⟨z23,cs23,P23,V23,ds23,rfl,vn23,vd23,rfl,I23,H23⟩:=Lay.elemQ ht (j:=i) (by omega);obtain ⟨A23,c23,rfl⟩:=I23.form;obtain ⟨B23,e23,rfl⟩:=H23.form
  refine L.v (R1.loadE rfl V23 tyG47) rfl ?_
  have F23:=fit_sm I23 H23 (hsm.2.2 _ (List.mem_of_getElem? P23))
  refine L.alloc tyZ47 rfl ?_
  intro g10 w10 D10
  replace ht:=ht.new D10;replace hv:=hv.new D10;replace I7:=I7.new D10;replace H7:=H7.new D10;replace I8:=I8.new D10;replace H8:=H8.new D10;have hne_g7_g10:=E7.ne_ D10;replace E7:=E7.gr D10.mod;have hne_g8_g10:=E8.ne_ D10;replace E8:=E8.gr D10.mod;have hne_g6_g10:=E6.ne_ D10;replace E6:=E6.gr D10.mod;replace hbd:=hbd.new D10;have K10:=New.ge D10 C0.size;replace C0:=C0.tn D10;replace I23:=I23.new D10;replace H23:=H23.new D10;have E10:=D10.blk;clear D10
  refine L.storeBox rfl rfl E10 rfl rfl tyG47 ?_
  intro w11 E10' C11
  replace ht:=ht.ms C11;replace hv:=hv.ms C11;replace I7:=I7.ms C11;replace H7:=H7.ms C11;replace I8:=I8.ms C11;replace H8:=H8.ms C11;replace E7:=E7.fr C11;replace E8:=E8.fr C11;replace E6:=E6.fr C11;replace hbd:=hbd.gr C11;replace C0:=C0.old1 C11 K10;replace I23:=I23.ms C11;replace H23:=H23.ms C11;clear C11;replace E10:=E10'; clear E10'
  refine L.z<|W.seq<|W.sr<|L.fA rfl tyF47_0<|L.lF rfl E10 rfl tyP3<|L.k rfl<|L.v (R1.eq rfl rfl) rfl<|L.z ?_
  refine W.cond rfl ?_ ?_
  ·
   intro J27
   try simp only [bq,ne_eq] at J27
   refine W.sr<|L.fA rfl tyF47_1<|L.v (R1.loadBoxAt (ds:=[.bool z23.c.s,.slice A23 z23.c.n.length c23,.slice B23 z23.c.d.length e23]) rfl E10 rfl tyG40) rfl<|L.storeBox rfl rfl E8 rfl rfl tyG40 ?_
   intro w12 E8' C12
   replace ht:=ht.ms C12;replace hv:=hv.ms C12;replace I7:=I7.ms C12;replace H7:=H7.ms C12;replace E7:=E7.fr C12;replace E6:=E6.fr C12;replace hbd:=hbd.gr C12;replace C0:=C0.old1 C12 K8;replace I23:=I23.ms C12;replace H23:=H23.ms C12;clear C12;replace E8:=E8'; clear E8'
   refine L.z<|W.exit<|X.thenExit<|X.here<|X.seq<|W.region<|L.inc rfl rfl (by omega)<|L.k rfl<|L.nil<|X.next (i + 1,x,A7,c7,B7,e7,z23.c,A23,c23,B23,e23) ?_ ?_ ?_
   · repeat' constructor
   ·
    exact ⟨ht.su,hv.su,I7.su,H7.su,I23.su,H23.su,E7,E8,E6,K6,K7,K8,hne_g6_g7,hne_g6_g8,hne_g7_g8,by omega,Fit.mono Fx (by omega),by rw [othT_snoc v P23,if_pos J27,List.append_nil]; exact hx,by rw [byQ_snoc v P23,if_pos J27],hsm.2.2 _ (List.mem_of_getElem? P23),hbd.su,C0⟩
   first | omega | (dsimp only; omega)
  intro J27
  try simp only [bq,ne_eq] at J27
  have hvr:=isC_all hC z23 (List.mem_of_getElem? P23)
  refine W.skip<|X.seq<|W.drawW (T:=[10]) rfl (by decide +kernel) (NoHang.block (NoHang.then (NoHang.next (NoHang.block (NoHang.then NoHang.post))))) (fun w13 C13=>?_)
  replace ht:=ht.gr C13;replace hv:=hv.gr C13;replace I7:=I7.gr C13;replace H7:=H7.gr C13;replace I8:=I8.gr C13;replace H8:=H8.gr C13;replace E7:=E7.gr C13;replace E8:=E8.gr C13;replace E6:=E6.gr C13;replace hbd:=hbd.gr C13;replace C0:=C0.trans C13;replace I23:=I23.gr C13;replace H23:=H23.gr C13;replace E10:=E10.gr C13
  have G1:Mod [] w13 w13:=Mod.refl _ _
  clear C13;have hb7_s:=E7;have hb10_s:=E10
  refine D.t 0 rfl (by kernel_rfl) (fun _ hS=>R1.loadBox rfl (hb7_s.gr hS) tyG40) G1<|D.t 1 rfl (by kernel_rfl) (fun _ hS=>R1.fieldAt rfl tyF47_1) G1<|D.t 2 rfl (by kernel_rfl) (fun _ hS=>R1.loadBoxAt (ds:=[.bool z23.c.s,.slice A23 z23.c.n.length c23,.slice B23 z23.c.d.length e23]) rfl (hb10_s.gr hS) rfl tyG40) G1<|D.z 3 rfl (by kernel_rfl) rfl G1<|D.t 4 rfl (by kernel_rfl) (fun _ hS=>R1.fieldAt rfl tyF47_0) G1<|D.t 5 rfl (by kernel_rfl) (fun _ hS=>R1.loadFld rfl (hb10_s.gr hS) rfl tyP3) G1<|D.t 6 rfl (by kernel_rfl) (fun _ hS=>R1.atLay (j:=z23.v.toNat) rfl rfl (Lay.gr hv hS) Q23 (by omega) (by omega)) G1 ?_
  obtain ⟨z37,cs37,P37,V37,vn37,vd37,rfl,I37,H37⟩:=Lay.elemQ hv (j:=z23.v.toNat) (by omega);obtain ⟨A37,c37,rfl⟩:=I37.form;obtain ⟨B37,e37,rfl⟩:=H37.form
  refine D.t 7 rfl (by kernel_rfl) (fun _ hS=>R1.loadE rfl (SlE.gr V37 hS) tyG40) G1 ?_
  have F37:=fit_sm I37 H37 (hsv _ (List.mem_of_getElem? P37))
  refine D.one 8 rfl (by kernel_rfl) (fun hX=>?_)
  refine L.c rfl (c_rat_Mul (qa:=(QR.val z23.c)) (qb:=(QR.val z37)) rfl rfl I23 H23 I37 H37 hbd (Nat.le_trans (hsm.2.2 _ (List.mem_of_getElem? P23)).1 (by decide)) (Nat.le_trans (hsm.2.2 _ (List.mem_of_getElem? P23)).2 (by decide)) (Nat.le_trans (hsv _ (List.mem_of_getElem? P37)).1 (by decide)) (Nat.le_trans (hsv _ (List.mem_of_getElem? P37)).2 (by decide))) ?_
  rintro _ w14 ⟨⟨A38,c38,B38,e38,rfl,I38,H38⟩,C14⟩
  replace ht:=ht.gr C14;replace hv:=hv.gr C14;replace I7:=I7.gr C14;replace H7:=H7.gr C14;replace I8:=I8.gr C14;replace H8:=H8.gr C14;replace E7:=E7.gr C14;replace E8:=E8.gr C14;replace E6:=E6.gr C14;replace hbd:=hbd.gr C14;replace C0:=C0.trans C14;replace G1:=G1.trans C14;clear C14;have F38:=Fit.mul F23 F37
  refine L.nil (hX _ _ ⟨.inr G1,?_⟩)
  refine D.one 9 rfl (by kernel_rfl) (fun hX=>?_)
  refine L.c rfl (c_rat_Add (qa:=x) (qb:=((QR.val z23.c) * (QR.val z37))) (rv_toL _) (rv_toL _) I7 H7 I38 H38 hbd (Nat.le_trans Fx.1 (by omega)) (Nat.le_trans Fx.2 (by omega)) (Nat.le_trans F38.1 (by decide)) (Nat.le_trans F38.2 (by decide))) ?_
  rintro _ w15 ⟨⟨A39,c39,B39,e39,rfl,I39,H39⟩,C15⟩
  replace ht:=ht.gr C15;replace hv:=hv.gr C15;replace I8:=I8.gr C15;replace H8:=H8.gr C15;replace E7:=E7.gr C15;replace E8:=E8.gr C15;replace E6:=E6.gr C15;replace hbd:=hbd.gr C15;replace C0:=C0.trans C15;replace G1:=G1.trans C15;clear C15;have F39:=Fit.add Fx F38
  refine L.nil (hX _ _ ⟨.inr G1,?_⟩)
  refine D.one 10 rfl (by kernel_rfl) (fun hX=>?_)
  refine L.storeBox rfl rfl E7 rfl rfl tyG40 ?_
  intro w16 E7' C16
  replace ht:=ht.ms C16;replace hv:=hv.ms C16;replace I8:=I8.ms C16;replace H8:=H8.ms C16;replace E8:=E8.fr C16;replace E6:=E6.fr C16;replace hbd:=hbd.gr C16;replace C0:=C0.old1 C16 K7;replace I39:=I39.ms C16;replace H39:=H39.ms C16;clear C16;replace E7:=E7'; clear E7'
  refine L.nil (hX _ _ ⟨.inl rfl,?_⟩)
  refine D.done (by decide +kernel) ?_ _
  refine X.blockEnd<|X.seq<|W.region<|L.inc rfl rfl (by omega)<|L.k rfl<|L.nil<|X.next (i + 1,x + QR.val z23.c * QR.val z37,A39,c39,B39,e39,b,A8,c8,B8,e8) ?_ ?_ ?_
  · repeat' constructor
  ·
   exact ⟨ht.su,hv.su,I39.su,H39.su,I8.su,H8.su,E7,E8,E6,K6,K7,K8,hne_g6_g7,hne_g6_g8,hne_g7_g8,by omega,Fit.mono F39 (by omega),by rw [othT_snoc v P23,if_neg J27,atG_app,← hx]; simp only [atG]; rw [valOf_some (by omega) P37],by rw [byQ_snoc v P23,if_neg J27]; exact hb,hsb,hbd.su,C0⟩
  first | omega | (dsimp only; omega)
 intro J21
 try simp only [bq,ne_eq] at J21
 obtain rfl:i=c.ts.length:=by omega
 rw [List.take_length] at hx hb
 have Fb:=fit_sm I8 H8 hsb;replace Fx:=Fit.mono Fx (show 10001 + c.ts.length * 30000≤400000000 by omega)
 refine W.brk<|W.seq<|W.drawW (T:=[]) rfl (by decide +kernel) (NoHang.then NoHang.post) (fun w17 C17=>?_)
 replace I7:=I7.gr C17;replace H7:=H7.gr C17;replace I8:=I8.gr C17;replace H8:=H8.gr C17;replace E7:=E7.gr C17;replace E8:=E8.gr C17;replace E6:=E6.gr C17;replace hbd:=hbd.gr C17;replace C0:=C0.trans C17
 have G2:Mod [] w17 w17:=Mod.refl _ _
 clear C17;have hb7_s:=E7;have hb8_s:=E8
 refine D.t 0 rfl (by kernel_rfl) (fun _ hS=>R1.loadBox rfl (hb7_s.gr hS) tyG40) G2<|D.t 2 rfl (by kernel_rfl) (fun _ hS=>R1.loadBox rfl (hb8_s.gr hS) tyG40) G2<|D.many (rs:=[1,7]) (by decide +kernel) rfl ?_
 intro i_ hi_
 simp only [List.mem_cons,List.not_mem_nil,or_false] at hi_
 rcases hi_ with rfl | rfl
 ·
  refine ⟨_,rfl,fun hX=>?_⟩
  refine L.c rfl (c_rat_Neg (q:=x) (rv_toL _) I7 H7 hbd (Nat.le_trans Fx.1 (by omega)) (Nat.le_trans Fx.2 (by omega))) ?_
  rintro _ w18 ⟨⟨A43,c43,B43,e43,rfl,I43,H43⟩,C18⟩
  replace I8:=I8.gr C18;replace H8:=H8.gr C18;replace E6:=E6.gr C18;replace hbd:=hbd.gr C18;replace C0:=C0.trans C18;replace G2:=G2.trans C18;clear C18;have F43:=Fit.neg Fx
  refine L.nil (hX _ _ ⟨.inr G2,?_⟩)
  refine D.many (rs:=[3,7]) (by decide +kernel) rfl ?_
  intro i_ hi_
  simp only [List.mem_cons,List.not_mem_nil,or_false] at hi_
  rcases hi_ with rfl | rfl
  ·
   refine ⟨_,rfl,fun hX=>?_⟩
   refine L.c rfl (c_rat_Div (qa:=(-x)) (qb:=(QR.val b)) (rv_toL _) rfl I43 H43 I8 H8 hbd (Nat.le_trans F43.1 (by decide)) (Nat.le_trans F43.2 (by decide)) (Nat.le_trans hsb.1 (by decide)) (Nat.le_trans hsb.2 (by decide))) ?_
   rintro _ w19 ⟨v45,rfl,⟨A45,c45,B45,e45,rfl,I45,H45⟩,C19⟩
   replace E6:=E6.gr C19;replace C0:=C0.trans C19;replace G2:=G2.trans C19;clear C19;have F45:=Fit.div F43 Fb (by decide)
   refine L.nil (hX _ _ ⟨.inr G2,?_⟩)
   refine D.z 4 rfl (by kernel_rfl) rfl G2<|D.t 5 rfl (by kernel_rfl) (fun _ hS=>R1.extract rfl rfl) G2<|D.t 6 rfl (by kernel_rfl) (fun _ hS=>R1.extract rfl rfl) G2<|D.one 7 rfl (by kernel_rfl) (fun hX=>?_)
   refine L.alloc tyZ40 rfl ?_
   intro g11 w20 D11
   have hgs_g11:=New.ge D11 G2.size;replace G2:=G2.trans D11.mod;have hne_g6_g11:=E6.ne_ D11;replace E6:=E6.gr D11.mod;have K11:=New.ge D11 C0.size;replace C0:=C0.tn D11;replace I45:=I45.new D11;replace H45:=H45.new D11;have E11:=D11.blk;clear D11
   refine L.nil (hX _ _ ⟨.inr G2,?_⟩)
   refine D.one 8 rfl (by kernel_rfl) (fun hX=>?_)
   refine L.storeBox rfl rfl E11 rfl rfl tyG40 ?_
   intro w21 E11' C21
   replace G2:=G2.old1 C21 hgs_g11;replace E6:=E6.fr C21;replace C0:=C0.old1 C21 K11;replace I45:=I45.ms C21;replace H45:=H45.ms C21;clear C21;replace E11:=E11'; clear E11'
   refine L.nil (hX _ _ ⟨.inr G2,?_⟩)
   refine D.t 9 rfl (by kernel_rfl) (fun _ hS=>R1.assign rfl) G2<|D.done (by decide +kernel) ?_ _
   refine X.seq<|W.sr<|L.v (R1.loadBox rfl E11 tyG40) rfl<|L.storeBox rfl rfl E6 rfl rfl tyG40 ?_
   intro w22 E6' C22
   replace C0:=C0.old1 C22 K6;replace I45:=I45.ms C22;replace H45:=H45.ms C22;clear C22;replace E6:=E6'; clear E6'
   refine L.z<|W.ret<|X.result1 rfl (.cell rfl (loadVar_blk E6 tyG40) .nil) ?_
   have he9:toldV c v val=((-x) / QR.val b):=by unfold toldV; rw [← hx,← hb]
   rw [he9]
   exact ⟨RN.mk rfl (I45.su) (H45.su),Fit.mono F45 (by decide),C0⟩
  refine ⟨_,rfl,fun hX=>?_⟩
  refine L.alloc tyZ40 rfl ?_
  intro g11 w23 D11
  have hgs_g11:=New.ge D11 G2.size;replace G2:=G2.trans D11.mod;replace I8:=I8.new D11;replace H8:=H8.new D11;have hne_g6_g11:=E6.ne_ D11;replace E6:=E6.gr D11.mod;replace hbd:=hbd.new D11;have K11:=New.ge D11 C0.size;replace C0:=C0.tn D11;replace I43:=I43.new D11;replace H43:=H43.new D11;have E11:=D11.blk;clear D11
  refine L.nil (hX _ _ ⟨.inr G2,?_⟩)
  refine D.one 3 rfl (by kernel_rfl) (fun hX=>?_)
  refine L.c rfl (c_rat_Div (qa:=(-x)) (qb:=(QR.val b)) (rv_toL _) rfl I43 H43 I8 H8 hbd (Nat.le_trans F43.1 (by decide)) (Nat.le_trans F43.2 (by decide)) (Nat.le_trans hsb.1 (by decide)) (Nat.le_trans hsb.2 (by decide))) ?_
  rintro _ w24 ⟨v45,rfl,⟨A45,c45,B45,e45,rfl,I45,H45⟩,C24⟩
  replace E6:=E6.gr C24;replace C0:=C0.trans C24;replace E11:=E11.gr C24;replace G2:=G2.trans C24;clear C24;have F45:=Fit.div F43 Fb (by decide)
  refine L.nil (hX _ _ ⟨.inr G2,?_⟩)
  refine D.z 4 rfl (by kernel_rfl) rfl G2<|D.t 5 rfl (by kernel_rfl) (fun _ hS=>R1.extract rfl rfl) G2<|D.t 6 rfl (by kernel_rfl) (fun _ hS=>R1.extract rfl rfl) G2<|D.one 8 rfl (by kernel_rfl) (fun hX=>?_)
  refine L.storeBox rfl rfl E11 rfl rfl tyG40 ?_
  intro w25 E11' C25
  replace G2:=G2.old1 C25 hgs_g11;replace E6:=E6.fr C25;replace C0:=C0.old1 C25 K11;replace I45:=I45.ms C25;replace H45:=H45.ms C25;clear C25;replace E11:=E11'; clear E11'
  refine L.nil (hX _ _ ⟨.inr G2,?_⟩)
  refine D.t 9 rfl (by kernel_rfl) (fun _ hS=>R1.assign rfl) G2<|D.done (by decide +kernel) ?_ _
  refine X.seq<|W.sr<|L.v (R1.loadBox rfl E11 tyG40) rfl<|L.storeBox rfl rfl E6 rfl rfl tyG40 ?_
  intro w26 E6' C26
  replace C0:=C0.old1 C26 K6;replace I45:=I45.ms C26;replace H45:=H45.ms C26;clear C26;replace E6:=E6'; clear E6'
  refine L.z<|W.ret<|X.result1 rfl (.cell rfl (loadVar_blk E6 tyG40) .nil) ?_
  have he9:toldV c v val=((-x) / QR.val b):=by unfold toldV; rw [← hx,← hb]
  rw [he9]
  exact ⟨RN.mk rfl (I45.su) (H45.su),Fit.mono F45 (by decide),C0⟩
 refine ⟨_,rfl,fun hX=>?_⟩
 refine L.alloc tyZ40 rfl ?_
 intro g11 w27 D11
 have hgs_g11:=New.ge D11 G2.size;replace G2:=G2.trans D11.mod;replace I7:=I7.new D11;replace H7:=H7.new D11;replace I8:=I8.new D11;replace H8:=H8.new D11;have hne_g6_g11:=E6.ne_ D11;replace E6:=E6.gr D11.mod;replace hbd:=hbd.new D11;have K11:=New.ge D11 C0.size;replace C0:=C0.tn D11;have E11:=D11.blk;clear D11
 refine L.nil (hX _ _ ⟨.inr G2,?_⟩)
 refine D.one 1 rfl (by kernel_rfl) (fun hX=>?_)
 refine L.c rfl (c_rat_Neg (q:=x) (rv_toL _) I7 H7 hbd (Nat.le_trans Fx.1 (by omega)) (Nat.le_trans Fx.2 (by omega))) ?_
 rintro _ w28 ⟨⟨A43,c43,B43,e43,rfl,I43,H43⟩,C28⟩
 replace I8:=I8.gr C28;replace H8:=H8.gr C28;replace E6:=E6.gr C28;replace hbd:=hbd.gr C28;replace C0:=C0.trans C28;replace E11:=E11.gr C28;replace G2:=G2.trans C28;clear C28;have F43:=Fit.neg Fx
 refine L.nil (hX _ _ ⟨.inr G2,?_⟩)
 refine D.one 3 rfl (by kernel_rfl) (fun hX=>?_)
 refine L.c rfl (c_rat_Div (qa:=(-x)) (qb:=(QR.val b)) (rv_toL _) rfl I43 H43 I8 H8 hbd (Nat.le_trans F43.1 (by decide)) (Nat.le_trans F43.2 (by decide)) (Nat.le_trans hsb.1 (by decide)) (Nat.le_trans hsb.2 (by decide))) ?_
 rintro _ w29 ⟨v45,rfl,⟨A45,c45,B45,e45,rfl,I45,H45⟩,C29⟩
 replace E6:=E6.gr C29;replace C0:=C0.trans C29;replace E11:=E11.gr C29;replace G2:=G2.trans C29;clear C29;have F45:=Fit.div F43 Fb (by decide)
 refine L.nil (hX _ _ ⟨.inr G2,?_⟩)
 refine D.z 4 rfl (by kernel_rfl) rfl G2<|D.t 5 rfl (by kernel_rfl) (fun _ hS=>R1.extract rfl rfl) G2<|D.t 6 rfl (by kernel_rfl) (fun _ hS=>R1.extract rfl rfl) G2<|D.one 8 rfl (by kernel_rfl) (fun hX=>?_)
 refine L.storeBox rfl rfl E11 rfl rfl tyG40 ?_
 intro w30 E11' C30
 replace G2:=G2.old1 C30 hgs_g11;replace E6:=E6.fr C30;replace C0:=C0.old1 C30 K11;replace I45:=I45.ms C30;replace H45:=H45.ms C30;clear C30;replace E11:=E11'; clear E11'
 refine L.nil (hX _ _ ⟨.inr G2,?_⟩)
 refine D.t 9 rfl (by kernel_rfl) (fun _ hS=>R1.assign rfl) G2<|D.done (by decide +kernel) ?_ _
 refine X.seq<|W.sr<|L.v (R1.loadBox rfl E11 tyG40) rfl<|L.storeBox rfl rfl E6 rfl rfl tyG40 ?_
 intro w31 E6' C31
 replace C0:=C0.old1 C31 K6;replace I45:=I45.ms C31;replace H45:=H45.ms C31;clear C31;replace E6:=E6'; clear E6'
 refine L.z<|W.ret<|X.result1 rfl (.cell rfl (loadVar_blk E6 tyG40) .nil) ?_
 have he9:toldV c v val=((-x) / QR.val b):=by unfold toldV; rw [← hx,← hb]
 rw [he9]
 exact ⟨RN.mk rfl (I45.su) (H45.su),Fit.mono F45 (by decide),C0⟩
set_option maxHeartbeats 1000000 in
theorem c_told {M N9 : List Nat} {w : World} {c : CR} {vt vn vd : Value} (ht : Lay rdT N9 w vt c.ts) (h : U32 N9 w vn c.k.n) (k : U32 N9 w vd c.k.d) {N8 : List Nat} {vv : Value} {val : List QR} {v : Int} (hv : Lay rdQ N8 w vv val) (hbd : Bd M w) (hsm : SmC 10000 c) (hsv : ∀ q ∈ val, SmQ 10000 q) (hC : isC c (val.length : Int) = true) :
    Ret Tryz.prog 54 #[.agg #[.int .i64 c.st,vt,.bool c.k.s,vn,vd],.int .i64 v,vv] w (fun r w'=>RN M w' r (toldV c v val)∧Fit (toldV c v val) 4000000000∧Mod [] w w'):=by
 obtain ⟨T9,t9,rfl⟩:=ht.form;obtain ⟨A9,c9,rfl⟩:=h.form;obtain ⟨B9,e9,rfl⟩:=k.form;have hlt:=hsm.1;have FK:=fit_sm h k hsm.2.1
 refine Ret.of (vs:=[.agg #[.int .i64 c.st,.slice T9 c.ts.length t9,.bool c.k.s,.slice A9 c.k.n.length c9,.slice B9 c.k.d.length e9],.int .i64 v,vv]) (n:=57) Tryz.func54 rfl rfl rfl rfl ?_
 have C0:Mod [] w w:=Mod.refl _ _
 refine W.sr<|L.box rfl rfl ?_
 intro g3 w1 D3
 replace ht:=ht.new D3;replace h:=h.new D3;replace k:=k.new D3;replace hv:=hv.new D3;replace hbd:=hbd.new D3;have K3:=New.ge D3 C0.size;replace C0:=C0.tn D3;have E3:=D3.blk;clear D3
 refine L.alloc tyZ40 rfl ?_
 intro g6 w2 D6
 replace ht:=ht.new D6;replace h:=h.new D6;replace k:=k.new D6;replace hv:=hv.new D6;replace hbd:=hbd.new D6;have K6:=New.ge D6 C0.size;replace C0:=C0.tn D6;have hne_g3_g6:=E3.ne_ D6;replace E3:=E3.gr D6.mod;have E6:=D6.blk;clear D6
 refine L.z<|W.sr<|L.c rfl (c_ref2_Int (n:=1) (by decide) (by decide) hbd) ?_
 rintro _ w3 ⟨⟨A12,c12,B12,e12,rfl,I12,H12⟩,C3⟩
 replace ht:=ht.gr C3;replace h:=h.gr C3;replace k:=k.gr C3;replace hv:=hv.gr C3;replace hbd:=hbd.gr C3;replace C0:=C0.trans C3;replace E3:=E3.gr C3;replace E6:=E6.gr C3;clear C3;have F12:=Fit.int (n:=1) (by decide) (by decide)
 refine L.alloc tyZ40 rfl ?_
 intro g7 w4 D7
 replace ht:=ht.new D7;replace h:=h.new D7;replace k:=k.new D7;replace hv:=hv.new D7;replace hbd:=hbd.new D7;have K7:=New.ge D7 C0.size;replace C0:=C0.tn D7;have hne_g3_g7:=E3.ne_ D7;replace E3:=E3.gr D7.mod;have hne_g6_g7:=E6.ne_ D7;replace E6:=E6.gr D7.mod;replace I12:=I12.new D7;replace H12:=H12.new D7;have E7:=D7.blk;clear D7
 refine L.storeBox rfl rfl E7 rfl rfl tyG40 ?_
 intro w5 E7' C5
 replace ht:=ht.ms C5;replace h:=h.ms C5;replace k:=k.ms C5;replace hv:=hv.ms C5;replace hbd:=hbd.gr C5;replace C0:=C0.old1 C5 K7;replace E3:=E3.fr C5;replace E6:=E6.fr C5;replace I12:=I12.ms C5;replace H12:=H12.ms C5;clear C5;replace E7:=E7'; clear E7'
 refine L.z<|W.sr<|L.fA rfl tyF42_2<|L.v (R1.loadBoxAt (ds:=[.bool c.k.s,.slice A9 c.k.n.length c9,.slice B9 c.k.d.length e9]) rfl E3 rfl tyG40) rfl<|L.v (R1.build (vs:=[.agg #[.bool c.k.s,.slice A9 c.k.n.length c9,.slice B9 c.k.d.length e9]]) rfl (built_C2 _ _ _ _ _ _ _)) rfl<|L.alloc tyZ42 rfl ?_
 intro g8 w6 D8
 replace ht:=ht.new D8;replace h:=h.new D8;replace k:=k.new D8;replace hv:=hv.new D8;replace hbd:=hbd.new D8;have K8:=New.ge D8 C0.size;replace C0:=C0.tn D8;have hne_g3_g8:=E3.ne_ D8;replace E3:=E3.gr D8.mod;have hne_g6_g8:=E6.ne_ D8;replace E6:=E6.gr D8.mod;replace I12:=I12.new D8;replace H12:=H12.new D8;have hne_g7_g8:=E7.ne_ D8;replace E7:=E7.gr D8.mod;have E8:=D8.blk;clear D8
 refine L.storeBox rfl rfl E8 rfl rfl tyG42 ?_
 intro w7 E8' C7
 replace ht:=ht.ms C7;replace h:=h.ms C7;replace k:=k.ms C7;replace hv:=hv.ms C7;replace hbd:=hbd.gr C7;replace C0:=C0.old1 C7 K8;replace E3:=E3.fr C7;replace E6:=E6.fr C7;replace I12:=I12.ms C7;replace H12:=H12.ms C7;replace E7:=E7.fr C7;clear C7;replace E8:=E8'; clear E8'
 refine L.z<|W.seq<|W.sr<|L.b rfl<|L.z<|W.block<|W.loop (ι:=Nat × Value × List (List Value) × QR × Option Addr × Nat × Option Addr × Nat) (fun (i,u,css,b,A7,c7,B7,e7)=>[(1,.int .i64 v),(2,vv),(3,.pointer (some ⟨g3,0,none⟩)),(6,.pointer (some ⟨g6,0,none⟩)),(7,.pointer (some ⟨g7,0,none⟩)),(8,.pointer (some ⟨g8,0,none⟩)),(9,.int .i64 ((i:Nat):Int))]) (fun (i,u,css,b,A7,c7,B7,e7) w_=>Lay rdT (ownL u ++ (g8 :: g7 :: g6 :: g3 :: N9)) w_ (.slice T9 c.ts.length t9) c.ts∧U32 (ownL u ++ (g8 :: g7 :: g6 :: g3 :: N9)) w_ (.slice A9 c.k.n.length c9) c.k.n∧U32 (ownL u ++ (g8 :: g7 :: g6 :: g3 :: N9)) w_ (.slice B9 c.k.d.length e9) c.k.d∧Lay rdQ (ownL u ++ (g8 :: g7 :: g6 :: g3 :: N8)) w_ vv val∧U32 (ownL u ++ (g8 :: g7 :: g6 :: g3 :: [])) w_ (.slice A7 b.n.length c7) b.n∧U32 (ownL u ++ (g8 :: g7 :: g6 :: g3 :: [])) w_ (.slice B7 b.d.length e7) b.d∧Blk w_ g3 42 #[.int .i64 c.st,.slice T9 c.ts.length t9,.bool c.k.s,.slice A9 c.k.n.length c9,.slice B9 c.k.d.length e9]∧Blk w_ g7 40 #[.bool b.s,.slice A7 b.n.length c7,.slice B7 b.d.length e7]∧Blk w_ g8 42 #[.int .i64 0,u,.bool c.k.s,.slice A9 c.k.n.length c9,.slice B9 c.k.d.length e9]∧Blk w_ g6 40 #[.bool false,.slice none 0 0,.slice none 0 0]∧w_.ownsRow w.heap.size 47 4 u (othT (c.ts.take i) v).length css.flatten∧LayL rdT (ownL u ++ (g8 :: g7 :: g6 :: g3 :: N9)) w_ css (othT (c.ts.take i) v)∧u.ownBlock≠some g3∧u.ownBlock≠some g6∧u.ownBlock≠some g7∧u.ownBlock≠some g8∧w.heap.size≤g6∧w.heap.size≤g7∧w.heap.size≤g8∧g6≠g7∧g6≠g8∧g7≠g8∧w.heap.size≤g3∧g3≠g6∧g3≠g7∧g3≠g8∧i≤c.ts.length∧b=byQ (c.ts.take i) v∧SmQ 10000 b∧Bd (ownL u ++ (g8 :: g7 :: g6 :: g3 :: M)) w_∧Mod [] w w_) (fun (i,u,css,b,A7,c7,B7,e7)=>c.ts.length - i) (0,.slice none 0 0,[],QR.nf ((1:Int):Rat),A12,c12,B12,e12) ?_ ?_ ?_
 · repeat' constructor
 ·
  exact ⟨ht.su,h.su,k.su,hv.su,I12.su,H12.su,E3,E7,E8,E6,own_nil _ _ _ _,LayL.nil,(fun h=>by cases h),(fun h=>by cases h),(fun h=>by cases h),(fun h=>by cases h),K6,K7,K8,hne_g6_g7,hne_g6_g8,hne_g7_g8,K3,hne_g3_g6,hne_g3_g7,hne_g3_g8,Nat.zero_le _,rfl,nf1_sm,hbd.su,C0⟩
 rintro ⟨i,u,css,b,A7,c7,B7,e7⟩ w8 ⟨ht,h,k,hv,I7,H7,E3,E7,E8,E6,ho,hl,hno_ho_g3,hno_ho_g6,hno_ho_g7,hno_ho_g8,K6,K7,K8,hne_g6_g7,hne_g6_g8,hne_g7_g8,K3,hne_g3_g6,hne_g3_g7,hne_g3_g8,hi,hb,hsb,hbd,C0⟩
 refine W.seq<|W.sr<|L.k rfl<|L.fA rfl tyF42_1<|L.lF rfl E3 rfl tyP37<|L.lL rfl ht Q37<|L.lt rfl rfl<|L.z<|W.cond rfl ?_ ?_
 ·
  intro J20
  try simp only [bq,ne_eq] at J20
  refine W.skip<|X.seq<|W.seq<|W.block<|W.sr<|L.fA rfl tyF42_1<|L.lF rfl E3 rfl tyP37<|L.k rfl<|L.aL (j:=i) rfl rfl ht Q37 rfl (by omega)<|L.v (R1.fieldAddr rfl tyF47_0) rfl ?_
  obtain ⟨z28,cs28,P28,V28,ds28,rfl,vn28,vd28,rfl,I28,H28⟩:=Lay.elemQ ht (j:=i) (by omega);obtain ⟨A28,c28,rfl⟩:=I28.form;obtain ⟨B28,e28,rfl⟩:=H28.form
  refine L.v (R1.loadEF rfl V28 rfl tyP3) rfl<|L.k rfl<|L.v (R1.eq rfl rfl) rfl<|L.z<|W.cond rfl ?_ ?_
  ·
   intro J30
   try simp only [bq,ne_eq] at J30
   refine W.region<|L.fA rfl tyF42_1<|L.lF rfl E3 rfl tyP37<|L.k rfl<|L.aL (j:=i) rfl rfl ht Q37 rfl (by omega)<|L.v (R1.fieldAddr rfl tyF47_1) rfl ?_
   obtain ⟨z36,cs36,P36,V36,ds36,rfl,vn36,vd36,rfl,I36,H36⟩:=Lay.elemQ ht (j:=i) (by omega);obtain ⟨A36,c36,rfl⟩:=I36.form;obtain ⟨B36,e36,rfl⟩:=H36.form
   obtain rfl:z28=z36:=by have h9:=P36; rw [P28] at h9; injection h9
   refine L.v (R1.loadEA (ds:=[.bool z28.c.s,.slice A36 z28.c.n.length c36,.slice B36 z28.c.d.length e36]) rfl V36 rfl tyG40) rfl<|L.storeBox rfl rfl E7 rfl rfl tyG40 ?_
   intro w9 E7' C9
   replace ht:=ht.ms C9;replace h:=h.ms C9;replace k:=k.ms C9;replace hv:=hv.ms C9;replace E3:=E3.fr C9;replace E8:=E8.fr C9;replace E6:=E6.fr C9;replace ho:=own_far ho C9 hno_ho_g7;replace hl:=hl.ms C9;replace hbd:=hbd.gr C9;replace C0:=C0.old1 C9 K7;replace I36:=I36.ms C9;replace H36:=H36.ms C9;clear C9;replace E7:=E7'; clear E7'
   refine L.nil<|X.blockEnd<|X.seq<|W.region<|L.k rfl<|L.inc rfl rfl (by omega)<|L.b rfl<|L.nil<|X.next (i + 1,u,css,z28.c,A36,c36,B36,e36) ?_ ?_ ?_
   · repeat' constructor
   ·
    exact ⟨ht.su,h.su,k.su,hv.su,I36.su,H36.su,E3,E7,E8,E6,own_congr ho (by rw [othT_snoc v P28,if_pos J30,List.append_nil]) rfl,by rw [othT_snoc v P28,if_pos J30,List.append_nil]; exact hl.su,hno_ho_g3,hno_ho_g6,hno_ho_g7,hno_ho_g8,K6,K7,K8,hne_g6_g7,hne_g6_g8,hne_g7_g8,K3,hne_g3_g6,hne_g3_g7,hne_g3_g8,by omega,by rw [byQ_snoc v P28,if_pos J30],hsm.2.2 _ (List.mem_of_getElem? P28),hbd.su,C0⟩
   first | omega | (dsimp only; omega)
  intro J30
  try simp only [bq,ne_eq] at J30
  refine W.drawW (T:=[8,9,10]) rfl (by decide +kernel) (NoHang.block (NoHang.then (NoHang.next (NoHang.block (NoHang.then NoHang.post))))) (fun w10 C10=>?_)
  replace ht:=ht.gr C10;replace h:=h.gr C10;replace k:=k.gr C10;replace hv:=hv.gr C10;replace I7:=I7.gr C10;replace H7:=H7.gr C10;replace E3:=E3.gr C10;replace E7:=E7.gr C10;replace E8:=E8.gr C10;replace E6:=E6.gr C10;replace ho:=own_gs ho C10;replace hl:=hl.gr C10;replace hbd:=hbd.gr C10;replace C0:=C0.trans C10;replace I28:=I28.gr C10;replace H28:=H28.gr C10
  have G1:Mod [] w10 w10:=Mod.refl _ _
  clear C10;have hb3_s:=E3;have hb8_s:=E8
  refine D.t 0 rfl (by kernel_rfl) (fun _ hS=>R1.fieldAt rfl tyF42_1) G1<|D.t 1 rfl (by kernel_rfl) (fun _ hS=>(R1.loadFld rfl (hb8_s.gr hS) rfl tyP37).asV (v:=u) rfl) G1<|D.t 2 rfl (by kernel_rfl) (fun _ hS=>R1.fieldAt rfl tyF42_1) G1<|D.t 3 rfl (by kernel_rfl) (fun _ hS=>R1.loadFld rfl (hb3_s.gr hS) rfl tyP37) G1<|D.z 4 rfl (by kernel_rfl) rfl G1<|D.t 5 rfl (by kernel_rfl) (fun _ hS=>R1.atLay (j:=i) rfl rfl (Lay.gr ht hS) Q37 rfl (by omega)) G1 ?_
  obtain ⟨z43,cs43,P43,V43,ds43,rfl,vn43,vd43,rfl,I43,H43⟩:=Lay.elemQ ht (j:=i) (by omega);obtain ⟨A43,c43,rfl⟩:=I43.form;obtain ⟨B43,e43,rfl⟩:=H43.form
  obtain rfl:z28=z43:=by have h9:=P43; rw [P28] at h9; injection h9
  refine D.t 6 rfl (by kernel_rfl) (fun _ hS=>R1.loadE rfl (SlE.gr V43 hS) tyG47) G1<|D.one 7 rfl (by kernel_rfl) (fun hX=>?_)
  refine L.buildSlice (cells:=[.int .i64 z28.v,.bool z28.c.s,.slice A43 z28.c.n.length c43,.slice B43 z28.c.d.length e43]) rfl Q37 tyZ47 (fillN1 _ _ _ _ _ _ _ _) (by decide) (by decide) rfl ?_
  intro g44 w11 D44
  replace ht:=ht.gr D44.mod;replace h:=h.gr D44.mod;replace k:=k.gr D44.mod;replace hv:=hv.gr D44.mod;replace I7:=I7.gr D44.mod;replace H7:=H7.gr D44.mod;replace E3:=E3.gr D44.mod;replace E7:=E7.gr D44.mod;replace E8:=E8.gr D44.mod;replace E6:=E6.gr D44.mod;replace ho:=own_gs ho D44.mod;replace hl:=hl.gr D44.mod;replace hbd:=hbd.gr D44.mod;replace C0:=C0.trans D44.mod;replace I28:=I28.gr D44.mod;replace H28:=H28.gr D44.mod;replace I43:=I43.gr D44.mod;replace H43:=H43.gr D44.mod;replace G1:=G1.trans D44.mod
  have hrow:Sl [] w11 4 (.slice (some ⟨g44,0,none⟩) 1 1) 1 [.int .i64 z28.v,.bool z28.c.s,.slice A43 z28.c.n.length c43,.slice B43 z28.c.d.length e43]:=Sl.of_blk D44.blk 0 (Nat.le_refl _) (by decide) rfl (by simp) (fun j hj=>by simp)
  clear D44
  refine L.nil (hX _ _ ⟨.inr G1,?_⟩)
  have hfl:=othT_len (c.ts.take i) v
  rw [List.length_take] at hfl
  refine D.one 8 rfl (by kernel_rfl) (fun hX=>?_)
  refine L.append rfl rfl ho hrow (by intro c hc; simp only [List.mem_cons,List.not_mem_nil,or_false] at hc; rcases hc with rfl | rfl | rfl | rfl <;> rfl) Q37 tyZ47 (by omega) (by unfold maxLen; omega) C0.size rfl ?_
  intro v45 w12 O45' X45
  replace ht:=ht.gw X45;replace h:=h.gw X45;replace k:=k.gw X45;replace hv:=hv.gw X45;replace I7:=I7.gw X45;replace H7:=H7.gw X45;have hnn_g3:=X45.ne hno_ho_g3 E3;replace E3:=Blk.grew E3 X45 hno_ho_g3;replace hno_ho_g3:=hnn_g3;have hnn_g7:=X45.ne hno_ho_g7 E7;replace E7:=Blk.grew E7 X45 hno_ho_g7;replace hno_ho_g7:=hnn_g7;have hnn_g8:=X45.ne hno_ho_g8 E8;replace E8:=Blk.grew E8 X45 hno_ho_g8;replace hno_ho_g8:=hnn_g8;have hnn_g6:=X45.ne hno_ho_g6 E6;replace E6:=Blk.grew E6 X45 hno_ho_g6;replace hno_ho_g6:=hnn_g6;replace hl:=hl.gw X45;replace hbd:=hbd.gw X45;replace C0:=Mod.oldOwn C0 X45.mod ho;replace I28:=I28.gw X45;replace H28:=H28.gw X45;replace I43:=I43.gw X45;replace H43:=H43.gw X45;replace ho:=O45'; clear O45';clear X45
  refine L.nil (hX _ _ ⟨.inl rfl,?_⟩)
  refine D.one 9 rfl (by kernel_rfl) (fun hX=>?_)
  refine L.fA rfl tyF42_1 (L.nil (hX _ _ ⟨.inl rfl,?_⟩))
  refine D.one 10 rfl (by kernel_rfl) (fun hX=>?_)
  refine L.store rfl rfl E8 (show 1<5 by decide) (own_one ho) tyP37 ?_
  intro w13 E8' C13
  replace ht:=ht.ms C13;replace h:=h.ms C13;replace k:=k.ms C13;replace hv:=hv.ms C13;replace I7:=I7.ms C13;replace H7:=H7.ms C13;replace E3:=E3.fr C13;replace E7:=E7.fr C13;replace E6:=E6.fr C13;replace ho:=own_far ho C13 hno_ho_g8;replace hl:=hl.ms C13;replace hbd:=hbd.gr C13;replace C0:=C0.old1 C13 K8;replace I43:=I43.ms C13;replace H43:=H43.ms C13;clear C13;replace E8:=E8'; clear E8'
  refine L.nil (hX _ _ ⟨.inl rfl,?_⟩)
  refine D.done (by decide +kernel) ?_ _
  refine X.blockEnd<|X.seq<|W.region<|L.k rfl<|L.inc rfl rfl (by omega)<|L.b rfl<|L.nil<|X.next (i + 1,v45,css ++ [[.int .i64 z28.v,.bool z28.c.s,.slice A43 z28.c.n.length c43,.slice B43 z28.c.d.length e43]],b,A7,c7,B7,e7) ?_ ?_ ?_
  · repeat' constructor
  ·
   exact ⟨ht.su,h.su,k.su,hv.su,I7.su,H7.su,E3,E7,E8,E6,own_congr ho (by rw [othT_snoc v P28,if_neg J30] <;> simp) (by simp),by rw [othT_snoc v P28,if_neg J30]; exact (hl.su).append (LayL.one _ z28 (rdT_mk (I43.su) (H43.su))),hno_ho_g3,hno_ho_g6,hno_ho_g7,hno_ho_g8,K6,K7,K8,hne_g6_g7,hne_g6_g8,hne_g7_g8,K3,hne_g3_g6,hne_g3_g7,hne_g3_g8,by omega,by rw [byQ_snoc v P28,if_neg J30]; exact hb,hsb,hbd.su,C0⟩
  first | omega | (dsimp only; omega)
 intro J20
 try simp only [bq,ne_eq] at J20
 obtain rfl:i=c.ts.length:=by omega
 rw [List.take_length] at ho hl hb
 have Fb:=fit_sm I7 H7 hsb
 refine W.brk<|W.seq<|W.drawW (T:=[]) rfl (by decide +kernel) (NoHang.then NoHang.post) (fun w14 C14=>?_)
 replace h:=h.gr C14;replace k:=k.gr C14;replace hv:=hv.gr C14;replace I7:=I7.gr C14;replace H7:=H7.gr C14;replace E7:=E7.gr C14;replace E8:=E8.gr C14;replace E6:=E6.gr C14;replace ho:=own_gs ho C14;replace hl:=hl.gr C14;replace hbd:=hbd.gr C14;replace C0:=C0.trans C14
 have G2:Mod [] w14 w14:=Mod.refl _ _
 clear C14;have hb7_s:=E7;have hb8_s:=E8
 refine D.t 0 rfl (by kernel_rfl) (fun _ hS=>R1.loadBox rfl (hb8_s.gr hS) tyG42) G2<|D.z 1 rfl (by kernel_rfl) rfl G2<|D.t 4 rfl (by kernel_rfl) (fun _ hS=>R1.loadBox rfl (hb7_s.gr hS) tyG40) G2<|D.many (rs:=[2,9]) (by decide +kernel) rfl ?_
 intro i_ hi_
 simp only [List.mem_cons,List.not_mem_nil,or_false] at hi_
 rcases hi_ with rfl | rfl
 ·
  refine ⟨_,rfl,fun hX=>?_⟩
  have hT9:Lay rdT [] _ u (othT c.ts v):=Lay.of_own ho (hl.sub (by simp)) (by simp)
  have h9_:U32 [] _ (.slice A9 c.k.n.length c9) c.k.n:=h.sub (by simp)
  have k9_:U32 [] _ (.slice B9 c.k.d.length e9) c.k.d:=k.sub (by simp)
  have hsm9:SmC 10000 (⟨0,othT c.ts v,c.k⟩:CR):=⟨Nat.le_trans (othT_len _ _) hsm.1,hsm.2.1,fun t Y9=>hsm.2.2 t (List.mem_filter.1 Y9).1⟩
  have hF9:=at_fit (c:=⟨0,othT c.ts v,c.k⟩) hT9 h9_ k9_ hv hsm9 hsv
  refine L.c rfl (c_ref8_At (c:=⟨0,othT c.ts v,c.k⟩) hT9 h9_ k9_ hv hbd hsm9 hsv) ?_
  rintro _ w15 ⟨⟨A50,c50,B50,e50,rfl,I50,H50⟩,C15⟩
  replace k:=k.gr C15;replace I7:=I7.gr C15;replace H7:=H7.gr C15;replace E6:=E6.gr C15;replace hbd:=hbd.gr C15;replace C0:=C0.trans C15;replace G2:=G2.trans C15;clear C15
  have F50:Fit (atG val (othT c.ts v) (QR.val c.k)) 1000000000:=hF9
  refine L.nil (hX _ _ ⟨.inr G2,?_⟩)
  refine D.many (rs:=[3,9]) (by decide +kernel) rfl ?_
  intro i_ hi_
  simp only [List.mem_cons,List.not_mem_nil,or_false] at hi_
  rcases hi_ with rfl | rfl
  ·
   refine ⟨_,rfl,fun hX=>?_⟩
   refine L.c rfl (c_ref2_Neg (q:=(atG val (othT c.ts v) (QR.val c.k))) (rv_toL _) I50 H50 hbd (Nat.le_trans F50.1 (by decide)) (Nat.le_trans F50.2 (by decide))) ?_
   rintro _ w16 ⟨⟨A51,c51,B51,e51,rfl,I51,H51⟩,C16⟩
   replace k:=k.gr C16;replace I7:=I7.gr C16;replace H7:=H7.gr C16;replace E6:=E6.gr C16;replace hbd:=hbd.gr C16;replace C0:=C0.trans C16;replace G2:=G2.trans C16;clear C16;have F51:=Fit.neg F50
   refine L.nil (hX _ _ ⟨.inr G2,?_⟩)
   refine D.many (rs:=[5,9]) (by decide +kernel) rfl ?_
   intro i_ hi_
   simp only [List.mem_cons,List.not_mem_nil,or_false] at hi_
   rcases hi_ with rfl | rfl
   ·
    refine ⟨_,rfl,fun hX=>?_⟩
    refine L.c rfl (c_ref2_Div (qa:=(-(atG val (othT c.ts v) (QR.val c.k)))) (qb:=(QR.val b)) (rv_toL _) rfl I51 H51 I7 H7 hbd (Nat.le_trans F51.1 (by decide)) (Nat.le_trans F51.2 (by decide)) (Nat.le_trans hsb.1 (by decide)) (Nat.le_trans hsb.2 (by decide))) ?_
    rintro _ w17 ⟨v53,rfl,⟨A53,c53,B53,e53,rfl,I53,H53⟩,C17⟩
    replace k:=k.gr C17;replace E6:=E6.gr C17;replace C0:=C0.trans C17;replace G2:=G2.trans C17;clear C17;have F53:=Fit.div F51 Fb (by decide)
    refine L.nil (hX _ _ ⟨.inr G2,?_⟩)
    refine D.z 6 rfl (by kernel_rfl) rfl G2<|D.t 7 rfl (by kernel_rfl) (fun _ hS=>R1.extract rfl rfl) G2<|D.t 8 rfl (by kernel_rfl) (fun _ hS=>R1.extract rfl rfl) G2<|D.one 9 rfl (by kernel_rfl) (fun hX=>?_)
    refine L.alloc tyZ40 rfl ?_
    intro g10 w18 D10
    have hgs_g10:=New.ge D10 G2.size;replace G2:=G2.trans D10.mod;replace k:=k.new D10;have hne_g6_g10:=E6.ne_ D10;replace E6:=E6.gr D10.mod;have K10:=New.ge D10 C0.size;replace C0:=C0.tn D10;replace I53:=I53.new D10;replace H53:=H53.new D10;have E10:=D10.blk;clear D10
    refine L.nil (hX _ _ ⟨.inr G2,?_⟩)
    refine D.one 10 rfl (by kernel_rfl) (fun hX=>?_)
    refine L.storeBox rfl rfl E10 rfl rfl tyG40 ?_
    intro w19 E10' C19
    replace G2:=G2.old1 C19 hgs_g10;replace k:=k.ms C19;replace E6:=E6.fr C19;replace C0:=C0.old1 C19 K10;replace I53:=I53.ms C19;replace H53:=H53.ms C19;clear C19;replace E10:=E10'; clear E10'
    refine L.nil (hX _ _ ⟨.inr G2,?_⟩)
    refine D.t 11 rfl (by kernel_rfl) (fun _ hS=>R1.assign rfl) G2<|D.done (by decide +kernel) ?_ _
    refine X.seq<|W.sr<|L.v (R1.loadBox rfl E10 tyG40) rfl<|L.storeBox rfl rfl E6 rfl rfl tyG40 ?_
    intro w20 E6' C20
    replace k:=k.ms C20;replace C0:=C0.old1 C20 K6;replace I53:=I53.ms C20;replace H53:=H53.ms C20;clear C20;replace E6:=E6'; clear E6'
    refine L.z<|W.ret<|X.result1 rfl (.cell rfl (loadVar_blk E6 tyG40) .nil) ?_
    have he9:toldV c v val=((-(atG val (othT c.ts v) (QR.val c.k))) / QR.val b):=by unfold toldV; rw [← hb]
    rw [he9]
    exact ⟨RN.mk rfl (I53.su) (H53.su),Fit.mono F53 (by decide),C0⟩
   refine ⟨_,rfl,fun hX=>?_⟩
   refine L.alloc tyZ40 rfl ?_
   intro g10 w21 D10
   have hgs_g10:=New.ge D10 G2.size;replace G2:=G2.trans D10.mod;replace k:=k.new D10;replace I7:=I7.new D10;replace H7:=H7.new D10;have hne_g6_g10:=E6.ne_ D10;replace E6:=E6.gr D10.mod;replace hbd:=hbd.new D10;have K10:=New.ge D10 C0.size;replace C0:=C0.tn D10;replace I51:=I51.new D10;replace H51:=H51.new D10;have E10:=D10.blk;clear D10
   refine L.nil (hX _ _ ⟨.inr G2,?_⟩)
   refine D.one 5 rfl (by kernel_rfl) (fun hX=>?_)
   refine L.c rfl (c_ref2_Div (qa:=(-(atG val (othT c.ts v) (QR.val c.k)))) (qb:=(QR.val b)) (rv_toL _) rfl I51 H51 I7 H7 hbd (Nat.le_trans F51.1 (by decide)) (Nat.le_trans F51.2 (by decide)) (Nat.le_trans hsb.1 (by decide)) (Nat.le_trans hsb.2 (by decide))) ?_
   rintro _ w22 ⟨v53,rfl,⟨A53,c53,B53,e53,rfl,I53,H53⟩,C22⟩
   replace k:=k.gr C22;replace E6:=E6.gr C22;replace C0:=C0.trans C22;replace E10:=E10.gr C22;replace G2:=G2.trans C22;clear C22;have F53:=Fit.div F51 Fb (by decide)
   refine L.nil (hX _ _ ⟨.inr G2,?_⟩)
   refine D.z 6 rfl (by kernel_rfl) rfl G2<|D.t 7 rfl (by kernel_rfl) (fun _ hS=>R1.extract rfl rfl) G2<|D.t 8 rfl (by kernel_rfl) (fun _ hS=>R1.extract rfl rfl) G2<|D.one 10 rfl (by kernel_rfl) (fun hX=>?_)
   refine L.storeBox rfl rfl E10 rfl rfl tyG40 ?_
   intro w23 E10' C23
   replace G2:=G2.old1 C23 hgs_g10;replace k:=k.ms C23;replace E6:=E6.fr C23;replace C0:=C0.old1 C23 K10;replace I53:=I53.ms C23;replace H53:=H53.ms C23;clear C23;replace E10:=E10'; clear E10'
   refine L.nil (hX _ _ ⟨.inr G2,?_⟩)
   refine D.t 11 rfl (by kernel_rfl) (fun _ hS=>R1.assign rfl) G2<|D.done (by decide +kernel) ?_ _
   refine X.seq<|W.sr<|L.v (R1.loadBox rfl E10 tyG40) rfl<|L.storeBox rfl rfl E6 rfl rfl tyG40 ?_
   intro w24 E6' C24
   replace k:=k.ms C24;replace C0:=C0.old1 C24 K6;replace I53:=I53.ms C24;replace H53:=H53.ms C24;clear C24;replace E6:=E6'; clear E6'
   refine L.z<|W.ret<|X.result1 rfl (.cell rfl (loadVar_blk E6 tyG40) .nil) ?_
   have he9:toldV c v val=((-(atG val (othT c.ts v) (QR.val c.k))) / QR.val b):=by unfold toldV; rw [← hb]
   rw [he9]
   exact ⟨RN.mk rfl (I53.su) (H53.su),Fit.mono F53 (by decide),C0⟩
  refine ⟨_,rfl,fun hX=>?_⟩
  refine L.alloc tyZ40 rfl ?_
  intro g10 w25 D10
  have hgs_g10:=New.ge D10 G2.size;replace G2:=G2.trans D10.mod;replace k:=k.new D10;replace I7:=I7.new D10;replace H7:=H7.new D10;have hne_g6_g10:=E6.ne_ D10;replace E6:=E6.gr D10.mod;replace hbd:=hbd.new D10;have K10:=New.ge D10 C0.size;replace C0:=C0.tn D10;replace I50:=I50.new D10;replace H50:=H50.new D10;have E10:=D10.blk;clear D10
  refine L.nil (hX _ _ ⟨.inr G2,?_⟩)
  refine D.one 3 rfl (by kernel_rfl) (fun hX=>?_)
  refine L.c rfl (c_ref2_Neg (q:=(atG val (othT c.ts v) (QR.val c.k))) (rv_toL _) I50 H50 hbd (Nat.le_trans F50.1 (by decide)) (Nat.le_trans F50.2 (by decide))) ?_
  rintro _ w26 ⟨⟨A51,c51,B51,e51,rfl,I51,H51⟩,C26⟩
  replace k:=k.gr C26;replace I7:=I7.gr C26;replace H7:=H7.gr C26;replace E6:=E6.gr C26;replace hbd:=hbd.gr C26;replace C0:=C0.trans C26;replace E10:=E10.gr C26;replace G2:=G2.trans C26;clear C26;have F51:=Fit.neg F50
  refine L.nil (hX _ _ ⟨.inr G2,?_⟩)
  refine D.one 5 rfl (by kernel_rfl) (fun hX=>?_)
  refine L.c rfl (c_ref2_Div (qa:=(-(atG val (othT c.ts v) (QR.val c.k)))) (qb:=(QR.val b)) (rv_toL _) rfl I51 H51 I7 H7 hbd (Nat.le_trans F51.1 (by decide)) (Nat.le_trans F51.2 (by decide)) (Nat.le_trans hsb.1 (by decide)) (Nat.le_trans hsb.2 (by decide))) ?_
  rintro _ w27 ⟨v53,rfl,⟨A53,c53,B53,e53,rfl,I53,H53⟩,C27⟩
  replace k:=k.gr C27;replace E6:=E6.gr C27;replace C0:=C0.trans C27;replace E10:=E10.gr C27;replace G2:=G2.trans C27;clear C27;have F53:=Fit.div F51 Fb (by decide)
  refine L.nil (hX _ _ ⟨.inr G2,?_⟩)
  refine D.z 6 rfl (by kernel_rfl) rfl G2<|D.t 7 rfl (by kernel_rfl) (fun _ hS=>R1.extract rfl rfl) G2<|D.t 8 rfl (by kernel_rfl) (fun _ hS=>R1.extract rfl rfl) G2<|D.one 10 rfl (by kernel_rfl) (fun hX=>?_)
  refine L.storeBox rfl rfl E10 rfl rfl tyG40 ?_
  intro w28 E10' C28
  replace G2:=G2.old1 C28 hgs_g10;replace k:=k.ms C28;replace E6:=E6.fr C28;replace C0:=C0.old1 C28 K10;replace I53:=I53.ms C28;replace H53:=H53.ms C28;clear C28;replace E10:=E10'; clear E10'
  refine L.nil (hX _ _ ⟨.inr G2,?_⟩)
  refine D.t 11 rfl (by kernel_rfl) (fun _ hS=>R1.assign rfl) G2<|D.done (by decide +kernel) ?_ _
  refine X.seq<|W.sr<|L.v (R1.loadBox rfl E10 tyG40) rfl<|L.storeBox rfl rfl E6 rfl rfl tyG40 ?_
  intro w29 E6' C29
  replace k:=k.ms C29;replace C0:=C0.old1 C29 K6;replace I53:=I53.ms C29;replace H53:=H53.ms C29;clear C29;replace E6:=E6'; clear E6'
  refine L.z<|W.ret<|X.result1 rfl (.cell rfl (loadVar_blk E6 tyG40) .nil) ?_
  have he9:toldV c v val=((-(atG val (othT c.ts v) (QR.val c.k))) / QR.val b):=by unfold toldV; rw [← hb]
  rw [he9]
  exact ⟨RN.mk rfl (I53.su) (H53.su),Fit.mono F53 (by decide),C0⟩
 refine ⟨_,rfl,fun hX=>?_⟩
 refine L.alloc tyZ40 rfl ?_
 intro g10 w30 D10
 have hgs_g10:=New.ge D10 G2.size;replace G2:=G2.trans D10.mod;replace h:=h.new D10;replace k:=k.new D10;replace hv:=hv.new D10;replace I7:=I7.new D10;replace H7:=H7.new D10;have hne_g6_g10:=E6.ne_ D10;replace E6:=E6.gr D10.mod;replace ho:=own_gs ho D10.mod;replace hl:=hl.new D10;replace hbd:=hbd.new D10;have K10:=New.ge D10 C0.size;replace C0:=C0.tn D10;have E10:=D10.blk;clear D10
 refine L.nil (hX _ _ ⟨.inr G2,?_⟩)
 refine D.one 2 rfl (by kernel_rfl) (fun hX=>?_)
 have hT9:Lay rdT [] _ u (othT c.ts v):=Lay.of_own ho (hl.sub (by simp)) (by simp)
 have h9_:U32 [] _ (.slice A9 c.k.n.length c9) c.k.n:=h.sub (by simp)
 have k9_:U32 [] _ (.slice B9 c.k.d.length e9) c.k.d:=k.sub (by simp)
 have hsm9:SmC 10000 (⟨0,othT c.ts v,c.k⟩:CR):=⟨Nat.le_trans (othT_len _ _) hsm.1,hsm.2.1,fun t Y9=>hsm.2.2 t (List.mem_filter.1 Y9).1⟩
 have hF9:=at_fit (c:=⟨0,othT c.ts v,c.k⟩) hT9 h9_ k9_ hv hsm9 hsv
 refine L.c rfl (c_ref8_At (c:=⟨0,othT c.ts v,c.k⟩) hT9 h9_ k9_ hv hbd hsm9 hsv) ?_
 rintro _ w31 ⟨⟨A50,c50,B50,e50,rfl,I50,H50⟩,C31⟩
 replace k:=k.gr C31;replace I7:=I7.gr C31;replace H7:=H7.gr C31;replace E6:=E6.gr C31;replace hbd:=hbd.gr C31;replace C0:=C0.trans C31;replace E10:=E10.gr C31;replace G2:=G2.trans C31;clear C31
 have F50:Fit (atG val (othT c.ts v) (QR.val c.k)) 1000000000:=hF9
 refine L.nil (hX _ _ ⟨.inr G2,?_⟩)
 refine D.one 3 rfl (by kernel_rfl) (fun hX=>?_)
 refine L.c rfl (c_ref2_Neg (q:=(atG val (othT c.ts v) (QR.val c.k))) (rv_toL _) I50 H50 hbd (Nat.le_trans F50.1 (by decide)) (Nat.le_trans F50.2 (by decide))) ?_
 rintro _ w32 ⟨⟨A51,c51,B51,e51,rfl,I51,H51⟩,C32⟩
 replace k:=k.gr C32;replace I7:=I7.gr C32;replace H7:=H7.gr C32;replace E6:=E6.gr C32;replace hbd:=hbd.gr C32;replace C0:=C0.trans C32;replace E10:=E10.gr C32;replace G2:=G2.trans C32;clear C32;have F51:=Fit.neg F50
 refine L.nil (hX _ _ ⟨.inr G2,?_⟩)
 refine D.one 5 rfl (by kernel_rfl) (fun hX=>?_)
 refine L.c rfl (c_ref2_Div (qa:=(-(atG val (othT c.ts v) (QR.val c.k)))) (qb:=(QR.val b)) (rv_toL _) rfl I51 H51 I7 H7 hbd (Nat.le_trans F51.1 (by decide)) (Nat.le_trans F51.2 (by decide)) (Nat.le_trans hsb.1 (by decide)) (Nat.le_trans hsb.2 (by decide))) ?_
 rintro _ w33 ⟨v53,rfl,⟨A53,c53,B53,e53,rfl,I53,H53⟩,C33⟩
 replace k:=k.gr C33;replace E6:=E6.gr C33;replace C0:=C0.trans C33;replace E10:=E10.gr C33;replace G2:=G2.trans C33;clear C33;have F53:=Fit.div F51 Fb (by decide)
 refine L.nil (hX _ _ ⟨.inr G2,?_⟩)
 refine D.z 6 rfl (by kernel_rfl) rfl G2<|D.t 7 rfl (by kernel_rfl) (fun _ hS=>R1.extract rfl rfl) G2<|D.t 8 rfl (by kernel_rfl) (fun _ hS=>R1.extract rfl rfl) G2<|D.one 10 rfl (by kernel_rfl) (fun hX=>?_)
 refine L.storeBox rfl rfl E10 rfl rfl tyG40 ?_
 intro w34 E10' C34
 replace G2:=G2.old1 C34 hgs_g10;replace k:=k.ms C34;replace E6:=E6.fr C34;replace C0:=C0.old1 C34 K10;replace I53:=I53.ms C34;replace H53:=H53.ms C34;clear C34;replace E10:=E10'; clear E10'
 refine L.nil (hX _ _ ⟨.inr G2,?_⟩)
 refine D.t 11 rfl (by kernel_rfl) (fun _ hS=>R1.assign rfl) G2<|D.done (by decide +kernel) ?_ _
 refine X.seq<|W.sr<|L.v (R1.loadBox rfl E10 tyG40) rfl<|L.storeBox rfl rfl E6 rfl rfl tyG40 ?_
 intro w35 E6' C35
 replace k:=k.ms C35;replace C0:=C0.old1 C35 K6;replace I53:=I53.ms C35;replace H53:=H53.ms C35;clear C35;replace E6:=E6'; clear E6'
 refine L.z<|W.ret<|X.result1 rfl (.cell rfl (loadVar_blk E6 tyG40) .nil) ?_
 have he9:toldV c v val=((-(atG val (othT c.ts v) (QR.val c.k))) / QR.val b):=by unfold toldV; rw [← hb]
 rw [he9]
 exact ⟨RN.mk rfl (I53.su) (H53.su),Fit.mono F53 (by decide),C0⟩
end Go.Proofs.YthoooolflmbmbaaGreat
