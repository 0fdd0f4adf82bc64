/- Walks: what the functions compute. -/
import Derived.Test.YthoooolflmbmbaaGreatRatA
namespace Go.Proofs.YthoooolflmbmbaaGreat
open Go.RowKit
set_option linter.unusedVariables false
set_option linter.unusedSimpArgs false
set_option maxRecDepth 10000
theorem eq_step {xs ys:List Nat} {k:Nat} (h1:k<xs.length) (h2:k<ys.length) (h:xs.take k=ys.take k) (he:xs[k]=ys[k]):xs.take (k + 1)=ys.take (k + 1):=by
  rw [List.take_succ_eq_append_getElem h1,List.take_succ_eq_append_getElem h2,h,he]
theorem c_rat_Mul {M N8 N9 : List Nat} {w : World} {sa sb : Bool} {an ad bn bd : Value} {xa ya xb yb : List Nat} {qa qb : Rat} (hqa : rv sa (val xa) (val ya) = qa) (hqb : rv sb (val xb) (val yb) = qb) (ha : U32 N8 w an xa) (ka : U32 N8 w ad ya) (hb : U32 N9 w bn xb) (kb : U32 N9 w bd yb) (hbd : Bd M w) (l0 : xa.length ≤ 137438953472) (l1 : ya.length ≤ 137438953472) (l2 : xb.length ≤ 137438953472) (l3 : yb.length ≤ 137438953472) :
    Ret Tryz.prog 81 #[.agg #[.bool sa,an,ad],.agg #[.bool sb,bn,bd]] w (fun r w'=>RN M w' r (qa * qb)∧Mod [] w w'):=by
 have la1:=rv_len1 hqa ha.2;have la2:=rv_len2 hqa ka.2;have lb1:=rv_len1 hqb hb.2;have lb2:=rv_len2 hqb kb.2;have m1:=toL_len_mul la1 lb1;have m3:=toL_len_mul la2 lb2
 refine Ret.of (vs:=[.agg #[.bool sa,an,ad],.agg #[.bool sb,bn,bd]]) (n:=25) Tryz.func81 rfl rfl rfl rfl ?_
 have C0:Mod [] w w:=Mod.refl _ _
 refine W.sr<|L.box rfl rfl ?_
 intro g2 w1 D2
 replace ha:=ha.new D2;replace ka:=ka.new D2;replace hb:=hb.new D2;replace kb:=kb.new D2;replace hbd:=hbd.new D2;have K2:=New.ge D2 C0.size;replace C0:=C0.tn D2;have E2:=D2.blk;clear D2
 refine L.box rfl rfl ?_
 intro g3 w2 D3
 replace ha:=ha.new D3;replace ka:=ka.new D3;replace hb:=hb.new D3;replace kb:=kb.new D3;replace hbd:=hbd.new D3;have K3:=New.ge D3 C0.size;replace C0:=C0.tn D3;have hne_g2_g3:=E2.ne_ D3;replace E2:=E2.gr D3.mod;have E3:=D3.blk;clear D3
 refine L.alloc tyZ40 rfl ?_
 intro g4 w3 D4
 replace ha:=ha.new D4;replace ka:=ka.new D4;replace hb:=hb.new D4;replace kb:=kb.new D4;replace hbd:=hbd.new D4;have K4:=New.ge D4 C0.size;replace C0:=C0.tn D4;have hne_g2_g4:=E2.ne_ D4;replace E2:=E2.gr D4.mod;have hne_g3_g4:=E3.ne_ D4;replace E3:=E3.gr D4.mod;have E4:=D4.blk;clear D4
 refine L.z<|W.seq<|W.drawW (T:=[4,5]) rfl (by decide +kernel) (NoHang.then NoHang.post) (fun w4 C4=>?_)
 replace ha:=ha.gr C4;replace ka:=ka.gr C4;replace hb:=hb.gr C4;replace kb:=kb.gr C4;replace hbd:=hbd.gr C4;replace C0:=C0.trans C4;replace E2:=E2.gr C4;replace E3:=E3.gr C4;replace E4:=E4.gr C4
 have G1:Mod [] w4 w4:=Mod.refl _ _
 clear C4;have hb2_s:=E2;have hb3_s:=E3
 refine D.t 0 rfl (by kernel_rfl) (fun _ hS=>R1.loadBox rfl (hb2_s.gr hS) tyG40) G1<|D.t 2 rfl (by kernel_rfl) (fun _ hS=>R1.loadBox rfl (hb3_s.gr hS) tyG40) G1<|D.one 1 rfl (by kernel_rfl) (fun hX=>?_)
 refine L.c rfl (c_rat_Norm hqa ha ka hbd (by omega) (by omega)) ?_
 rintro _ w5 ⟨⟨A6,c6,B6,e6,rfl,I6,H6⟩,C5⟩
 replace hb:=hb.gr C5;replace kb:=kb.gr C5;replace hbd:=hbd.gr C5;replace C0:=C0.trans C5;replace E2:=E2.gr C5;replace E3:=E3.gr C5;replace E4:=E4.gr C5;replace G1:=G1.trans C5;clear C5
 refine L.nil (hX _ _ ⟨.inr G1,?_⟩)
 refine D.one 3 rfl (by kernel_rfl) (fun hX=>?_)
 refine L.c rfl (c_rat_Norm hqb hb kb hbd (by omega) (by omega)) ?_
 rintro _ w6 ⟨⟨A8,c8,B8,e8,rfl,I8,H8⟩,C6⟩
 replace hb:=hb.gr C6;replace hbd:=hbd.gr C6;replace C0:=C0.trans C6;replace E2:=E2.gr C6;replace E3:=E3.gr C6;replace E4:=E4.gr C6;replace I6:=I6.gr C6;replace H6:=H6.gr C6;replace G1:=G1.trans C6;clear C6
 refine L.nil (hX _ _ ⟨.inr G1,?_⟩)
 refine D.one 4 rfl (by kernel_rfl) (fun hX=>?_)
 refine L.storeBox rfl rfl E2 rfl rfl tyG40 ?_
 intro w7 E2' C7
 replace hb:=hb.ms C7;replace hbd:=hbd.gr C7;replace C0:=C0.old1 C7 K2;replace E3:=E3.fr C7;replace E4:=E4.fr C7;replace I6:=I6.ms C7;replace H6:=H6.ms C7;replace I8:=I8.ms C7;replace H8:=H8.ms C7;clear C7;replace E2:=E2'; clear E2'
 refine L.nil (hX _ _ ⟨.inl rfl,?_⟩)
 refine D.one 5 rfl (by kernel_rfl) (fun hX=>?_)
 refine L.storeBox rfl rfl E3 rfl rfl tyG40 ?_
 intro w8 E3' C8
 replace hb:=hb.ms C8;replace hbd:=hbd.gr C8;replace C0:=C0.old1 C8 K3;replace E4:=E4.fr C8;replace I6:=I6.ms C8;replace H6:=H6.ms C8;replace I8:=I8.ms C8;replace H8:=H8.ms C8;replace E2:=E2.fr C8;clear C8;replace E3:=E3'; clear E3'
 refine L.nil (hX _ _ ⟨.inl rfl,?_⟩)
 refine D.done (by decide +kernel) ?_ _
 refine X.seq<|W.seq<|W.drawW (T:=[16]) rfl (by decide +kernel) (NoHang.then NoHang.post) (fun w9 C9=>?_)
 replace hb:=hb.gr C9;replace hbd:=hbd.gr C9;replace C0:=C0.trans C9;replace E4:=E4.gr C9;replace I6:=I6.gr C9;replace H6:=H6.gr C9;replace I8:=I8.gr C9;replace H8:=H8.gr C9;replace E2:=E2.gr C9;replace E3:=E3.gr C9
 have G2:Mod [] w9 w9:=Mod.refl _ _
 clear C9;have hb2_s:=E2;have hb3_s:=E3
 refine D.t 0 rfl (by kernel_rfl) (fun _ hS=>R1.fieldAt rfl tyF40_0) G2<|D.t 1 rfl (by kernel_rfl) (fun _ hS=>R1.loadFld rfl (hb2_s.gr hS) rfl tyP4) G2<|D.t 2 rfl (by kernel_rfl) (fun _ hS=>R1.fieldAt rfl tyF40_0) G2<|D.t 3 rfl (by kernel_rfl) (fun _ hS=>R1.loadFld rfl (hb3_s.gr hS) rfl tyP4) G2<|D.t 4 rfl (by kernel_rfl) (fun _ hS=>R1.neB rfl rfl tyB4) G2<|D.t 5 rfl (by kernel_rfl) (fun _ hS=>R1.fieldAt rfl tyF40_1) G2<|D.t 6 rfl (by kernel_rfl) (fun _ hS=>R1.loadFld rfl (hb2_s.gr hS) rfl tyP38) G2<|D.t 7 rfl (by kernel_rfl) (fun _ hS=>R1.fieldAt rfl tyF40_1) G2<|D.t 8 rfl (by kernel_rfl) (fun _ hS=>R1.loadFld rfl (hb3_s.gr hS) rfl tyP38) G2<|D.t 10 rfl (by kernel_rfl) (fun _ hS=>R1.fieldAt rfl tyF40_2) G2<|D.t 11 rfl (by kernel_rfl) (fun _ hS=>R1.loadFld rfl (hb2_s.gr hS) rfl tyP38) G2 ?_
 refine D.t 12 rfl (by kernel_rfl) (fun _ hS=>R1.fieldAt rfl tyF40_2) G2<|D.t 13 rfl (by kernel_rfl) (fun _ hS=>R1.loadFld rfl (hb3_s.gr hS) rfl tyP38) G2<|D.one 9 rfl (by kernel_rfl) (fun hX=>?_)
 refine L.c rfl (c_nat_Mul I6 I8 hbd (by omega) (by omega)) ?_
 rintro v18 w10 ⟨h18,C10⟩
 replace hb:=hb.gr C10;replace hbd:=hbd.gr C10;replace C0:=C0.trans C10;replace E4:=E4.gr C10;replace H6:=H6.gr C10;replace H8:=H8.gr C10;replace G2:=G2.trans C10;clear C10
 rw [val_toL,val_toL] at h18
 refine L.nil (hX _ _ ⟨.inr G2,?_⟩)
 refine D.one 14 rfl (by kernel_rfl) (fun hX=>?_)
 refine L.c rfl (c_nat_Mul H6 H8 hbd (by omega) (by omega)) ?_
 rintro v23 w11 ⟨h23,C11⟩
 replace hb:=hb.gr C11;replace hbd:=hbd.gr C11;replace C0:=C0.trans C11;replace E4:=E4.gr C11;replace h18:=h18.gr C11;replace G2:=G2.trans C11;clear C11
 rw [val_toL,val_toL] at h23
 refine L.nil (hX _ _ ⟨.inr G2,?_⟩)
 refine D.one 15 rfl (by kernel_rfl) (fun hX=>?_)
 refine L.c rfl (c_rat_Of (q:=qa * qb) (by rw [val_toL,val_toL]; exact mul_num qa qb) h18 h23 hbd (by omega) (by omega)) ?_
 rintro _ w12 ⟨⟨A24,c24,B24,e24,rfl,I24,H24⟩,C12⟩
 replace hb:=hb.gr C12;replace C0:=C0.trans C12;replace E4:=E4.gr C12;replace G2:=G2.trans C12;clear C12
 refine L.nil (hX _ _ ⟨.inr G2,?_⟩)
 refine D.one 16 rfl (by kernel_rfl) (fun hX=>?_)
 refine L.storeBox rfl rfl E4 rfl rfl tyG40 ?_
 intro w13 E4' C13
 replace hb:=hb.ms C13;replace C0:=C0.old1 C13 K4;replace I24:=I24.ms C13;replace H24:=H24.ms C13;clear C13;replace E4:=E4'; clear E4'
 refine L.nil (hX _ _ ⟨.inl rfl,?_⟩)
 refine D.done (by decide +kernel) ?_ _
 refine X.seq<|W.ret<|X.result1 rfl (.cell rfl (loadVar_blk E4 tyG40) .nil) ?_
 exact ⟨RN.mk rfl (I24.sub (by intro b hb; simp [hb])) (H24.sub (by intro b hb; simp [hb])),C0⟩
theorem c_rat_Div0 {M N8 N9 : List Nat} {w : World} {sa sb : Bool} {an ad bn bd : Value} {xa ya xb yb : List Nat} {qa qb : Rat} (hqa : rv sa (val xa) (val ya) = qa) (hqb : rv sb (val xb) (val yb) = qb) (ha : U32 N8 w an xa) (ka : U32 N8 w ad ya) (hb : U32 N9 w bn xb) (kb : U32 N9 w bd yb) (hbd : Bd M w) (l0 : xa.length ≤ 137438953400) (l1 : ya.length ≤ 137438953400) (l2 : xb.length ≤ 137438953400) (l3 : yb.length ≤ 137438953400) (h0 : qb = 0) :
    Ret Tryz.prog 82 #[.agg #[.bool sa,an,ad],.agg #[.bool sb,bn,bd]] w (fun r w'=>∃ v,r=.tuple #[v,.bool false]∧RN M w' v 0∧Mod [] w w'):=by
 have la1:=rv_len1 hqa ha.2;have la2:=rv_len2 hqa ka.2;have lb1:=rv_len1 hqb hb.2;have lb2:=rv_len2 hqb kb.2
 refine Ret.of (vs:=[.agg #[.bool sa,an,ad],.agg #[.bool sb,bn,bd]]) (n:=22) Tryz.func82 rfl rfl rfl rfl ?_
 have C0:Mod [] w w:=Mod.refl _ _
 refine W.sr<|L.box rfl rfl ?_
 intro g2 w1 D2
 replace ha:=ha.new D2;replace ka:=ka.new D2;replace hb:=hb.new D2;replace kb:=kb.new D2;replace hbd:=hbd.new D2;have K2:=New.ge D2 C0.size;replace C0:=C0.tn D2;have E2:=D2.blk;clear D2
 refine L.box rfl rfl ?_
 intro g3 w2 D3
 replace ha:=ha.new D3;replace ka:=ka.new D3;replace hb:=hb.new D3;replace kb:=kb.new D3;replace hbd:=hbd.new D3;have K3:=New.ge D3 C0.size;replace C0:=C0.tn D3;have hne_g2_g3:=E2.ne_ D3;replace E2:=E2.gr D3.mod;have E3:=D3.blk;clear D3
 refine L.alloc tyZ40 rfl ?_
 intro g4 w3 D4
 replace ha:=ha.new D4;replace ka:=ka.new D4;replace hb:=hb.new D4;replace kb:=kb.new D4;replace hbd:=hbd.new D4;have K4:=New.ge D4 C0.size;replace C0:=C0.tn D4;have hne_g2_g4:=E2.ne_ D4;replace E2:=E2.gr D4.mod;have hne_g3_g4:=E3.ne_ D4;replace E3:=E3.gr D4.mod;have E4:=D4.blk;clear D4
 refine L.b rfl<|L.z<|W.sr<|L.v (R1.loadBox rfl E3 tyG40) rfl<|L.c rfl (c_rat_Norm hqb hb kb hbd (by omega) (by omega)) ?_
 rintro _ w4 ⟨⟨A7,c7,B7,e7,rfl,I7,H7⟩,C4⟩
 replace ha:=ha.gr C4;replace ka:=ka.gr C4;replace hb:=hb.gr C4;replace kb:=kb.gr C4;replace hbd:=hbd.gr C4;replace C0:=C0.trans C4;replace E2:=E2.gr C4;replace E3:=E3.gr C4;replace E4:=E4.gr C4;clear C4
 refine L.storeBox rfl rfl E3 rfl rfl tyG40 ?_
 intro w5 E3' C5
 replace ha:=ha.ms C5;replace ka:=ka.ms C5;replace hb:=hb.ms C5;replace kb:=kb.ms C5;replace hbd:=hbd.gr C5;replace C0:=C0.old1 C5 K3;replace E2:=E2.fr C5;replace E4:=E4.fr C5;replace I7:=I7.ms C5;replace H7:=H7.ms C5;clear C5;replace E3:=E3'; clear E3'
 refine L.z<|W.seq<|W.sr<|L.fA rfl tyF40_1<|L.lF rfl E3 rfl tyP38<|L.lU rfl (by assumption) Q38<|L.v ((R1.eq rfl rfl).asB (c:=true) (by rw [len0,decide_eq_true_eq,num_zero_iff]; exact h0)) rfl<|L.z ?_
 refine W.condT rfl<|W.sr<|L.c rfl (c_rat_Int (n:=0) (by decide) (by decide) hbd) ?_
 rintro _ w6 ⟨⟨A12,c12,B12,e12,rfl,I12,H12⟩,C6⟩
 replace hb:=hb.gr C6;replace C0:=C0.trans C6;replace E4:=E4.gr C6;clear C6
 refine L.storeBox rfl rfl E4 rfl rfl tyG40 ?_
 intro w7 E4' C7
 replace hb:=hb.ms C7;replace C0:=C0.old1 C7 K4;replace I12:=I12.ms C7;replace H12:=H12.ms C7;clear C7;replace E4:=E4'; clear E4'
 refine L.b rfl<|L.z<|W.ret<|X.thenRet<|X.result2 rfl (.cell rfl (loadVar_blk E4 tyG40) (.tmp rfl .nil)) ?_
 exact ⟨_,rfl,RN.mk (q:=0) rfl (I12.sub (by intro b hb; simp [hb])) (H12.sub (by intro b hb; simp [hb])),C0⟩
theorem c_rat_Div1 {M N8 N9 : List Nat} {w : World} {sa sb : Bool} {an ad bn bd : Value} {xa ya xb yb : List Nat} {qa qb : Rat} (hqa : rv sa (val xa) (val ya) = qa) (hqb : rv sb (val xb) (val yb) = qb) (ha : U32 N8 w an xa) (ka : U32 N8 w ad ya) (hb : U32 N9 w bn xb) (kb : U32 N9 w bd yb) (hbd : Bd M w) (l0 : xa.length ≤ 137438953400) (l1 : ya.length ≤ 137438953400) (l2 : xb.length ≤ 137438953400) (l3 : yb.length ≤ 137438953400) (h0 : qb ≠ 0) :
    Ret Tryz.prog 82 #[.agg #[.bool sa,an,ad],.agg #[.bool sb,bn,bd]] w (fun r w'=>∃ v,r=.tuple #[v,.bool true]∧RN M w' v (qa / qb)∧Mod [] w w'):=by
 have la1:=rv_len1 hqa ha.2;have la2:=rv_len2 hqa ka.2;have lb1:=rv_len1 hqb hb.2;have lb2:=rv_len2 hqb kb.2
 refine Ret.of (vs:=[.agg #[.bool sa,an,ad],.agg #[.bool sb,bn,bd]]) (n:=22) Tryz.func82 rfl rfl rfl rfl ?_
 have C0:Mod [] w w:=Mod.refl _ _
 refine W.sr<|L.box rfl rfl ?_
 intro g2 w1 D2
 replace ha:=ha.new D2;replace ka:=ka.new D2;replace hb:=hb.new D2;replace kb:=kb.new D2;replace hbd:=hbd.new D2;have K2:=New.ge D2 C0.size;replace C0:=C0.tn D2;have E2:=D2.blk;clear D2
 refine L.box rfl rfl ?_
 intro g3 w2 D3
 replace ha:=ha.new D3;replace ka:=ka.new D3;replace hb:=hb.new D3;replace kb:=kb.new D3;replace hbd:=hbd.new D3;have K3:=New.ge D3 C0.size;replace C0:=C0.tn D3;have hne_g2_g3:=E2.ne_ D3;replace E2:=E2.gr D3.mod;have E3:=D3.blk;clear D3
 refine L.alloc tyZ40 rfl ?_
 intro g4 w3 D4
 replace ha:=ha.new D4;replace ka:=ka.new D4;replace hb:=hb.new D4;replace kb:=kb.new D4;replace hbd:=hbd.new D4;have K4:=New.ge D4 C0.size;replace C0:=C0.tn D4;have hne_g2_g4:=E2.ne_ D4;replace E2:=E2.gr D4.mod;have hne_g3_g4:=E3.ne_ D4;replace E3:=E3.gr D4.mod;have E4:=D4.blk;clear D4
 refine L.b rfl<|L.z<|W.sr<|L.v (R1.loadBox rfl E3 tyG40) rfl<|L.c rfl (c_rat_Norm hqb hb kb hbd (by omega) (by omega)) ?_
 rintro _ w4 ⟨⟨A7,c7,B7,e7,rfl,I7,H7⟩,C4⟩
 replace ha:=ha.gr C4;replace ka:=ka.gr C4;replace hb:=hb.gr C4;replace kb:=kb.gr C4;replace hbd:=hbd.gr C4;replace C0:=C0.trans C4;replace E2:=E2.gr C4;replace E3:=E3.gr C4;replace E4:=E4.gr C4;clear C4
 refine L.storeBox rfl rfl E3 rfl rfl tyG40 ?_
 intro w5 E3' C5
 replace ha:=ha.ms C5;replace ka:=ka.ms C5;replace hb:=hb.ms C5;replace kb:=kb.ms C5;replace hbd:=hbd.gr C5;replace C0:=C0.old1 C5 K3;replace E2:=E2.fr C5;replace E4:=E4.fr C5;replace I7:=I7.ms C5;replace H7:=H7.ms C5;clear C5;replace E3:=E3'; clear E3'
 refine L.z<|W.seq<|W.sr<|L.fA rfl tyF40_1<|L.lF rfl E3 rfl tyP38<|L.lU rfl (by assumption) Q38<|L.v ((R1.eq rfl rfl).asB (c:=false) (by rw [len0,decide_eq_false_iff_not,num_zero_iff]; exact h0)) rfl<|L.z ?_
 refine W.condF rfl<|W.skip<|X.seq<|W.sr<|L.v (R1.loadBox rfl E2 tyG40) rfl<|L.fA rfl tyF40_0<|L.lF rfl E3 rfl tyP4<|L.fA rfl tyF40_2<|L.lF rfl E3 rfl tyP38<|L.fA rfl tyF40_1 ?_
 refine L.lF rfl E3 rfl tyP38<|L.v (R1.build rfl (built_Q012 _ _ _ _ _ _ _)) rfl<|L.c rfl (c_rat_Mul (qb:=qb⁻¹) hqa (by rw [val_toL,val_toL]; exact inv_num h0) ha ka H7 I7 hbd (by omega) (by omega) (by omega) (by omega)) ?_
 rintro _ w6 ⟨⟨A21,c21,B21,e21,rfl,I21,H21⟩,C6⟩
 replace hb:=hb.gr C6;replace C0:=C0.trans C6;replace E4:=E4.gr C6;clear C6
 refine L.storeBox rfl rfl E4 rfl rfl tyG40 ?_
 intro w7 E4' C7
 replace hb:=hb.ms C7;replace C0:=C0.old1 C7 K4;replace I21:=I21.ms C7;replace H21:=H21.ms C7;clear C7;replace E4:=E4'; clear E4'
 refine L.b rfl<|L.z<|W.ret<|X.result2 rfl (.cell rfl (loadVar_blk E4 tyG40) (.tmp rfl .nil)) ?_
 exact ⟨_,rfl,by rw [Rat.div_def]; exact RN.mk rfl (I21.sub (by intro b hb; simp [hb])) (H21.sub (by intro b hb; simp [hb])),C0⟩
theorem c_rat_Zero {M N9 : List Nat} {w : World} {s : Bool} {vn vd : Value} {xs ys : List Nat} {q : Rat} (hq : rv s (val xs) (val ys) = q) (h : U32 N9 w vn xs) (k : U32 N9 w vd ys) (hbd : Bd M w) (hl1 : xs.length ≤ 1099511627776) (hl2 : ys.length ≤ 1099511627776) :
    Ret Tryz.prog 40 #[.agg #[.bool s,vn,vd]] w (fun r w'=>r=.bool (decide (q=0))∧Mod [] w w'):=by
 refine Ret.of (vs:=[.agg #[.bool s,vn,vd]]) (n:=8) Tryz.func40 rfl rfl rfl rfl ?_
 have C0:Mod [] w w:=Mod.refl _ _
 refine W.sr<|L.box rfl rfl ?_
 intro g1 w1 D1
 replace h:=h.new D1;replace k:=k.new D1;replace hbd:=hbd.new D1;have K1:=New.ge D1 C0.size;replace C0:=C0.tn D1;have E1:=D1.blk;clear D1
 refine L.b rfl<|L.z<|W.sr<|L.v (R1.loadBox rfl E1 tyG40) rfl<|L.c rfl (c_rat_Norm hq h k hbd (by omega) (by omega)) ?_
 rintro _ w2 ⟨⟨A4,c4,B4,e4,rfl,I4,H4⟩,C2⟩
 replace h:=h.gr C2;replace k:=k.gr C2;replace hbd:=hbd.gr C2;replace C0:=C0.trans C2;replace E1:=E1.gr C2;clear C2
 refine L.v (R1.fieldV rfl tyFP40_1 rfl) rfl<|L.lU rfl (by assumption) Q38<|L.v ((R1.eq rfl rfl).asB (c:=decide (q=0)) (by rw [len0]; congr 1; exact propext (num_zero_iff q))) rfl<|L.b rfl<|L.z<|W.ret<|X.result1 rfl (.tmp rfl .nil) ?_
 exact ⟨rfl,C0⟩
theorem c_rat_Large {M N9 : List Nat} {w : World} {s : Bool} {vn vd : Value} {xs ys : List Nat} {q : Rat} (hq : rv s (val xs) (val ys) = q) (h : U32 N9 w vn xs) (k : U32 N9 w vd ys) (hbd : Bd M w) (hl1 : xs.length ≤ 1099511627776) (hl2 : ys.length ≤ 1099511627776) :
    Ret Tryz.prog 45 #[.agg #[.bool s,vn,vd]] w (fun r w'=>r=.bool (largeB q)∧Mod [] w w'):=by
 refine Ret.of (vs:=[.agg #[.bool s,vn,vd]]) (n:=15) Tryz.func45 rfl rfl rfl rfl ?_
 have C0:Mod [] w w:=Mod.refl _ _
 refine W.sr<|L.box rfl rfl ?_
 intro g1 w1 D1
 replace h:=h.new D1;replace k:=k.new D1;replace hbd:=hbd.new D1;have K1:=New.ge D1 C0.size;replace C0:=C0.tn D1;have E1:=D1.blk;clear D1
 refine L.b rfl<|L.z<|W.sr<|L.v (R1.loadBox rfl E1 tyG40) rfl<|L.c rfl (c_rat_Norm hq h k hbd (by omega) (by omega)) ?_
 rintro _ w2 ⟨⟨A4,c4,B4,e4,rfl,I4,H4⟩,C2⟩
 replace h:=h.gr C2;replace k:=k.gr C2;replace hbd:=hbd.gr C2;replace C0:=C0.trans C2;replace E1:=E1.gr C2;clear C2
 refine L.storeBox rfl rfl E1 rfl rfl tyG40 ?_
 intro w3 E1' C3
 replace h:=h.ms C3;replace k:=k.ms C3;replace hbd:=hbd.gr C3;replace C0:=C0.old1 C3 K1;replace I4:=I4.ms C3;replace H4:=H4.ms C3;clear C3;replace E1:=E1'; clear E1'
 refine L.z<|W.sr<|L.fA rfl tyF40_1<|L.lF rfl E1 rfl tyP38<|L.lU rfl (by assumption) Q38<|L.v ((R1.gt rfl rfl).asB (c:=decide (16<(toL q.num.natAbs).length)) (by congr 1; apply propext; omega)) rfl<|L.k rfl ?_
 cases W9:decide (16<(toL q.num.natAbs).length)
 ·
  have hcc_:=W9
  refine L.p rfl (R1.fieldAt rfl tyF40_2)<|L.p rfl (R1.loadFld rfl E1 rfl tyP38)<|L.p rfl (R1.lenU rfl (by assumption) Q38)<|L.p rfl ((R1.gt rfl rfl).asB (c:=decide (16<(toL q.den).length)) (by congr 1; apply propext; omega))<|L.pF rfl rfl<|L.b rfl<|L.z<|W.ret<|X.result1 rfl (.tmp rfl .nil) ?_
  exact ⟨by unfold largeB; rw [W9]; rfl,C0⟩
 have hcc_:=W9
 refine L.o rfl<|L.o rfl<|L.o rfl<|L.o rfl<|L.pT rfl rfl<|L.b rfl<|L.z<|W.ret<|X.result1 rfl (.tmp rfl .nil) ?_
 exact ⟨by unfold largeB; rw [W9]; rfl,C0⟩
end Go.Proofs.YthoooolflmbmbaaGreat
