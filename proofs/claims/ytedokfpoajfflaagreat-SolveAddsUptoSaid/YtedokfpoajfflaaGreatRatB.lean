/- Walks: what the functions compute. -/
import Derived.Test.YtedokfpoajfflaaGreatRatA
namespace Go.Proofs.YtedokfpoajfflaaGreat
open Go.RowKit
set_option linter.unusedVariables false
set_option linter.unusedSimpArgs false
set_option maxRecDepth 10000
theorem eq_step {xs ys:List Nat} {k:Nat} (h1:k<xs.length) (h2:k<ys.length) (h:xs.take k=ys.take k) (he:xs[k]=ys[k]):xs.take (k + 1)=ys.take (k + 1):=by
  rw [List.take_succ_eq_append_getElem h1,List.take_succ_eq_append_getElem h2,h,he]
theorem c_rat_Mul {M N8 N9 : List Nat} {w : World} {sa sb : Bool} {an ad bn bd : Value} {xa ya xb yb : List Nat} {qa qb : Rat} (hqa : rv sa (val xa) (val ya) = qa) (hqb : rv sb (val xb) (val yb) = qb) (ha : U32 N8 w an xa) (ka : U32 N8 w ad ya) (hb : U32 N9 w bn xb) (kb : U32 N9 w bd yb) (hbd : Bd M w) (l0 : xa.length ≤ 137438953472) (l1 : ya.length ≤ 137438953472) (l2 : xb.length ≤ 137438953472) (l3 : yb.length ≤ 137438953472) :
    Ret Tryz.prog 81 #[.agg #[.bool sa,an,ad],.agg #[.bool sb,bn,bd]] w (fun r w'=>RN M w' r (qa * qb)∧Mod [] w w'):=by
 have la1:=rv_len1 hqa ha.2;have la2:=rv_len2 hqa ka.2;have lb1:=rv_len1 hqb hb.2;have lb2:=rv_len2 hqb kb.2;have m1:=toL_len_mul la1 lb1;have m3:=toL_len_mul la2 lb2
 refine Ret.of (vs:=[.agg #[.bool sa,an,ad],.agg #[.bool sb,bn,bd]]) (n:=25) Tryz.func81 rfl rfl rfl rfl ?_
 have hm0:Mod [] w w:=Mod.refl _ _
 refine W.seq<|W.region<|L.box rfl rfl ?_
 intro g2 w1 hN2
 replace ha:=ha.new hN2;replace ka:=ka.new hN2;replace hb:=hb.new hN2;replace kb:=kb.new hN2;replace hbd:=hbd.new hN2;have hge_g2:=New.ge hN2 hm0.size;replace hm0:=hm0.trans (hN2.mod.mono (by simp));have hb2:=hN2.blk;clear hN2
 refine L.box rfl rfl ?_
 intro g3 w2 hN3
 replace ha:=ha.new hN3;replace ka:=ka.new hN3;replace hb:=hb.new hN3;replace kb:=kb.new hN3;replace hbd:=hbd.new hN3;have hge_g3:=New.ge hN3 hm0.size;replace hm0:=hm0.trans (hN3.mod.mono (by simp));have hne_g2_g3:=hb2.ne_ hN3;replace hb2:=Blk.gr hb2 hN3.mod;have hb3:=hN3.blk;clear hN3
 refine L.alloc tyZ26 rfl ?_
 intro g4 w3 hN4
 replace ha:=ha.new hN4;replace ka:=ka.new hN4;replace hb:=hb.new hN4;replace kb:=kb.new hN4;replace hbd:=hbd.new hN4;have hge_g4:=New.ge hN4 hm0.size;replace hm0:=hm0.trans (hN4.mod.mono (by simp));have hne_g2_g4:=hb2.ne_ hN4;replace hb2:=Blk.gr hb2 hN4.mod;have hne_g3_g4:=hb3.ne_ hN4;replace hb3:=Blk.gr hb3 hN4.mod;have hb4:=hN4.blk;clear hN4
 refine L.nil<|X.seq<|W.seq<|W.drawW (T:=[4,5]) rfl (by decide +kernel) (NoHang.then NoHang.post) (fun w4 hm4=>?_)
 replace ha:=ha.gr hm4;replace ka:=ka.gr hm4;replace hb:=hb.gr hm4;replace kb:=kb.gr hm4;replace hbd:=hbd.gr hm4;replace hm0:=hm0.trans hm4;replace hb2:=Blk.gr hb2 hm4;replace hb3:=Blk.gr hb3 hm4;replace hb4:=Blk.gr hb4 hm4
 have hS1:Mod [] w4 w4:=Mod.refl _ _
 clear hm4;have hb2_s:=hb2;have hb3_s:=hb3
 refine D.take 0 rfl (by kernel_rfl) (fun w_ hS=>(R1.loadBox rfl (Blk.gr hb2_s hS) tyG26)) hS1 rfl<|D.take 2 rfl (by kernel_rfl) (fun w_ hS=>(R1.loadBox rfl (Blk.gr hb3_s hS) tyG26)) hS1 rfl<|D.one 1 rfl (by kernel_rfl) (fun hX=>?_)
 refine L.call rfl (c_rat_Norm hqa ha ka hbd (by omega) (by omega)) rfl ?_
 rintro _ w5 ⟨⟨A6,c6,B6,e6,rfl,hn6,hd6⟩,hm5⟩
 replace hb:=hb.gr hm5;replace kb:=kb.gr hm5;replace hbd:=hbd.gr hm5;replace hm0:=hm0.trans hm5;replace hb2:=Blk.gr hb2 hm5;replace hb3:=Blk.gr hb3 hm5;replace hb4:=Blk.gr hb4 hm5;replace hS1:=hS1.trans hm5;clear hm5
 refine L.nil (hX _ _ ⟨.inr hS1,?_⟩)
 refine D.one 3 rfl (by kernel_rfl) (fun hX=>?_)
 refine L.call rfl (c_rat_Norm hqb hb kb hbd (by omega) (by omega)) rfl ?_
 rintro _ w6 ⟨⟨A8,c8,B8,e8,rfl,hn8,hd8⟩,hm6⟩
 replace hb:=hb.gr hm6;replace hbd:=hbd.gr hm6;replace hm0:=hm0.trans hm6;replace hb2:=Blk.gr hb2 hm6;replace hb3:=Blk.gr hb3 hm6;replace hb4:=Blk.gr hb4 hm6;replace hn6:=hn6.gr hm6;replace hd6:=hd6.gr hm6;replace hS1:=hS1.trans hm6;clear hm6
 refine L.nil (hX _ _ ⟨.inr hS1,?_⟩)
 refine D.one 4 rfl (by kernel_rfl) (fun hX=>?_)
 refine L.storeBox rfl rfl hb2 rfl rfl tyG26 ?_
 intro w7 hb2' hm7
 replace hb:=hb.mod hm7 (by simp);replace hbd:=hbd.gr hm7;replace hm0:=hm0.old1 hm7 hge_g2;replace hb3:=Blk.far hb3 hm7 (by first | exact hne_g3_g2 | exact (hne_g2_g3).symm);replace hb4:=Blk.far hb4 hm7 (by first | exact hne_g4_g2 | exact (hne_g2_g4).symm);replace hn6:=hn6.mod hm7 (by simp);replace hd6:=hd6.mod hm7 (by simp);replace hn8:=hn8.mod hm7 (by simp);replace hd8:=hd8.mod hm7 (by simp);clear hm7;replace hb2:=hb2'; clear hb2'
 refine L.nil (hX _ _ ⟨.inl rfl,?_⟩)
 refine D.one 5 rfl (by kernel_rfl) (fun hX=>?_)
 refine L.storeBox rfl rfl hb3 rfl rfl tyG26 ?_
 intro w8 hb3' hm8
 replace hb:=hb.mod hm8 (by simp);replace hbd:=hbd.gr hm8;replace hm0:=hm0.old1 hm8 hge_g3;replace hb4:=Blk.far hb4 hm8 (by first | exact hne_g4_g3 | exact (hne_g3_g4).symm);replace hn6:=hn6.mod hm8 (by simp);replace hd6:=hd6.mod hm8 (by simp);replace hn8:=hn8.mod hm8 (by simp);replace hd8:=hd8.mod hm8 (by simp);replace hb2:=Blk.far hb2 hm8 (by first | exact hne_g2_g3 | exact (hne_g3_g2).symm);clear hm8;replace hb3:=hb3'; clear hb3'
 refine L.nil (hX _ _ ⟨.inl rfl,?_⟩)
 refine D.done (by decide +kernel) ?_ _
 refine X.seq<|W.seq<|W.drawW (T:=[16]) rfl (by decide +kernel) (NoHang.then NoHang.post) (fun w9 hm9=>?_)
 replace hb:=hb.gr hm9;replace hbd:=hbd.gr hm9;replace hm0:=hm0.trans hm9;replace hb4:=Blk.gr hb4 hm9;replace hn6:=hn6.gr hm9;replace hd6:=hd6.gr hm9;replace hn8:=hn8.gr hm9;replace hd8:=hd8.gr hm9;replace hb2:=Blk.gr hb2 hm9;replace hb3:=Blk.gr hb3 hm9
 have hS2:Mod [] w9 w9:=Mod.refl _ _
 clear hm9;have hb2_s:=hb2;have hb3_s:=hb3
 refine D.take 0 rfl (by kernel_rfl) (fun w_ hS=>(R1.fieldAt rfl tyF26_0)) hS2 rfl<|D.take 1 rfl (by kernel_rfl) (fun w_ hS=>(R1.loadFld rfl (Blk.gr hb2_s hS) rfl tyP4)) hS2 rfl<|D.take 2 rfl (by kernel_rfl) (fun w_ hS=>(R1.fieldAt rfl tyF26_0)) hS2 rfl<|D.take 3 rfl (by kernel_rfl) (fun w_ hS=>(R1.loadFld rfl (Blk.gr hb3_s hS) rfl tyP4)) hS2 rfl<|D.take 4 rfl (by kernel_rfl) (fun w_ hS=>(R1.neB rfl rfl tyB4)) hS2 rfl<|D.take 5 rfl (by kernel_rfl) (fun w_ hS=>(R1.fieldAt rfl tyF26_1)) hS2 rfl<|D.take 6 rfl (by kernel_rfl) (fun w_ hS=>(R1.loadFld rfl (Blk.gr hb2_s hS) rfl tyP24)) hS2 rfl<|D.take 7 rfl (by kernel_rfl) (fun w_ hS=>(R1.fieldAt rfl tyF26_1)) hS2 rfl<|D.take 8 rfl (by kernel_rfl) (fun w_ hS=>(R1.loadFld rfl (Blk.gr hb3_s hS) rfl tyP24)) hS2 rfl<|D.take 10 rfl (by kernel_rfl) (fun w_ hS=>(R1.fieldAt rfl tyF26_2)) hS2 rfl<|D.take 11 rfl (by kernel_rfl) (fun w_ hS=>(R1.loadFld rfl (Blk.gr hb2_s hS) rfl tyP24)) hS2 rfl ?_
 refine D.take 12 rfl (by kernel_rfl) (fun w_ hS=>(R1.fieldAt rfl tyF26_2)) hS2 rfl<|D.take 13 rfl (by kernel_rfl) (fun w_ hS=>(R1.loadFld rfl (Blk.gr hb3_s hS) rfl tyP24)) hS2 rfl<|D.one 9 rfl (by kernel_rfl) (fun hX=>?_)
 refine L.call rfl (c_nat_Mul hn6 hn8 hbd (by omega) (by omega)) rfl ?_
 rintro v18 w10 ⟨h18,hm10⟩
 replace hb:=hb.gr hm10;replace hbd:=hbd.gr hm10;replace hm0:=hm0.trans hm10;replace hb4:=Blk.gr hb4 hm10;replace hd6:=hd6.gr hm10;replace hd8:=hd8.gr hm10;replace hS2:=hS2.trans hm10;clear hm10
 rw [val_toL,val_toL] at h18
 refine L.nil (hX _ _ ⟨.inr hS2,?_⟩)
 refine D.one 14 rfl (by kernel_rfl) (fun hX=>?_)
 refine L.call rfl (c_nat_Mul hd6 hd8 hbd (by omega) (by omega)) rfl ?_
 rintro v23 w11 ⟨h23,hm11⟩
 replace hb:=hb.gr hm11;replace hbd:=hbd.gr hm11;replace hm0:=hm0.trans hm11;replace hb4:=Blk.gr hb4 hm11;replace h18:=h18.gr hm11;replace hS2:=hS2.trans hm11;clear hm11
 rw [val_toL,val_toL] at h23
 refine L.nil (hX _ _ ⟨.inr hS2,?_⟩)
 refine D.one 15 rfl (by kernel_rfl) (fun hX=>?_)
 refine L.call rfl (c_rat_Of (q:=qa * qb) (by rw [val_toL,val_toL]; exact mul_num qa qb) h18 h23 hbd (by omega) (by omega)) rfl ?_
 rintro _ w12 ⟨⟨A24,c24,B24,e24,rfl,hn24,hd24⟩,hm12⟩
 replace hb:=hb.gr hm12;replace hm0:=hm0.trans hm12;replace hb4:=Blk.gr hb4 hm12;replace hS2:=hS2.trans hm12;clear hm12
 refine L.nil (hX _ _ ⟨.inr hS2,?_⟩)
 refine D.one 16 rfl (by kernel_rfl) (fun hX=>?_)
 refine L.storeBox rfl rfl hb4 rfl rfl tyG26 ?_
 intro w13 hb4' hm13
 replace hb:=hb.mod hm13 (by simp);replace hm0:=hm0.old1 hm13 hge_g4;replace hn24:=hn24.mod hm13 (by simp);replace hd24:=hd24.mod hm13 (by simp);clear hm13;replace hb4:=hb4'; clear hb4'
 refine L.nil (hX _ _ ⟨.inl rfl,?_⟩)
 refine D.done (by decide +kernel) ?_ _
 refine X.seq<|W.ret<|X.result1 rfl (.cell rfl (loadVar_blk hb4 tyG26) .nil) ?_
 exact ⟨RN.mk rfl (hn24.sub (by intro b hb; simp [hb])) (hd24.sub (by intro b hb; simp [hb])),hm0⟩
theorem c_rat_Div0 {M N8 N9 : List Nat} {w : World} {sa sb : Bool} {an ad bn bd : Value} {xa ya xb yb : List Nat} {qa qb : Rat} (hqa : rv sa (val xa) (val ya) = qa) (hqb : rv sb (val xb) (val yb) = qb) (ha : U32 N8 w an xa) (ka : U32 N8 w ad ya) (hb : U32 N9 w bn xb) (kb : U32 N9 w bd yb) (hbd : Bd M w) (l0 : xa.length ≤ 137438953400) (l1 : ya.length ≤ 137438953400) (l2 : xb.length ≤ 137438953400) (l3 : yb.length ≤ 137438953400) (h0 : qb = 0) :
    Ret Tryz.prog 82 #[.agg #[.bool sa,an,ad],.agg #[.bool sb,bn,bd]] w (fun r w'=>∃ v,r=.tuple #[v,.bool false]∧RN M w' v 0∧Mod [] w w'):=by
 have la1:=rv_len1 hqa ha.2;have la2:=rv_len2 hqa ka.2;have lb1:=rv_len1 hqb hb.2;have lb2:=rv_len2 hqb kb.2
 refine Ret.of (vs:=[.agg #[.bool sa,an,ad],.agg #[.bool sb,bn,bd]]) (n:=22) Tryz.func82 rfl rfl rfl rfl ?_
 have hm0:Mod [] w w:=Mod.refl _ _
 refine W.seq<|W.region<|L.box rfl rfl ?_
 intro g2 w1 hN2
 replace ha:=ha.new hN2;replace ka:=ka.new hN2;replace hb:=hb.new hN2;replace kb:=kb.new hN2;replace hbd:=hbd.new hN2;have hge_g2:=New.ge hN2 hm0.size;replace hm0:=hm0.trans (hN2.mod.mono (by simp));have hb2:=hN2.blk;clear hN2
 refine L.box rfl rfl ?_
 intro g3 w2 hN3
 replace ha:=ha.new hN3;replace ka:=ka.new hN3;replace hb:=hb.new hN3;replace kb:=kb.new hN3;replace hbd:=hbd.new hN3;have hge_g3:=New.ge hN3 hm0.size;replace hm0:=hm0.trans (hN3.mod.mono (by simp));have hne_g2_g3:=hb2.ne_ hN3;replace hb2:=Blk.gr hb2 hN3.mod;have hb3:=hN3.blk;clear hN3
 refine L.alloc tyZ26 rfl ?_
 intro g4 w3 hN4
 replace ha:=ha.new hN4;replace ka:=ka.new hN4;replace hb:=hb.new hN4;replace kb:=kb.new hN4;replace hbd:=hbd.new hN4;have hge_g4:=New.ge hN4 hm0.size;replace hm0:=hm0.trans (hN4.mod.mono (by simp));have hne_g2_g4:=hb2.ne_ hN4;replace hb2:=Blk.gr hb2 hN4.mod;have hne_g3_g4:=hb3.ne_ hN4;replace hb3:=Blk.gr hb3 hN4.mod;have hb4:=hN4.blk;clear hN4
 refine L.a rfl rfl<|L.nil<|X.seq<|W.seq<|W.region<|L.v (R1.loadBox rfl hb3 tyG26) rfl<|L.call rfl (c_rat_Norm hqb hb kb hbd (by omega) (by omega)) rfl ?_
 rintro _ w4 ⟨⟨A7,c7,B7,e7,rfl,hn7,hd7⟩,hm4⟩
 replace ha:=ha.gr hm4;replace ka:=ka.gr hm4;replace hb:=hb.gr hm4;replace kb:=kb.gr hm4;replace hbd:=hbd.gr hm4;replace hm0:=hm0.trans hm4;replace hb2:=Blk.gr hb2 hm4;replace hb3:=Blk.gr hb3 hm4;replace hb4:=Blk.gr hb4 hm4;clear hm4
 refine L.storeBox rfl rfl hb3 rfl rfl tyG26 ?_
 intro w5 hb3' hm5
 replace ha:=ha.mod hm5 (by simp);replace ka:=ka.mod hm5 (by simp);replace hb:=hb.mod hm5 (by simp);replace kb:=kb.mod hm5 (by simp);replace hbd:=hbd.gr hm5;replace hm0:=hm0.old1 hm5 hge_g3;replace hb2:=Blk.far hb2 hm5 (by first | exact hne_g2_g3 | exact (hne_g3_g2).symm);replace hb4:=Blk.far hb4 hm5 (by first | exact hne_g4_g3 | exact (hne_g3_g4).symm);replace hn7:=hn7.mod hm5 (by simp);replace hd7:=hd7.mod hm5 (by simp);clear hm5;replace hb3:=hb3'; clear hb3'
 refine L.nil<|X.seq<|W.seq<|W.seq<|W.region<|L.v (R1.fieldAt rfl tyF26_1) rfl<|L.v (R1.loadFld rfl hb3 rfl tyP24) rfl<|L.v (R1.lenU rfl (by assumption) tyS24) rfl<|L.v ((R1.eq rfl rfl).asB (c:=true) (by rw [len0,decide_eq_true_eq,num_zero_iff]; exact h0)) rfl<|L.nil<|X.seq ?_
 refine W.condT rfl<|W.seq<|W.region<|L.call rfl (c_rat_Int (n:=0) (by decide) (by decide) hbd) rfl ?_
 rintro _ w6 ⟨⟨A12,c12,B12,e12,rfl,hn12,hd12⟩,hm6⟩
 replace hb:=hb.gr hm6;replace hm0:=hm0.trans hm6;replace hb4:=Blk.gr hb4 hm6;clear hm6
 refine L.storeBox rfl rfl hb4 rfl rfl tyG26 ?_
 intro w7 hb4' hm7
 replace hb:=hb.mod hm7 (by simp);replace hm0:=hm0.old1 hm7 hge_g4;replace hn12:=hn12.mod hm7 (by simp);replace hd12:=hd12.mod hm7 (by simp);clear hm7;replace hb4:=hb4'; clear hb4'
 refine L.a rfl rfl<|L.nil<|X.seq<|W.ret<|X.thenRet<|X.result2 rfl (.cell rfl (loadVar_blk hb4 tyG26) (.tmp rfl .nil)) ?_
 exact ⟨_,rfl,RN.mk (q:=0) rfl (hn12.sub (by intro b hb; simp [hb])) (hd12.sub (by intro b hb; simp [hb])),hm0⟩
theorem c_rat_Div1 {M N8 N9 : List Nat} {w : World} {sa sb : Bool} {an ad bn bd : Value} {xa ya xb yb : List Nat} {qa qb : Rat} (hqa : rv sa (val xa) (val ya) = qa) (hqb : rv sb (val xb) (val yb) = qb) (ha : U32 N8 w an xa) (ka : U32 N8 w ad ya) (hb : U32 N9 w bn xb) (kb : U32 N9 w bd yb) (hbd : Bd M w) (l0 : xa.length ≤ 137438953400) (l1 : ya.length ≤ 137438953400) (l2 : xb.length ≤ 137438953400) (l3 : yb.length ≤ 137438953400) (h0 : qb ≠ 0) :
    Ret Tryz.prog 82 #[.agg #[.bool sa,an,ad],.agg #[.bool sb,bn,bd]] w (fun r w'=>∃ v,r=.tuple #[v,.bool true]∧RN M w' v (qa / qb)∧Mod [] w w'):=by
 have la1:=rv_len1 hqa ha.2;have la2:=rv_len2 hqa ka.2;have lb1:=rv_len1 hqb hb.2;have lb2:=rv_len2 hqb kb.2
 refine Ret.of (vs:=[.agg #[.bool sa,an,ad],.agg #[.bool sb,bn,bd]]) (n:=22) Tryz.func82 rfl rfl rfl rfl ?_
 have hm0:Mod [] w w:=Mod.refl _ _
 refine W.seq<|W.region<|L.box rfl rfl ?_
 intro g2 w1 hN2
 replace ha:=ha.new hN2;replace ka:=ka.new hN2;replace hb:=hb.new hN2;replace kb:=kb.new hN2;replace hbd:=hbd.new hN2;have hge_g2:=New.ge hN2 hm0.size;replace hm0:=hm0.trans (hN2.mod.mono (by simp));have hb2:=hN2.blk;clear hN2
 refine L.box rfl rfl ?_
 intro g3 w2 hN3
 replace ha:=ha.new hN3;replace ka:=ka.new hN3;replace hb:=hb.new hN3;replace kb:=kb.new hN3;replace hbd:=hbd.new hN3;have hge_g3:=New.ge hN3 hm0.size;replace hm0:=hm0.trans (hN3.mod.mono (by simp));have hne_g2_g3:=hb2.ne_ hN3;replace hb2:=Blk.gr hb2 hN3.mod;have hb3:=hN3.blk;clear hN3
 refine L.alloc tyZ26 rfl ?_
 intro g4 w3 hN4
 replace ha:=ha.new hN4;replace ka:=ka.new hN4;replace hb:=hb.new hN4;replace kb:=kb.new hN4;replace hbd:=hbd.new hN4;have hge_g4:=New.ge hN4 hm0.size;replace hm0:=hm0.trans (hN4.mod.mono (by simp));have hne_g2_g4:=hb2.ne_ hN4;replace hb2:=Blk.gr hb2 hN4.mod;have hne_g3_g4:=hb3.ne_ hN4;replace hb3:=Blk.gr hb3 hN4.mod;have hb4:=hN4.blk;clear hN4
 refine L.a rfl rfl<|L.nil<|X.seq<|W.seq<|W.region<|L.v (R1.loadBox rfl hb3 tyG26) rfl<|L.call rfl (c_rat_Norm hqb hb kb hbd (by omega) (by omega)) rfl ?_
 rintro _ w4 ⟨⟨A7,c7,B7,e7,rfl,hn7,hd7⟩,hm4⟩
 replace ha:=ha.gr hm4;replace ka:=ka.gr hm4;replace hb:=hb.gr hm4;replace kb:=kb.gr hm4;replace hbd:=hbd.gr hm4;replace hm0:=hm0.trans hm4;replace hb2:=Blk.gr hb2 hm4;replace hb3:=Blk.gr hb3 hm4;replace hb4:=Blk.gr hb4 hm4;clear hm4
 refine L.storeBox rfl rfl hb3 rfl rfl tyG26 ?_
 intro w5 hb3' hm5
 replace ha:=ha.mod hm5 (by simp);replace ka:=ka.mod hm5 (by simp);replace hb:=hb.mod hm5 (by simp);replace kb:=kb.mod hm5 (by simp);replace hbd:=hbd.gr hm5;replace hm0:=hm0.old1 hm5 hge_g3;replace hb2:=Blk.far hb2 hm5 (by first | exact hne_g2_g3 | exact (hne_g3_g2).symm);replace hb4:=Blk.far hb4 hm5 (by first | exact hne_g4_g3 | exact (hne_g3_g4).symm);replace hn7:=hn7.mod hm5 (by simp);replace hd7:=hd7.mod hm5 (by simp);clear hm5;replace hb3:=hb3'; clear hb3'
 refine L.nil<|X.seq<|W.seq<|W.seq<|W.region<|L.v (R1.fieldAt rfl tyF26_1) rfl<|L.v (R1.loadFld rfl hb3 rfl tyP24) rfl<|L.v (R1.lenU rfl (by assumption) tyS24) rfl<|L.v ((R1.eq rfl rfl).asB (c:=false) (by rw [len0,decide_eq_false_iff_not,num_zero_iff]; exact h0)) rfl<|L.nil<|X.seq ?_
 refine W.condF rfl<|W.skip<|X.seq<|W.seq<|W.region<|L.v (R1.loadBox rfl hb2 tyG26) rfl<|L.v (R1.fieldAt rfl tyF26_0) rfl<|L.v (R1.loadFld rfl hb3 rfl tyP4) rfl<|L.v (R1.fieldAt rfl tyF26_2) rfl<|L.v (R1.loadFld rfl hb3 rfl tyP24) rfl<|L.v (R1.fieldAt rfl tyF26_1) rfl ?_
 refine L.v (R1.loadFld rfl hb3 rfl tyP24) rfl<|L.v (R1.build rfl (built_Q012 _ _ _ _ _ _ _)) rfl<|L.call rfl (c_rat_Mul (qb:=qb⁻¹) hqa (by rw [val_toL,val_toL]; exact inv_num h0) ha ka hd7 hn7 hbd (by omega) (by omega) (by omega) (by omega)) rfl ?_
 rintro _ w6 ⟨⟨A21,c21,B21,e21,rfl,hn21,hd21⟩,hm6⟩
 replace hb:=hb.gr hm6;replace hm0:=hm0.trans hm6;replace hb4:=Blk.gr hb4 hm6;clear hm6
 refine L.storeBox rfl rfl hb4 rfl rfl tyG26 ?_
 intro w7 hb4' hm7
 replace hb:=hb.mod hm7 (by simp);replace hm0:=hm0.old1 hm7 hge_g4;replace hn21:=hn21.mod hm7 (by simp);replace hd21:=hd21.mod hm7 (by simp);clear hm7;replace hb4:=hb4'; clear hb4'
 refine L.a rfl rfl<|L.nil<|X.seq<|W.ret<|X.result2 rfl (.cell rfl (loadVar_blk hb4 tyG26) (.tmp rfl .nil)) ?_
 exact ⟨_,rfl,by rw [Rat.div_def]; exact RN.mk rfl (hn21.sub (by intro b hb; simp [hb])) (hd21.sub (by intro b hb; simp [hb])),hm0⟩
theorem c_rat_Zero {M N9 : List Nat} {w : World} {s : Bool} {vn vd : Value} {xs ys : List Nat} {q : Rat} (hq : rv s (val xs) (val ys) = q) (h : U32 N9 w vn xs) (k : U32 N9 w vd ys) (hbd : Bd M w) (hl1 : xs.length ≤ 1099511627776) (hl2 : ys.length ≤ 1099511627776) :
    Ret Tryz.prog 43 #[.agg #[.bool s,vn,vd]] w (fun r w'=>r=.bool (decide (q=0))∧Mod [] w w'):=by
 refine Ret.of (vs:=[.agg #[.bool s,vn,vd]]) (n:=8) Tryz.func43 rfl rfl rfl rfl ?_
 have hm0:Mod [] w w:=Mod.refl _ _
 refine W.seq<|W.region<|L.box rfl rfl ?_
 intro g1 w1 hN1
 replace h:=h.new hN1;replace k:=k.new hN1;replace hbd:=hbd.new hN1;have hge_g1:=New.ge hN1 hm0.size;replace hm0:=hm0.trans (hN1.mod.mono (by simp));have hb1:=hN1.blk;clear hN1
 refine L.a rfl rfl<|L.nil<|X.seq<|W.seq<|W.region<|L.v (R1.loadBox rfl hb1 tyG26) rfl<|L.call rfl (c_rat_Norm hq h k hbd (by omega) (by omega)) rfl ?_
 rintro _ w2 ⟨⟨A4,c4,B4,e4,rfl,hn4,hd4⟩,hm2⟩
 replace h:=h.gr hm2;replace k:=k.gr hm2;replace hbd:=hbd.gr hm2;replace hm0:=hm0.trans hm2;replace hb1:=Blk.gr hb1 hm2;clear hm2
 refine L.v (R1.fieldV rfl tyFP26_1 rfl) rfl<|L.v (R1.lenU rfl (by assumption) tyS24) rfl<|L.v ((R1.eq rfl rfl).asB (c:=decide (q=0)) (by rw [len0]; congr 1; exact propext (num_zero_iff q))) rfl<|L.a rfl rfl<|L.nil<|X.seq<|W.ret<|X.result1 rfl (.tmp rfl .nil) ?_
 exact ⟨rfl,hm0⟩
theorem c_rat_Large {M N9 : List Nat} {w : World} {s : Bool} {vn vd : Value} {xs ys : List Nat} {q : Rat} (hq : rv s (val xs) (val ys) = q) (h : U32 N9 w vn xs) (k : U32 N9 w vd ys) (hbd : Bd M w) (hl1 : xs.length ≤ 1099511627776) (hl2 : ys.length ≤ 1099511627776) :
    Ret Tryz.prog 48 #[.agg #[.bool s,vn,vd]] w (fun r w'=>r=.bool (largeB q)∧Mod [] w w'):=by
 refine Ret.of (vs:=[.agg #[.bool s,vn,vd]]) (n:=15) Tryz.func48 rfl rfl rfl rfl ?_
 have hm0:Mod [] w w:=Mod.refl _ _
 refine W.seq<|W.region<|L.box rfl rfl ?_
 intro g1 w1 hN1
 replace h:=h.new hN1;replace k:=k.new hN1;replace hbd:=hbd.new hN1;have hge_g1:=New.ge hN1 hm0.size;replace hm0:=hm0.trans (hN1.mod.mono (by simp));have hb1:=hN1.blk;clear hN1
 refine L.a rfl rfl<|L.nil<|X.seq<|W.seq<|W.region<|L.v (R1.loadBox rfl hb1 tyG26) rfl<|L.call rfl (c_rat_Norm hq h k hbd (by omega) (by omega)) rfl ?_
 rintro _ w2 ⟨⟨A4,c4,B4,e4,rfl,hn4,hd4⟩,hm2⟩
 replace h:=h.gr hm2;replace k:=k.gr hm2;replace hbd:=hbd.gr hm2;replace hm0:=hm0.trans hm2;replace hb1:=Blk.gr hb1 hm2;clear hm2
 refine L.storeBox rfl rfl hb1 rfl rfl tyG26 ?_
 intro w3 hb1' hm3
 replace h:=h.mod hm3 (by simp);replace k:=k.mod hm3 (by simp);replace hbd:=hbd.gr hm3;replace hm0:=hm0.old1 hm3 hge_g1;replace hn4:=hn4.mod hm3 (by simp);replace hd4:=hd4.mod hm3 (by simp);clear hm3;replace hb1:=hb1'; clear hb1'
 refine L.nil<|X.seq<|W.seq<|W.region<|L.v (R1.fieldAt rfl tyF26_1) rfl<|L.v (R1.loadFld rfl hb1 rfl tyP24) rfl<|L.v (R1.lenU rfl (by assumption) tyS24) rfl<|L.v ((R1.gt rfl rfl).asB (c:=decide (16<(toL q.num.natAbs).length)) (by congr 1; apply propext; omega)) rfl<|L.m rfl rfl ?_
 cases hgd9:decide (16<(toL q.num.natAbs).length)
 ·
  have hcc_:=hgd9
  refine L.on rfl rfl rfl (R1.fieldAt rfl tyF26_2) rfl<|L.on rfl rfl rfl (R1.loadFld rfl hb1 rfl tyP24) rfl<|L.on rfl rfl rfl (R1.lenU rfl (by assumption) tyS24) rfl<|L.on rfl rfl rfl ((R1.gt rfl rfl).asB (c:=decide (16<(toL q.den).length)) (by congr 1; apply propext; omega)) rfl<|L.v (R1.pickF rfl rfl) rfl<|L.a rfl rfl<|L.nil<|X.seq<|W.ret<|X.result1 rfl (.tmp rfl .nil) ?_
  exact ⟨by unfold largeB; rw [hgd9]; rfl,hm0⟩
 have hcc_:=hgd9
 refine L.off rfl rfl rfl rfl rfl<|L.off rfl rfl rfl rfl rfl<|L.off rfl rfl rfl rfl rfl<|L.off rfl rfl rfl rfl rfl<|L.v (R1.pickT rfl rfl) rfl<|L.a rfl rfl<|L.nil<|X.seq<|W.ret<|X.result1 rfl (.tmp rfl .nil) ?_
 exact ⟨by unfold largeB; rw [hgd9]; rfl,hm0⟩
end Go.Proofs.YtedokfpoajfflaaGreat
