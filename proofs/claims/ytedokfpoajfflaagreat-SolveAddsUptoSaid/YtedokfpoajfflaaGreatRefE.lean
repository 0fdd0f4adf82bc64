/- Walks: what the functions compute. -/
import Derived.Test.YtedokfpoajfflaaGreatRefD
import Derived.Test.YtedokfpoajfflaaGreatPar
namespace Go.Proofs.YtedokfpoajfflaaGreat
open Go.RowKit
set_option linter.unusedVariables false
set_option linter.unusedSimpArgs false
set_option maxRecDepth 10000
theorem c_ref2_Add {M N8 N9 : List Nat} {w : World} {sa sb : Bool} {an ad bn bd : Value} {xa ya xb yb : List Nat} {qa qb : Rat} (hqa : rv sa (val xa) (val ya) = qa) (hqb : rv sb (val xb) (val yb) = qb) (ha : U32 N8 w an xa) (ka : U32 N8 w ad ya) (hb : U32 N9 w bn xb) (kb : U32 N9 w bd yb) (hbd : Bd M w) (l0 : xa.length ≤ 137438953472) (l1 : ya.length ≤ 137438953472) (l2 : xb.length ≤ 137438953472) (l3 : yb.length ≤ 137438953472) :
    Ret Tryz.prog 110 #[.agg #[.bool sa,an,ad],.agg #[.bool sb,bn,bd]] w (fun r w'=>RN M w' r (qa + qb)∧Mod [] w w'):=by
 have la1:=rv_len1 hqa ha.2;have la2:=rv_len2 hqa ka.2;have lb1:=rv_len1 hqb hb.2;have lb2:=rv_len2 hqb kb.2;have m1:=toL_len_mul la1 lb2;have m2:=toL_len_mul lb1 la2;have m3:=toL_len_mul la2 lb2
 refine Ret.of (vs:=[.agg #[.bool sa,an,ad],.agg #[.bool sb,bn,bd]]) (n:=71) Tryz.func110 rfl rfl rfl rfl ?_
 have hm0:Mod [] w w:=Mod.refl _ _
 refine W.seq<|W.region<|L.box rfl rfl ?_
 intro g2 w1 hN2
 replace ha:=ha.new hN2;replace ka:=ka.new hN2;replace hb:=hb.new hN2;replace kb:=kb.new hN2;replace hbd:=hbd.new hN2;replace hm0:=hm0.trans (hN2.mod.mono (by simp));have hb2:=hN2.blk;clear hN2
 refine L.box rfl rfl ?_
 intro g3 w2 hN3
 replace ha:=ha.new hN3;replace ka:=ka.new hN3;replace hb:=hb.new hN3;replace kb:=kb.new hN3;replace hbd:=hbd.new hN3;replace hm0:=hm0.trans (hN3.mod.mono (by simp));replace hb2:=Blk.gr hb2 hN3.mod;have hb3:=hN3.blk;clear hN3
 refine L.alloc tyZ26 rfl ?_
 intro g4 w3 hN4
 replace ha:=ha.new hN4;replace ka:=ka.new hN4;replace hb:=hb.new hN4;replace kb:=kb.new hN4;replace hbd:=hbd.new hN4;have hge_g4:=New.ge hN4 hm0.size;replace hm0:=hm0.trans (hN4.mod.mono (by simp));replace hb2:=Blk.gr hb2 hN4.mod;replace hb3:=Blk.gr hb3 hN4.mod;have hb4:=hN4.blk;clear hN4
 refine L.nil<|X.seq<|W.seq<|W.cut (ι:=Nat × Nat × Option Addr × Nat × Option Addr × Nat × Option Addr × Nat × Option Addr × Nat) (fun (x1,x2,A1,c1,B1,e1,A2,c2,B2,e2)=>[(4,.pointer (some ⟨g4,0,none⟩)),(5,.pointer (some ⟨x1,0,none⟩)),(6,.pointer (some ⟨x2,0,none⟩))]) (fun (x1,x2,A1,c1,B1,e1,A2,c2,B2,e2) w_=>Blk w_ g4 26 #[.bool false,.slice none 0 0,.slice none 0 0]∧Blk w_ x1 26 #[.bool (decide (qa.num<0)),.slice A1 (toL qa.num.natAbs).length c1,.slice B1 (toL qa.den).length e1]∧Blk w_ x2 26 #[.bool (decide (qb.num<0)),.slice A2 (toL qb.num.natAbs).length c2,.slice B2 (toL qb.den).length e2]∧U32 (x2 :: x1 :: g4 :: g3 :: g2 :: M) w_ (.slice A1 (toL qa.num.natAbs).length c1) (toL qa.num.natAbs)∧U32 (x2 :: x1 :: g4 :: g3 :: g2 :: M) w_ (.slice B1 (toL qa.den).length e1) (toL qa.den)∧U32 (x2 :: x1 :: g4 :: g3 :: g2 :: M) w_ (.slice A2 (toL qb.num.natAbs).length c2) (toL qb.num.natAbs)∧U32 (x2 :: x1 :: g4 :: g3 :: g2 :: M) w_ (.slice B2 (toL qb.den).length e2) (toL qb.den)∧Bd (x2 :: x1 :: g4 :: g3 :: g2 :: M) w_∧x1≠g4∧x2≠g4∧Mod [] w w_) ?_ ?_
 ·
  refine W.drawW (T:=[6,7]) rfl (by decide +kernel) (NoHang.join (NoHang.then NoHang.post)) (fun w4 hm4=>?_)
  replace ha:=ha.gr hm4;replace ka:=ka.gr hm4;replace hb:=hb.gr hm4;replace kb:=kb.gr hm4;replace hbd:=hbd.gr hm4;replace hm0:=hm0.trans hm4;replace hb2:=Blk.gr hb2 hm4;replace hb3:=Blk.gr hb3 hm4;replace hb4:=Blk.gr hb4 hm4
  have hS1:Mod [] w4 w4:=Mod.refl _ _
  clear hm4;have hb2_s:=hb2;have hb3_s:=hb3
  refine D.take 0 rfl (by kernel_rfl) (fun w_ hS=>(R1.loadBox rfl (Blk.gr hb2_s hS) tyG26)) hS1 rfl<|D.take 2 rfl (by kernel_rfl) (fun w_ hS=>(R1.loadBox rfl (Blk.gr hb3_s hS) tyG26)) hS1 rfl<|D.par2 1 3 4 5 rfl rfl rfl rfl (by decide +kernel) rfl rfl tyZ26 tyZ26 rfl rfl rfl hS1 (F1:=fun wa v wb=>RN (List.range wa.heap.size) wb v qa) (F2:=fun wa v wb=>RN (List.range wa.heap.size) wb v qb) (fun wa hm=>c_ref2_Norm (M:=List.range wa.heap.size) hqa (ha.gr hm) (ka.gr hm) (range_bd _) (by omega) (by omega)) (fun wa hm=>c_ref2_Norm (M:=List.range wa.heap.size) hqb (hb.gr hm) (kb.gr hm) (range_bd _) (by omega) (by omega)) ?_
  intro v15 v17 g5 g6 wa1_ wb1_ wa2_ wb2_ w5 hP
  obtain ⟨A15,c15,B15,e15,rfl,hn15,hd15⟩:=hP.f1.par hP.n1 (hP.a1 hbd);obtain ⟨A17,c17,B17,e17,rfl,hn17,hd17⟩:=hP.f2.par hP.m3 (hP.a2 hbd);replace hb:=hb.par2 hP;replace hbd:=hbd.par2 hP;have hge_g5:=Nat.le_trans hm0.size hP.ge1;have hge_g6:=Nat.le_trans hm0.size hP.ge2;replace hm0:=hm0.trans (hP.mod.mono (by simp));have hne_g4_g5:=Nat.ne_of_lt (Nat.lt_of_lt_of_le (Blk.lt hb4) hP.ge1);have hne_g4_g6:=Nat.ne_of_lt (Nat.lt_of_lt_of_le (Blk.lt hb4) hP.ge2);replace hb4:=Blk.gr hb4 hP.mod;have hne_g5_g6:=hP.ne;have hb5:=hP.blk1; have hb6:=hP.blk2; clear hP
  refine D.one 6 rfl (by kernel_rfl) (fun hX=>?_)
  refine L.storeBox rfl rfl hb5 rfl rfl tyG26 ?_
  intro w6 hb5' hm6
  replace hb:=hb.mod hm6 (by simp);replace hbd:=hbd.gr hm6;replace hm0:=hm0.old1 hm6 hge_g5;replace hb4:=Blk.far hb4 hm6 (by first | exact hne_g4_g5 | exact (hne_g5_g4).symm);replace hb6:=Blk.far hb6 hm6 (by first | exact hne_g6_g5 | exact (hne_g5_g6).symm);replace hn15:=hn15.mod hm6 (by simp);replace hd15:=hd15.mod hm6 (by simp);replace hn17:=hn17.mod hm6 (by simp);replace hd17:=hd17.mod hm6 (by simp);clear hm6;replace hb5:=hb5'; clear hb5'
  refine L.nil (hX _ _ ⟨.inl rfl,?_⟩)
  refine D.one 7 rfl (by kernel_rfl) (fun hX=>?_)
  refine L.storeBox rfl rfl hb6 rfl rfl tyG26 ?_
  intro w7 hb6' hm7
  replace hb:=hb.mod hm7 (by simp);replace hbd:=hbd.gr hm7;replace hm0:=hm0.old1 hm7 hge_g6;replace hb4:=Blk.far hb4 hm7 (by first | exact hne_g4_g6 | exact (hne_g6_g4).symm);replace hn15:=hn15.mod hm7 (by simp);replace hd15:=hd15.mod hm7 (by simp);replace hn17:=hn17.mod hm7 (by simp);replace hd17:=hd17.mod hm7 (by simp);replace hb5:=Blk.far hb5 hm7 (by first | exact hne_g5_g6 | exact (hne_g6_g5).symm);clear hm7;replace hb6:=hb6'; clear hb6'
  refine L.nil (hX _ _ ⟨.inl rfl,?_⟩)
  refine D.done (by decide +kernel) ?_ _
  refine X.join (g5,g6,A15,c15,B15,e15,A17,c17,B17,e17) ?_ ?_
  · exact ⟨rfl,rfl,rfl,trivial⟩
  refine ⟨hb4,hb5,hb6,(hn15.sub (by intro b hb; simp only [List.mem_cons] at hb ⊢; rcases hb with h | h | h | h | h | h <;> simp [h])),(hd15.sub (by intro b hb; simp only [List.mem_cons] at hb ⊢; rcases hb with h | h | h | h | h | h <;> simp [h])),(hn17.sub (by intro b hb; simp only [List.mem_cons] at hb ⊢; rcases hb with h | h | h | h | h | h <;> simp [h])),(hd17.sub (by intro b hb; simp only [List.mem_cons] at hb ⊢; rcases hb with h | h | h | h | h | h <;> simp [h])),(fun m hm=>hbd m (by simp only [List.mem_cons] at hm ⊢; rcases hm with h | h | h | h | h | h <;> simp [h])),(by first | exact (hne_g4_g5).symm | exact hne_g5_g4),(by first | exact (hne_g4_g6).symm | exact hne_g6_g4),hm0⟩
 rintro ⟨x1,x2,A1,c1,B1,e1,A2,c2,B2,e2⟩ wj ⟨hb4,hbx1,hbx2,hn15,hd15,hn17,hd17,hbd,hne_x1_g4,hne_x2_g4,hm0⟩
 refine X.seq<|W.seq<|W.drawW (T:=[]) rfl (by decide +kernel) (NoHang.then NoHang.post) (fun w8 hm8=>?_)
 replace hb4:=Blk.gr hb4 hm8;replace hbx1:=Blk.gr hbx1 hm8;replace hbx2:=Blk.gr hbx2 hm8;replace hn15:=hn15.gr hm8;replace hd15:=hd15.gr hm8;replace hn17:=hn17.gr hm8;replace hd17:=hd17.gr hm8;replace hbd:=hbd.gr hm8;replace hm0:=hm0.trans hm8
 have hS2:Mod [] w8 w8:=Mod.refl _ _
 clear hm8;have hbx1_s:=hbx1;have hbx2_s:=hbx2
 refine D.take 0 rfl (by kernel_rfl) (fun w_ hS=>(R1.fieldAt rfl tyF26_1)) hS2 rfl<|D.take 1 rfl (by kernel_rfl) (fun w_ hS=>(R1.loadFld rfl (Blk.gr hbx1_s hS) rfl tyP24)) hS2 rfl<|D.take 2 rfl (by kernel_rfl) (fun w_ hS=>(R1.fieldAt rfl tyF26_2)) hS2 rfl<|D.take 3 rfl (by kernel_rfl) (fun w_ hS=>(R1.loadFld rfl (Blk.gr hbx2_s hS) rfl tyP24)) hS2 rfl<|D.take 5 rfl (by kernel_rfl) (fun w_ hS=>(R1.fieldAt rfl tyF26_1)) hS2 rfl<|D.take 6 rfl (by kernel_rfl) (fun w_ hS=>(R1.loadFld rfl (Blk.gr hbx2_s hS) rfl tyP24)) hS2 rfl<|D.take 7 rfl (by kernel_rfl) (fun w_ hS=>(R1.fieldAt rfl tyF26_2)) hS2 rfl<|D.take 8 rfl (by kernel_rfl) (fun w_ hS=>(R1.loadFld rfl (Blk.gr hbx1_s hS) rfl tyP24)) hS2 rfl<|D.one 4 rfl (by kernel_rfl) (fun hX=>?_)
 refine L.call rfl (c_r1_Mul hn15 hd17 hbd (by omega) (by omega)) rfl ?_
 rintro v22 w9 ⟨h22,hm9⟩
 replace hb4:=Blk.gr hb4 hm9;replace hbx1:=Blk.gr hbx1 hm9;replace hbx2:=Blk.gr hbx2 hm9;replace hd15:=hd15.gr hm9;replace hn17:=hn17.gr hm9;replace hd17:=hd17.gr hm9;replace hbd:=hbd.gr hm9;replace hm0:=hm0.trans hm9;replace hS2:=hS2.trans hm9;clear hm9
 rw [val_toL,val_toL] at h22
 refine L.nil (hX _ _ ⟨.inr hS2,?_⟩)
 refine D.one 9 rfl (by kernel_rfl) (fun hX=>?_)
 refine L.call rfl (c_r1_Mul hn17 hd15 hbd (by omega) (by omega)) rfl ?_
 rintro v27 w10 ⟨h27,hm10⟩
 replace hb4:=Blk.gr hb4 hm10;replace hbx1:=Blk.gr hbx1 hm10;replace hbx2:=Blk.gr hbx2 hm10;replace hd15:=hd15.gr hm10;replace hd17:=hd17.gr hm10;replace hbd:=hbd.gr hm10;replace hm0:=hm0.trans hm10;replace h22:=h22.gr hm10;replace hS2:=hS2.trans hm10;clear hm10
 rw [val_toL,val_toL] at h27
 refine L.nil (hX _ _ ⟨.inr hS2,?_⟩)
 refine D.take 10 rfl (by kernel_rfl) (fun w_ hS=>(R1.assign rfl)) hS2 rfl<|D.take 11 rfl (by kernel_rfl) (fun w_ hS=>(R1.assign rfl)) hS2 rfl<|D.done (by decide +kernel) ?_ _
 refine X.seq<|W.seq<|W.region<|L.v (R1.fieldAt rfl tyF26_2) rfl<|L.v (R1.loadFld rfl hbx1 rfl tyP24) rfl<|L.v (R1.fieldAt rfl tyF26_2) rfl<|L.v (R1.loadFld rfl hbx2 rfl tyP24) rfl<|L.call rfl (c_r1_Mul hd15 hd17 hbd (by omega) (by omega)) rfl ?_
 rintro v32 w11 ⟨h32,hm11⟩
 replace hb4:=Blk.gr hb4 hm11;replace hbx1:=Blk.gr hbx1 hm11;replace hbx2:=Blk.gr hbx2 hm11;replace hbd:=hbd.gr hm11;replace hm0:=hm0.trans hm11;replace h22:=h22.gr hm11;replace h27:=h27.gr hm11;clear hm11
 rw [val_toL,val_toL] at h32
 refine L.a rfl rfl<|L.nil<|X.seq<|W.seq<|W.seq<|W.region<|L.v (R1.fieldAt rfl tyF26_0) rfl<|L.v (R1.loadFld rfl hbx1 rfl tyP4) rfl<|L.v (R1.fieldAt rfl tyF26_0) rfl<|L.v (R1.loadFld rfl hbx2 rfl tyP4) rfl<|L.v (R1.eqB rfl rfl tyB4) rfl ?_
 refine L.nil<|X.seq<|W.cond rfl ?_ ?_
 ·
  intro hc37
  have hcc_:=hc37
  have hsame:decide (qa.num<0)=decide (qb.num<0):=by simpa using hc37
  have m4:=toL_len_add (c:=1099511627770) (Nat.le_trans m1 (by omega)) (Nat.le_trans m2 (by omega))
  refine W.seq<|W.drawW (T:=[7]) rfl (by decide +kernel) (NoHang.then (NoHang.then NoHang.post)) (fun w12 hm12=>?_)
  replace hb4:=Blk.gr hb4 hm12;replace hbx1:=Blk.gr hbx1 hm12;replace hbd:=hbd.gr hm12;replace hm0:=hm0.trans hm12;replace h22:=h22.gr hm12;replace h27:=h27.gr hm12;replace h32:=h32.gr hm12
  have hS3:Mod [] w12 w12:=Mod.refl _ _
  clear hm12;have hbx1_s:=hbx1
  refine D.take 0 rfl (by kernel_rfl) (fun w_ hS=>(R1.fieldAt rfl tyF26_0)) hS3 rfl<|D.take 1 rfl (by kernel_rfl) (fun w_ hS=>(R1.loadFld rfl (Blk.gr hbx1_s hS) rfl tyP4)) hS3 rfl<|D.m 2 rfl (by kernel_rfl) rfl hS3 rfl<|D.m 3 rfl (by kernel_rfl) rfl hS3 rfl<|D.m 5 rfl (by kernel_rfl) rfl hS3 rfl<|D.one 4 rfl (by kernel_rfl) (fun hX=>?_)
  refine L.call rfl (c_r1_Add h22 h27 hbd (by omega) (by omega)) rfl ?_
  rintro v42 w13 ⟨h42,hm13⟩
  replace hb4:=Blk.gr hb4 hm13;replace hbd:=hbd.gr hm13;replace hm0:=hm0.trans hm13;replace h32:=h32.gr hm13;replace hS3:=hS3.trans hm13;clear hm13
  rw [val_toL,val_toL] at h42
  refine L.nil (hX _ _ ⟨.inr hS3,?_⟩)
  refine D.one 6 rfl (by kernel_rfl) (fun hX=>?_)
  refine L.call rfl (c_ref2_Of (q:=qa + qb) (by rw [val_toL,val_toL]; exact add_same hsame) h42 h32 hbd (by omega) (by omega)) rfl ?_
  rintro _ w14 ⟨⟨A44,c44,B44,e44,rfl,hn44,hd44⟩,hm14⟩
  replace hb4:=Blk.gr hb4 hm14;replace hm0:=hm0.trans hm14;replace hS3:=hS3.trans hm14;clear hm14
  refine L.nil (hX _ _ ⟨.inr hS3,?_⟩)
  refine D.one 7 rfl (by kernel_rfl) (fun hX=>?_)
  refine L.storeBox rfl rfl hb4 rfl rfl tyG26 ?_
  intro w15 hb4' hm15
  replace hm0:=hm0.old1 hm15 hge_g4;replace hn44:=hn44.mod hm15 (by simp);replace hd44:=hd44.mod hm15 (by simp);clear hm15;replace hb4:=hb4'; clear hb4'
  refine L.nil (hX _ _ ⟨.inl rfl,?_⟩)
  refine D.done (by decide +kernel) ?_ _
  refine X.seq<|W.ret<|X.thenRet<|X.result1 rfl (.cell rfl (loadVar_blk hb4 tyG26) .nil) ?_
  exact ⟨RN.mk rfl (hn44.sub (by intro b hb; simp [hb])) (hd44.sub (by intro b hb; simp [hb])),hm0⟩
 intro hc37
 have hcc_:=hc37
 have hdiff:decide (qa.num<0)≠decide (qb.num<0):=by simpa using hc37
 refine W.skip<|X.seq<|W.seq<|W.seq<|W.region<|L.m rfl rfl<|L.m rfl rfl<|L.call rfl (c_r1_Cmp h22 h27 hbd (by omega) (by omega)) rfl ?_
 rintro _ w16 ⟨rfl,hm16⟩
 replace hb4:=Blk.gr hb4 hm16;replace hbx1:=Blk.gr hbx1 hm16;replace hbx2:=Blk.gr hbx2 hm16;replace hbd:=hbd.gr hm16;replace hm0:=hm0.trans hm16;replace h22:=h22.gr hm16;replace h27:=h27.gr hm16;replace h32:=h32.gr hm16;clear hm16
 refine L.v ((R1.ge rfl rfl).asB (c:=decide (qb.num.natAbs * qa.den≤qa.num.natAbs * qb.den)) (by rw [cmpI_ge0,val_toL,val_toL])) rfl<|L.nil<|X.seq<|W.cond rfl ?_ ?_
 ·
  intro hc48
  try simp only [bq,ne_eq] at hc48
  have m5:=toL_len_mono (Nat.sub_le (qa.num.natAbs * qb.den) (qb.num.natAbs * qa.den))
  refine W.seq<|W.region<|L.m rfl rfl<|L.m rfl rfl<|L.call rfl (c_r1_Sub h22 h27 hbd (by omega) (by omega) (by rw [val_toL,val_toL]; exact hc48)) rfl ?_
  rintro _ w17 ⟨v52,rfl,h52,hm17⟩
  replace hb4:=Blk.gr hb4 hm17;replace hbx1:=Blk.gr hbx1 hm17;replace hbd:=hbd.gr hm17;replace hm0:=hm0.trans hm17;replace h32:=h32.gr hm17;clear hm17
  rw [val_toL,val_toL] at h52
  refine L.m rfl rfl<|L.v (R1.extract rfl rfl) rfl<|L.v (R1.extract rfl rfl) rfl<|L.a rfl rfl<|L.a rfl rfl<|L.nil<|X.seq<|W.seq<|W.region<|L.v (R1.fieldAt rfl tyF26_0) rfl<|L.v (R1.loadFld rfl hbx1 rfl tyP4) rfl ?_
  refine L.m rfl rfl<|L.m rfl rfl<|L.call rfl (c_ref2_Of (q:=qa + qb) (by rw [val_toL,val_toL]; exact add_ge hdiff hc48) h52 h32 hbd (by omega) (by omega)) rfl ?_
  rintro _ w18 ⟨⟨A59,c59,B59,e59,rfl,hn59,hd59⟩,hm18⟩
  replace hb4:=Blk.gr hb4 hm18;replace hm0:=hm0.trans hm18;clear hm18
  refine L.storeBox rfl rfl hb4 rfl rfl tyG26 ?_
  intro w19 hb4' hm19
  replace hm0:=hm0.old1 hm19 hge_g4;replace hn59:=hn59.mod hm19 (by simp);replace hd59:=hd59.mod hm19 (by simp);clear hm19;replace hb4:=hb4'; clear hb4'
  refine L.nil<|X.seq<|W.ret<|X.thenRet<|X.result1 rfl (.cell rfl (loadVar_blk hb4 tyG26) .nil) ?_
  exact ⟨RN.mk rfl (hn59.sub (by intro b hb; simp [hb])) (hd59.sub (by intro b hb; simp [hb])),hm0⟩
 intro hc48
 try simp only [bq,ne_eq] at hc48
 have hle:qa.num.natAbs * qb.den≤qb.num.natAbs * qa.den:=by omega
 have m5:=toL_len_mono (Nat.sub_le (qb.num.natAbs * qa.den) (qa.num.natAbs * qb.den))
 refine W.skip<|X.seq<|W.seq<|W.region<|L.m rfl rfl<|L.m rfl rfl<|L.call rfl (c_r1_Sub h27 h22 hbd (by omega) (by omega) (by rw [val_toL,val_toL]; exact hle)) rfl ?_
 rintro _ w20 ⟨v63,rfl,h63,hm20⟩
 replace hb4:=Blk.gr hb4 hm20;replace hbx2:=Blk.gr hbx2 hm20;replace hbd:=hbd.gr hm20;replace hm0:=hm0.trans hm20;replace h32:=h32.gr hm20;clear hm20
 rw [val_toL,val_toL] at h63
 refine L.m rfl rfl<|L.v (R1.extract rfl rfl) rfl<|L.v (R1.extract rfl rfl) rfl<|L.a rfl rfl<|L.a rfl rfl<|L.nil<|X.seq<|W.seq<|W.region<|L.v (R1.fieldAt rfl tyF26_0) rfl<|L.v (R1.loadFld rfl hbx2 rfl tyP4) rfl ?_
 refine L.m rfl rfl<|L.m rfl rfl<|L.call rfl (c_ref2_Of (q:=qa + qb) (by rw [val_toL,val_toL]; exact add_lt hdiff hle) h63 h32 hbd (by omega) (by omega)) rfl ?_
 rintro _ w21 ⟨⟨A70,c70,B70,e70,rfl,hn70,hd70⟩,hm21⟩
 replace hb4:=Blk.gr hb4 hm21;replace hm0:=hm0.trans hm21;clear hm21
 refine L.storeBox rfl rfl hb4 rfl rfl tyG26 ?_
 intro w22 hb4' hm22
 replace hm0:=hm0.old1 hm22 hge_g4;replace hn70:=hn70.mod hm22 (by simp);replace hd70:=hd70.mod hm22 (by simp);clear hm22;replace hb4:=hb4'; clear hb4'
 refine L.nil<|X.seq<|W.ret<|X.result1 rfl (.cell rfl (loadVar_blk hb4 tyG26) .nil) ?_
 exact ⟨RN.mk rfl (hn70.sub (by intro b hb; simp [hb])) (hd70.sub (by intro b hb; simp [hb])),hm0⟩
theorem c_ref2_Mul {M N8 N9 : List Nat} {w : World} {sa sb : Bool} {an ad bn bd : Value} {xa ya xb yb : List Nat} {qa qb : Rat} (hqa : rv sa (val xa) (val ya) = qa) (hqb : rv sb (val xb) (val yb) = qb) (ha : U32 N8 w an xa) (ka : U32 N8 w ad ya) (hb : U32 N9 w bn xb) (kb : U32 N9 w bd yb) (hbd : Bd M w) (l0 : xa.length ≤ 137438953472) (l1 : ya.length ≤ 137438953472) (l2 : xb.length ≤ 137438953472) (l3 : yb.length ≤ 137438953472) :
    Ret Tryz.prog 111 #[.agg #[.bool sa,an,ad],.agg #[.bool sb,bn,bd]] w (fun r w'=>RN M w' r (qa * qb)∧Mod [] w w'):=by
 have la1:=rv_len1 hqa ha.2;have la2:=rv_len2 hqa ka.2;have lb1:=rv_len1 hqb hb.2;have lb2:=rv_len2 hqb kb.2;have m1:=toL_len_mul la1 lb1;have m3:=toL_len_mul la2 lb2
 refine Ret.of (vs:=[.agg #[.bool sa,an,ad],.agg #[.bool sb,bn,bd]]) (n:=27) Tryz.func111 rfl rfl rfl rfl ?_
 have hm0:Mod [] w w:=Mod.refl _ _
 refine W.seq<|W.region<|L.box rfl rfl ?_
 intro g2 w1 hN2
 replace ha:=ha.new hN2;replace ka:=ka.new hN2;replace hb:=hb.new hN2;replace kb:=kb.new hN2;replace hbd:=hbd.new hN2;replace hm0:=hm0.trans (hN2.mod.mono (by simp));have hb2:=hN2.blk;clear hN2
 refine L.box rfl rfl ?_
 intro g3 w2 hN3
 replace ha:=ha.new hN3;replace ka:=ka.new hN3;replace hb:=hb.new hN3;replace kb:=kb.new hN3;replace hbd:=hbd.new hN3;replace hm0:=hm0.trans (hN3.mod.mono (by simp));replace hb2:=Blk.gr hb2 hN3.mod;have hb3:=hN3.blk;clear hN3
 refine L.alloc tyZ26 rfl ?_
 intro g4 w3 hN4
 replace ha:=ha.new hN4;replace ka:=ka.new hN4;replace hb:=hb.new hN4;replace kb:=kb.new hN4;replace hbd:=hbd.new hN4;have hge_g4:=New.ge hN4 hm0.size;replace hm0:=hm0.trans (hN4.mod.mono (by simp));replace hb2:=Blk.gr hb2 hN4.mod;replace hb3:=Blk.gr hb3 hN4.mod;have hb4:=hN4.blk;clear hN4
 refine L.nil<|X.seq<|W.seq<|W.cut (ι:=Nat × Nat × Option Addr × Nat × Option Addr × Nat × Option Addr × Nat × Option Addr × Nat) (fun (x1,x2,A1,c1,B1,e1,A2,c2,B2,e2)=>[(4,.pointer (some ⟨g4,0,none⟩)),(5,.pointer (some ⟨x1,0,none⟩)),(6,.pointer (some ⟨x2,0,none⟩))]) (fun (x1,x2,A1,c1,B1,e1,A2,c2,B2,e2) w_=>Blk w_ g4 26 #[.bool false,.slice none 0 0,.slice none 0 0]∧Blk w_ x1 26 #[.bool (decide (qa.num<0)),.slice A1 (toL qa.num.natAbs).length c1,.slice B1 (toL qa.den).length e1]∧Blk w_ x2 26 #[.bool (decide (qb.num<0)),.slice A2 (toL qb.num.natAbs).length c2,.slice B2 (toL qb.den).length e2]∧U32 (x2 :: x1 :: g4 :: g3 :: g2 :: M) w_ (.slice A1 (toL qa.num.natAbs).length c1) (toL qa.num.natAbs)∧U32 (x2 :: x1 :: g4 :: g3 :: g2 :: M) w_ (.slice B1 (toL qa.den).length e1) (toL qa.den)∧U32 (x2 :: x1 :: g4 :: g3 :: g2 :: M) w_ (.slice A2 (toL qb.num.natAbs).length c2) (toL qb.num.natAbs)∧U32 (x2 :: x1 :: g4 :: g3 :: g2 :: M) w_ (.slice B2 (toL qb.den).length e2) (toL qb.den)∧Bd (x2 :: x1 :: g4 :: g3 :: g2 :: M) w_∧x1≠g4∧x2≠g4∧Mod [] w w_) ?_ ?_
 ·
  refine W.drawW (T:=[6,7]) rfl (by decide +kernel) (NoHang.join (NoHang.then NoHang.post)) (fun w4 hm4=>?_)
  replace ha:=ha.gr hm4;replace ka:=ka.gr hm4;replace hb:=hb.gr hm4;replace kb:=kb.gr hm4;replace hbd:=hbd.gr hm4;replace hm0:=hm0.trans hm4;replace hb2:=Blk.gr hb2 hm4;replace hb3:=Blk.gr hb3 hm4;replace hb4:=Blk.gr hb4 hm4
  have hS1:Mod [] w4 w4:=Mod.refl _ _
  clear hm4;have hb2_s:=hb2;have hb3_s:=hb3
  refine D.take 0 rfl (by kernel_rfl) (fun w_ hS=>(R1.loadBox rfl (Blk.gr hb2_s hS) tyG26)) hS1 rfl<|D.take 2 rfl (by kernel_rfl) (fun w_ hS=>(R1.loadBox rfl (Blk.gr hb3_s hS) tyG26)) hS1 rfl<|D.par2 1 3 4 5 rfl rfl rfl rfl (by decide +kernel) rfl rfl tyZ26 tyZ26 rfl rfl rfl hS1 (F1:=fun wa v wb=>RN (List.range wa.heap.size) wb v qa) (F2:=fun wa v wb=>RN (List.range wa.heap.size) wb v qb) (fun wa hm=>c_ref2_Norm (M:=List.range wa.heap.size) hqa (ha.gr hm) (ka.gr hm) (range_bd _) (by omega) (by omega)) (fun wa hm=>c_ref2_Norm (M:=List.range wa.heap.size) hqb (hb.gr hm) (kb.gr hm) (range_bd _) (by omega) (by omega)) ?_
  intro v8 v10 g5 g6 wa1_ wb1_ wa2_ wb2_ w5 hP
  obtain ⟨A8,c8,B8,e8,rfl,hn8,hd8⟩:=hP.f1.par hP.n1 (hP.a1 hbd);obtain ⟨A10,c10,B10,e10,rfl,hn10,hd10⟩:=hP.f2.par hP.m3 (hP.a2 hbd);replace hb:=hb.par2 hP;replace hbd:=hbd.par2 hP;have hge_g5:=Nat.le_trans hm0.size hP.ge1;have hge_g6:=Nat.le_trans hm0.size hP.ge2;replace hm0:=hm0.trans (hP.mod.mono (by simp));have hne_g4_g5:=Nat.ne_of_lt (Nat.lt_of_lt_of_le (Blk.lt hb4) hP.ge1);have hne_g4_g6:=Nat.ne_of_lt (Nat.lt_of_lt_of_le (Blk.lt hb4) hP.ge2);replace hb4:=Blk.gr hb4 hP.mod;have hne_g5_g6:=hP.ne;have hb5:=hP.blk1; have hb6:=hP.blk2; clear hP
  refine D.one 6 rfl (by kernel_rfl) (fun hX=>?_)
  refine L.storeBox rfl rfl hb5 rfl rfl tyG26 ?_
  intro w6 hb5' hm6
  replace hb:=hb.mod hm6 (by simp);replace hbd:=hbd.gr hm6;replace hm0:=hm0.old1 hm6 hge_g5;replace hb4:=Blk.far hb4 hm6 (by first | exact hne_g4_g5 | exact (hne_g5_g4).symm);replace hb6:=Blk.far hb6 hm6 (by first | exact hne_g6_g5 | exact (hne_g5_g6).symm);replace hn8:=hn8.mod hm6 (by simp);replace hd8:=hd8.mod hm6 (by simp);replace hn10:=hn10.mod hm6 (by simp);replace hd10:=hd10.mod hm6 (by simp);clear hm6;replace hb5:=hb5'; clear hb5'
  refine L.nil (hX _ _ ⟨.inl rfl,?_⟩)
  refine D.one 7 rfl (by kernel_rfl) (fun hX=>?_)
  refine L.storeBox rfl rfl hb6 rfl rfl tyG26 ?_
  intro w7 hb6' hm7
  replace hb:=hb.mod hm7 (by simp);replace hbd:=hbd.gr hm7;replace hm0:=hm0.old1 hm7 hge_g6;replace hb4:=Blk.far hb4 hm7 (by first | exact hne_g4_g6 | exact (hne_g6_g4).symm);replace hn8:=hn8.mod hm7 (by simp);replace hd8:=hd8.mod hm7 (by simp);replace hn10:=hn10.mod hm7 (by simp);replace hd10:=hd10.mod hm7 (by simp);replace hb5:=Blk.far hb5 hm7 (by first | exact hne_g5_g6 | exact (hne_g6_g5).symm);clear hm7;replace hb6:=hb6'; clear hb6'
  refine L.nil (hX _ _ ⟨.inl rfl,?_⟩)
  refine D.done (by decide +kernel) ?_ _
  refine X.join (g5,g6,A8,c8,B8,e8,A10,c10,B10,e10) ?_ ?_
  · exact ⟨rfl,rfl,rfl,trivial⟩
  refine ⟨hb4,hb5,hb6,(hn8.sub (by intro b hb; simp only [List.mem_cons] at hb ⊢; rcases hb with h | h | h | h | h | h <;> simp [h])),(hd8.sub (by intro b hb; simp only [List.mem_cons] at hb ⊢; rcases hb with h | h | h | h | h | h <;> simp [h])),(hn10.sub (by intro b hb; simp only [List.mem_cons] at hb ⊢; rcases hb with h | h | h | h | h | h <;> simp [h])),(hd10.sub (by intro b hb; simp only [List.mem_cons] at hb ⊢; rcases hb with h | h | h | h | h | h <;> simp [h])),(fun m hm=>hbd m (by simp only [List.mem_cons] at hm ⊢; rcases hm with h | h | h | h | h | h <;> simp [h])),(by first | exact (hne_g4_g5).symm | exact hne_g5_g4),(by first | exact (hne_g4_g6).symm | exact hne_g6_g4),hm0⟩
 rintro ⟨x1,x2,A1,c1,B1,e1,A2,c2,B2,e2⟩ wj ⟨hb4,hbx1,hbx2,hn8,hd8,hn10,hd10,hbd,hne_x1_g4,hne_x2_g4,hm0⟩
 refine X.seq<|W.seq<|W.drawW (T:=[16]) rfl (by decide +kernel) (NoHang.then NoHang.post) (fun w8 hm8=>?_)
 replace hb4:=Blk.gr hb4 hm8;replace hbx1:=Blk.gr hbx1 hm8;replace hbx2:=Blk.gr hbx2 hm8;replace hn8:=hn8.gr hm8;replace hd8:=hd8.gr hm8;replace hn10:=hn10.gr hm8;replace hd10:=hd10.gr hm8;replace hbd:=hbd.gr hm8;replace hm0:=hm0.trans hm8
 have hS2:Mod [] w8 w8:=Mod.refl _ _
 clear hm8;have hbx1_s:=hbx1;have hbx2_s:=hbx2
 refine D.take 0 rfl (by kernel_rfl) (fun w_ hS=>(R1.fieldAt rfl tyF26_0)) hS2 rfl<|D.take 1 rfl (by kernel_rfl) (fun w_ hS=>(R1.loadFld rfl (Blk.gr hbx1_s hS) rfl tyP4)) hS2 rfl<|D.take 2 rfl (by kernel_rfl) (fun w_ hS=>(R1.fieldAt rfl tyF26_0)) hS2 rfl<|D.take 3 rfl (by kernel_rfl) (fun w_ hS=>(R1.loadFld rfl (Blk.gr hbx2_s hS) rfl tyP4)) hS2 rfl<|D.take 4 rfl (by kernel_rfl) (fun w_ hS=>(R1.neB rfl rfl tyB4)) hS2 rfl<|D.take 5 rfl (by kernel_rfl) (fun w_ hS=>(R1.fieldAt rfl tyF26_1)) hS2 rfl<|D.take 6 rfl (by kernel_rfl) (fun w_ hS=>(R1.loadFld rfl (Blk.gr hbx1_s hS) rfl tyP24)) hS2 rfl<|D.take 7 rfl (by kernel_rfl) (fun w_ hS=>(R1.fieldAt rfl tyF26_1)) hS2 rfl<|D.take 8 rfl (by kernel_rfl) (fun w_ hS=>(R1.loadFld rfl (Blk.gr hbx2_s hS) rfl tyP24)) hS2 rfl<|D.take 10 rfl (by kernel_rfl) (fun w_ hS=>(R1.fieldAt rfl tyF26_2)) hS2 rfl<|D.take 11 rfl (by kernel_rfl) (fun w_ hS=>(R1.loadFld rfl (Blk.gr hbx1_s hS) rfl tyP24)) hS2 rfl ?_
 refine D.take 12 rfl (by kernel_rfl) (fun w_ hS=>(R1.fieldAt rfl tyF26_2)) hS2 rfl<|D.take 13 rfl (by kernel_rfl) (fun w_ hS=>(R1.loadFld rfl (Blk.gr hbx2_s hS) rfl tyP24)) hS2 rfl<|D.one 9 rfl (by kernel_rfl) (fun hX=>?_)
 refine L.call rfl (c_r1_Mul hn8 hn10 hbd (by omega) (by omega)) rfl ?_
 rintro v20 w9 ⟨h20,hm9⟩
 replace hb4:=Blk.gr hb4 hm9;replace hd8:=hd8.gr hm9;replace hd10:=hd10.gr hm9;replace hbd:=hbd.gr hm9;replace hm0:=hm0.trans hm9;replace hS2:=hS2.trans hm9;clear hm9
 rw [val_toL,val_toL] at h20
 refine L.nil (hX _ _ ⟨.inr hS2,?_⟩)
 refine D.one 14 rfl (by kernel_rfl) (fun hX=>?_)
 refine L.call rfl (c_r1_Mul hd8 hd10 hbd (by omega) (by omega)) rfl ?_
 rintro v25 w10 ⟨h25,hm10⟩
 replace hb4:=Blk.gr hb4 hm10;replace hbd:=hbd.gr hm10;replace hm0:=hm0.trans hm10;replace h20:=h20.gr hm10;replace hS2:=hS2.trans hm10;clear hm10
 rw [val_toL,val_toL] at h25
 refine L.nil (hX _ _ ⟨.inr hS2,?_⟩)
 refine D.one 15 rfl (by kernel_rfl) (fun hX=>?_)
 refine L.call rfl (c_ref2_Of (q:=qa * qb) (by rw [val_toL,val_toL]; exact mul_num qa qb) h20 h25 hbd (by omega) (by omega)) rfl ?_
 rintro _ w11 ⟨⟨A26,c26,B26,e26,rfl,hn26,hd26⟩,hm11⟩
 replace hb4:=Blk.gr hb4 hm11;replace hm0:=hm0.trans hm11;replace hS2:=hS2.trans hm11;clear hm11
 refine L.nil (hX _ _ ⟨.inr hS2,?_⟩)
 refine D.one 16 rfl (by kernel_rfl) (fun hX=>?_)
 refine L.storeBox rfl rfl hb4 rfl rfl tyG26 ?_
 intro w12 hb4' hm12
 replace hm0:=hm0.old1 hm12 hge_g4;replace hn26:=hn26.mod hm12 (by simp);replace hd26:=hd26.mod hm12 (by simp);clear hm12;replace hb4:=hb4'; clear hb4'
 refine L.nil (hX _ _ ⟨.inl rfl,?_⟩)
 refine D.done (by decide +kernel) ?_ _
 refine X.seq<|W.ret<|X.result1 rfl (.cell rfl (loadVar_blk hb4 tyG26) .nil) ?_
 exact ⟨RN.mk rfl (hn26.sub (by intro b hb; simp [hb])) (hd26.sub (by intro b hb; simp [hb])),hm0⟩
theorem c_ref2_Div0 {M N8 N9 : List Nat} {w : World} {sa sb : Bool} {an ad bn bd : Value} {xa ya xb yb : List Nat} {qa qb : Rat} (hqa : rv sa (val xa) (val ya) = qa) (hqb : rv sb (val xb) (val yb) = qb) (ha : U32 N8 w an xa) (ka : U32 N8 w ad ya) (hb : U32 N9 w bn xb) (kb : U32 N9 w bd yb) (hbd : Bd M w) (l0 : xa.length ≤ 137438953472) (l1 : ya.length ≤ 137438953472) (l2 : xb.length ≤ 137438953472) (l3 : yb.length ≤ 137438953472) (h0 : qb = 0) :
    Ret Tryz.prog 86 #[.agg #[.bool sa,an,ad],.agg #[.bool sb,bn,bd]] w (fun r w'=>∃ v,r=.tuple #[v,.bool false]∧RN M w' v 0∧Mod [] w w'):=by
 have la1:=rv_len1 hqa ha.2;have la2:=rv_len2 hqa ka.2;have lb1:=rv_len1 hqb hb.2;have lb2:=rv_len2 hqb kb.2
 refine Ret.of (vs:=[.agg #[.bool sa,an,ad],.agg #[.bool sb,bn,bd]]) (n:=34) Tryz.func86 rfl rfl rfl rfl ?_
 have hm0:Mod [] w w:=Mod.refl _ _
 refine W.seq<|W.region<|L.box rfl rfl ?_
 intro g2 w1 hN2
 replace ha:=ha.new hN2;replace ka:=ka.new hN2;replace hb:=hb.new hN2;replace kb:=kb.new hN2;replace hbd:=hbd.new hN2;have hge_g2:=New.ge hN2 hm0.size;replace hm0:=hm0.trans (hN2.mod.mono (by simp));have hb2:=hN2.blk;clear hN2
 refine L.box rfl rfl ?_
 intro g3 w2 hN3
 replace ha:=ha.new hN3;replace ka:=ka.new hN3;replace hb:=hb.new hN3;replace kb:=kb.new hN3;replace hbd:=hbd.new hN3;have hge_g3:=New.ge hN3 hm0.size;replace hm0:=hm0.trans (hN3.mod.mono (by simp));have hne_g2_g3:=hb2.ne_ hN3;replace hb2:=Blk.gr hb2 hN3.mod;have hb3:=hN3.blk;clear hN3
 refine L.alloc tyZ26 rfl ?_
 intro g4 w3 hN4
 replace ha:=ha.new hN4;replace ka:=ka.new hN4;replace hb:=hb.new hN4;replace kb:=kb.new hN4;replace hbd:=hbd.new hN4;have hge_g4:=New.ge hN4 hm0.size;replace hm0:=hm0.trans (hN4.mod.mono (by simp));have hne_g2_g4:=hb2.ne_ hN4;replace hb2:=Blk.gr hb2 hN4.mod;have hne_g3_g4:=hb3.ne_ hN4;replace hb3:=Blk.gr hb3 hN4.mod;have hb4:=hN4.blk;clear hN4
 refine L.a rfl rfl<|L.nil<|X.seq<|W.seq<|W.cut (ι:=Nat × Nat × Option Addr × Nat × Option Addr × Nat × Option Addr × Nat × Option Addr × Nat) (fun (x1,x2,A1,c1,B1,e1,A2,c2,B2,e2)=>[(4,.pointer (some ⟨g4,0,none⟩)),(6,.pointer (some ⟨x1,0,none⟩)),(7,.pointer (some ⟨x2,0,none⟩))]) (fun (x1,x2,A1,c1,B1,e1,A2,c2,B2,e2) w_=>Blk w_ g4 26 #[.bool false,.slice none 0 0,.slice none 0 0]∧Blk w_ x1 26 #[.bool (decide (qa.num<0)),.slice A1 (toL qa.num.natAbs).length c1,.slice B1 (toL qa.den).length e1]∧Blk w_ x2 26 #[.bool (decide (qb.num<0)),.slice A2 (toL qb.num.natAbs).length c2,.slice B2 (toL qb.den).length e2]∧U32 (x2 :: x1 :: g4 :: g3 :: g2 :: M) w_ (.slice A1 (toL qa.num.natAbs).length c1) (toL qa.num.natAbs)∧U32 (x2 :: x1 :: g4 :: g3 :: g2 :: M) w_ (.slice B1 (toL qa.den).length e1) (toL qa.den)∧U32 (x2 :: x1 :: g4 :: g3 :: g2 :: M) w_ (.slice A2 (toL qb.num.natAbs).length c2) (toL qb.num.natAbs)∧U32 (x2 :: x1 :: g4 :: g3 :: g2 :: M) w_ (.slice B2 (toL qb.den).length e2) (toL qb.den)∧Bd (x2 :: x1 :: g4 :: g3 :: g2 :: M) w_∧x1≠g4∧x2≠g4∧Mod [] w w_) ?_ ?_
 ·
  refine W.drawW (T:=[6,7]) rfl (by decide +kernel) (NoHang.join (NoHang.then NoHang.post)) (fun w4 hm4=>?_)
  replace ha:=ha.gr hm4;replace ka:=ka.gr hm4;replace hb:=hb.gr hm4;replace kb:=kb.gr hm4;replace hbd:=hbd.gr hm4;replace hm0:=hm0.trans hm4;replace hb2:=Blk.gr hb2 hm4;replace hb3:=Blk.gr hb3 hm4;replace hb4:=Blk.gr hb4 hm4
  have hS1:Mod [] w4 w4:=Mod.refl _ _
  clear hm4;have hb2_s:=hb2;have hb3_s:=hb3
  refine D.take 0 rfl (by kernel_rfl) (fun w_ hS=>(R1.loadBox rfl (Blk.gr hb2_s hS) tyG26)) hS1 rfl<|D.take 2 rfl (by kernel_rfl) (fun w_ hS=>(R1.loadBox rfl (Blk.gr hb3_s hS) tyG26)) hS1 rfl<|D.par2 1 3 4 5 rfl rfl rfl rfl (by decide +kernel) rfl rfl tyZ26 tyZ26 rfl rfl rfl hS1 (F1:=fun wa v wb=>RN (List.range wa.heap.size) wb v qa) (F2:=fun wa v wb=>RN (List.range wa.heap.size) wb v qb) (fun wa hm=>c_ref2_Norm (M:=List.range wa.heap.size) hqa (ha.gr hm) (ka.gr hm) (range_bd _) (by omega) (by omega)) (fun wa hm=>c_ref2_Norm (M:=List.range wa.heap.size) hqb (hb.gr hm) (kb.gr hm) (range_bd _) (by omega) (by omega)) ?_
  intro v9 v11 g6 g7 wa1_ wb1_ wa2_ wb2_ w5 hP
  obtain ⟨A9,c9,B9,e9,rfl,hn9,hd9⟩:=hP.f1.par hP.n1 (hP.a1 hbd);obtain ⟨A11,c11,B11,e11,rfl,hn11,hd11⟩:=hP.f2.par hP.m3 (hP.a2 hbd);replace hb:=hb.par2 hP;replace hbd:=hbd.par2 hP;have hge_g6:=Nat.le_trans hm0.size hP.ge1;have hge_g7:=Nat.le_trans hm0.size hP.ge2;replace hm0:=hm0.trans (hP.mod.mono (by simp));have hne_g4_g6:=Nat.ne_of_lt (Nat.lt_of_lt_of_le (Blk.lt hb4) hP.ge1);have hne_g4_g7:=Nat.ne_of_lt (Nat.lt_of_lt_of_le (Blk.lt hb4) hP.ge2);replace hb4:=Blk.gr hb4 hP.mod;have hne_g6_g7:=hP.ne;have hb6:=hP.blk1; have hb7:=hP.blk2; clear hP
  refine D.one 6 rfl (by kernel_rfl) (fun hX=>?_)
  refine L.storeBox rfl rfl hb6 rfl rfl tyG26 ?_
  intro w6 hb6' hm6
  replace hb:=hb.mod hm6 (by simp);replace hbd:=hbd.gr hm6;replace hm0:=hm0.old1 hm6 hge_g6;replace hb4:=Blk.far hb4 hm6 (by first | exact hne_g4_g6 | exact (hne_g6_g4).symm);replace hb7:=Blk.far hb7 hm6 (by first | exact hne_g7_g6 | exact (hne_g6_g7).symm);replace hn9:=hn9.mod hm6 (by simp);replace hd9:=hd9.mod hm6 (by simp);replace hn11:=hn11.mod hm6 (by simp);replace hd11:=hd11.mod hm6 (by simp);clear hm6;replace hb6:=hb6'; clear hb6'
  refine L.nil (hX _ _ ⟨.inl rfl,?_⟩)
  refine D.one 7 rfl (by kernel_rfl) (fun hX=>?_)
  refine L.storeBox rfl rfl hb7 rfl rfl tyG26 ?_
  intro w7 hb7' hm7
  replace hb:=hb.mod hm7 (by simp);replace hbd:=hbd.gr hm7;replace hm0:=hm0.old1 hm7 hge_g7;replace hb4:=Blk.far hb4 hm7 (by first | exact hne_g4_g7 | exact (hne_g7_g4).symm);replace hn9:=hn9.mod hm7 (by simp);replace hd9:=hd9.mod hm7 (by simp);replace hn11:=hn11.mod hm7 (by simp);replace hd11:=hd11.mod hm7 (by simp);replace hb6:=Blk.far hb6 hm7 (by first | exact hne_g6_g7 | exact (hne_g7_g6).symm);clear hm7;replace hb7:=hb7'; clear hb7'
  refine L.nil (hX _ _ ⟨.inl rfl,?_⟩)
  refine D.done (by decide +kernel) ?_ _
  refine X.join (g6,g7,A9,c9,B9,e9,A11,c11,B11,e11) ?_ ?_
  · exact ⟨rfl,rfl,rfl,trivial⟩
  refine ⟨hb4,hb6,hb7,(hn9.sub (by intro b hb; simp only [List.mem_cons] at hb ⊢; rcases hb with h | h | h | h | h | h <;> simp [h])),(hd9.sub (by intro b hb; simp only [List.mem_cons] at hb ⊢; rcases hb with h | h | h | h | h | h <;> simp [h])),(hn11.sub (by intro b hb; simp only [List.mem_cons] at hb ⊢; rcases hb with h | h | h | h | h | h <;> simp [h])),(hd11.sub (by intro b hb; simp only [List.mem_cons] at hb ⊢; rcases hb with h | h | h | h | h | h <;> simp [h])),(fun m hm=>hbd m (by simp only [List.mem_cons] at hm ⊢; rcases hm with h | h | h | h | h | h <;> simp [h])),(by first | exact (hne_g4_g6).symm | exact hne_g6_g4),(by first | exact (hne_g4_g7).symm | exact hne_g7_g4),hm0⟩
 rintro ⟨x1,x2,A1,c1,B1,e1,A2,c2,B2,e2⟩ wj ⟨hb4,hbx1,hbx2,hn9,hd9,hn11,hd11,hbd,hne_x1_g4,hne_x2_g4,hm0⟩
 refine X.seq<|W.seq<|W.seq<|W.region<|L.v (R1.fieldAt rfl tyF26_1) rfl<|L.v (R1.loadFld rfl hbx2 rfl tyP24) rfl<|L.v (R1.lenU rfl (by assumption) tyS24) rfl<|L.v ((R1.eq rfl rfl).asB (c:=true) (by rw [len0,decide_eq_true_eq,num_zero_iff]; exact h0)) rfl<|L.nil<|X.seq<|W.condT rfl ?_
 refine W.seq<|W.region<|L.v (R1.build rfl (built_Q)) rfl<|L.call rfl (c_ref2_Norm (N9:=[]) (xs:=[]) (ys:=[]) (q:=0) (rv_d0 _ _) U32.nil U32.nil hbd (by simp) (by simp)) rfl ?_
 rintro _ w8 ⟨⟨A17,c17,B17,e17,rfl,hn17,hd17⟩,hm8⟩
 replace hb4:=Blk.gr hb4 hm8;replace hm0:=hm0.trans hm8;clear hm8
 refine L.storeBox rfl rfl hb4 rfl rfl tyG26 ?_
 intro w9 hb4' hm9
 replace hm0:=hm0.old1 hm9 hge_g4;replace hn17:=hn17.mod hm9 (by simp);replace hd17:=hd17.mod hm9 (by simp);clear hm9;replace hb4:=hb4'; clear hb4'
 refine L.a rfl rfl<|L.nil<|X.seq<|W.ret<|X.thenRet<|X.result2 rfl (.cell rfl (loadVar_blk hb4 tyG26) (.tmp rfl .nil)) ?_
 exact ⟨_,rfl,RN.mk rfl (hn17.sub (by intro b hb; simp [hb])) (hd17.sub (by intro b hb; simp [hb])),hm0⟩
theorem c_ref2_Div1 {M N8 N9 : List Nat} {w : World} {sa sb : Bool} {an ad bn bd : Value} {xa ya xb yb : List Nat} {qa qb : Rat} (hqa : rv sa (val xa) (val ya) = qa) (hqb : rv sb (val xb) (val yb) = qb) (ha : U32 N8 w an xa) (ka : U32 N8 w ad ya) (hb : U32 N9 w bn xb) (kb : U32 N9 w bd yb) (hbd : Bd M w) (l0 : xa.length ≤ 137438953472) (l1 : ya.length ≤ 137438953472) (l2 : xb.length ≤ 137438953472) (l3 : yb.length ≤ 137438953472) (h0 : qb ≠ 0) :
    Ret Tryz.prog 86 #[.agg #[.bool sa,an,ad],.agg #[.bool sb,bn,bd]] w (fun r w'=>∃ v,r=.tuple #[v,.bool true]∧RN M w' v (qa / qb)∧Mod [] w w'):=by
 have la1:=rv_len1 hqa ha.2;have la2:=rv_len2 hqa ka.2;have lb1:=rv_len1 hqb hb.2;have lb2:=rv_len2 hqb kb.2;have m1:=toL_len_mul la1 lb2;have m3:=toL_len_mul la2 lb1
 refine Ret.of (vs:=[.agg #[.bool sa,an,ad],.agg #[.bool sb,bn,bd]]) (n:=34) Tryz.func86 rfl rfl rfl rfl ?_
 have hm0:Mod [] w w:=Mod.refl _ _
 refine W.seq<|W.region<|L.box rfl rfl ?_
 intro g2 w1 hN2
 replace ha:=ha.new hN2;replace ka:=ka.new hN2;replace hb:=hb.new hN2;replace kb:=kb.new hN2;replace hbd:=hbd.new hN2;have hge_g2:=New.ge hN2 hm0.size;replace hm0:=hm0.trans (hN2.mod.mono (by simp));have hb2:=hN2.blk;clear hN2
 refine L.box rfl rfl ?_
 intro g3 w2 hN3
 replace ha:=ha.new hN3;replace ka:=ka.new hN3;replace hb:=hb.new hN3;replace kb:=kb.new hN3;replace hbd:=hbd.new hN3;have hge_g3:=New.ge hN3 hm0.size;replace hm0:=hm0.trans (hN3.mod.mono (by simp));have hne_g2_g3:=hb2.ne_ hN3;replace hb2:=Blk.gr hb2 hN3.mod;have hb3:=hN3.blk;clear hN3
 refine L.alloc tyZ26 rfl ?_
 intro g4 w3 hN4
 replace ha:=ha.new hN4;replace ka:=ka.new hN4;replace hb:=hb.new hN4;replace kb:=kb.new hN4;replace hbd:=hbd.new hN4;have hge_g4:=New.ge hN4 hm0.size;replace hm0:=hm0.trans (hN4.mod.mono (by simp));have hne_g2_g4:=hb2.ne_ hN4;replace hb2:=Blk.gr hb2 hN4.mod;have hne_g3_g4:=hb3.ne_ hN4;replace hb3:=Blk.gr hb3 hN4.mod;have hb4:=hN4.blk;clear hN4
 refine L.a rfl rfl<|L.nil<|X.seq<|W.seq<|W.cut (ι:=Nat × Nat × Option Addr × Nat × Option Addr × Nat × Option Addr × Nat × Option Addr × Nat) (fun (x1,x2,A1,c1,B1,e1,A2,c2,B2,e2)=>[(4,.pointer (some ⟨g4,0,none⟩)),(6,.pointer (some ⟨x1,0,none⟩)),(7,.pointer (some ⟨x2,0,none⟩))]) (fun (x1,x2,A1,c1,B1,e1,A2,c2,B2,e2) w_=>Blk w_ g4 26 #[.bool false,.slice none 0 0,.slice none 0 0]∧Blk w_ x1 26 #[.bool (decide (qa.num<0)),.slice A1 (toL qa.num.natAbs).length c1,.slice B1 (toL qa.den).length e1]∧Blk w_ x2 26 #[.bool (decide (qb.num<0)),.slice A2 (toL qb.num.natAbs).length c2,.slice B2 (toL qb.den).length e2]∧U32 (x2 :: x1 :: g4 :: g3 :: g2 :: M) w_ (.slice A1 (toL qa.num.natAbs).length c1) (toL qa.num.natAbs)∧U32 (x2 :: x1 :: g4 :: g3 :: g2 :: M) w_ (.slice B1 (toL qa.den).length e1) (toL qa.den)∧U32 (x2 :: x1 :: g4 :: g3 :: g2 :: M) w_ (.slice A2 (toL qb.num.natAbs).length c2) (toL qb.num.natAbs)∧U32 (x2 :: x1 :: g4 :: g3 :: g2 :: M) w_ (.slice B2 (toL qb.den).length e2) (toL qb.den)∧Bd (x2 :: x1 :: g4 :: g3 :: g2 :: M) w_∧x1≠g4∧x2≠g4∧Mod [] w w_) ?_ ?_
 ·
  refine W.drawW (T:=[6,7]) rfl (by decide +kernel) (NoHang.join (NoHang.then NoHang.post)) (fun w4 hm4=>?_)
  replace ha:=ha.gr hm4;replace ka:=ka.gr hm4;replace hb:=hb.gr hm4;replace kb:=kb.gr hm4;replace hbd:=hbd.gr hm4;replace hm0:=hm0.trans hm4;replace hb2:=Blk.gr hb2 hm4;replace hb3:=Blk.gr hb3 hm4;replace hb4:=Blk.gr hb4 hm4
  have hS1:Mod [] w4 w4:=Mod.refl _ _
  clear hm4;have hb2_s:=hb2;have hb3_s:=hb3
  refine D.take 0 rfl (by kernel_rfl) (fun w_ hS=>(R1.loadBox rfl (Blk.gr hb2_s hS) tyG26)) hS1 rfl<|D.take 2 rfl (by kernel_rfl) (fun w_ hS=>(R1.loadBox rfl (Blk.gr hb3_s hS) tyG26)) hS1 rfl<|D.par2 1 3 4 5 rfl rfl rfl rfl (by decide +kernel) rfl rfl tyZ26 tyZ26 rfl rfl rfl hS1 (F1:=fun wa v wb=>RN (List.range wa.heap.size) wb v qa) (F2:=fun wa v wb=>RN (List.range wa.heap.size) wb v qb) (fun wa hm=>c_ref2_Norm (M:=List.range wa.heap.size) hqa (ha.gr hm) (ka.gr hm) (range_bd _) (by omega) (by omega)) (fun wa hm=>c_ref2_Norm (M:=List.range wa.heap.size) hqb (hb.gr hm) (kb.gr hm) (range_bd _) (by omega) (by omega)) ?_
  intro v9 v11 g6 g7 wa1_ wb1_ wa2_ wb2_ w5 hP
  obtain ⟨A9,c9,B9,e9,rfl,hn9,hd9⟩:=hP.f1.par hP.n1 (hP.a1 hbd);obtain ⟨A11,c11,B11,e11,rfl,hn11,hd11⟩:=hP.f2.par hP.m3 (hP.a2 hbd);replace hb:=hb.par2 hP;replace hbd:=hbd.par2 hP;have hge_g6:=Nat.le_trans hm0.size hP.ge1;have hge_g7:=Nat.le_trans hm0.size hP.ge2;replace hm0:=hm0.trans (hP.mod.mono (by simp));have hne_g4_g6:=Nat.ne_of_lt (Nat.lt_of_lt_of_le (Blk.lt hb4) hP.ge1);have hne_g4_g7:=Nat.ne_of_lt (Nat.lt_of_lt_of_le (Blk.lt hb4) hP.ge2);replace hb4:=Blk.gr hb4 hP.mod;have hne_g6_g7:=hP.ne;have hb6:=hP.blk1; have hb7:=hP.blk2; clear hP
  refine D.one 6 rfl (by kernel_rfl) (fun hX=>?_)
  refine L.storeBox rfl rfl hb6 rfl rfl tyG26 ?_
  intro w6 hb6' hm6
  replace hb:=hb.mod hm6 (by simp);replace hbd:=hbd.gr hm6;replace hm0:=hm0.old1 hm6 hge_g6;replace hb4:=Blk.far hb4 hm6 (by first | exact hne_g4_g6 | exact (hne_g6_g4).symm);replace hb7:=Blk.far hb7 hm6 (by first | exact hne_g7_g6 | exact (hne_g6_g7).symm);replace hn9:=hn9.mod hm6 (by simp);replace hd9:=hd9.mod hm6 (by simp);replace hn11:=hn11.mod hm6 (by simp);replace hd11:=hd11.mod hm6 (by simp);clear hm6;replace hb6:=hb6'; clear hb6'
  refine L.nil (hX _ _ ⟨.inl rfl,?_⟩)
  refine D.one 7 rfl (by kernel_rfl) (fun hX=>?_)
  refine L.storeBox rfl rfl hb7 rfl rfl tyG26 ?_
  intro w7 hb7' hm7
  replace hb:=hb.mod hm7 (by simp);replace hbd:=hbd.gr hm7;replace hm0:=hm0.old1 hm7 hge_g7;replace hb4:=Blk.far hb4 hm7 (by first | exact hne_g4_g7 | exact (hne_g7_g4).symm);replace hn9:=hn9.mod hm7 (by simp);replace hd9:=hd9.mod hm7 (by simp);replace hn11:=hn11.mod hm7 (by simp);replace hd11:=hd11.mod hm7 (by simp);replace hb6:=Blk.far hb6 hm7 (by first | exact hne_g6_g7 | exact (hne_g7_g6).symm);clear hm7;replace hb7:=hb7'; clear hb7'
  refine L.nil (hX _ _ ⟨.inl rfl,?_⟩)
  refine D.done (by decide +kernel) ?_ _
  refine X.join (g6,g7,A9,c9,B9,e9,A11,c11,B11,e11) ?_ ?_
  · exact ⟨rfl,rfl,rfl,trivial⟩
  refine ⟨hb4,hb6,hb7,(hn9.sub (by intro b hb; simp only [List.mem_cons] at hb ⊢; rcases hb with h | h | h | h | h | h <;> simp [h])),(hd9.sub (by intro b hb; simp only [List.mem_cons] at hb ⊢; rcases hb with h | h | h | h | h | h <;> simp [h])),(hn11.sub (by intro b hb; simp only [List.mem_cons] at hb ⊢; rcases hb with h | h | h | h | h | h <;> simp [h])),(hd11.sub (by intro b hb; simp only [List.mem_cons] at hb ⊢; rcases hb with h | h | h | h | h | h <;> simp [h])),(fun m hm=>hbd m (by simp only [List.mem_cons] at hm ⊢; rcases hm with h | h | h | h | h | h <;> simp [h])),(by first | exact (hne_g4_g6).symm | exact hne_g6_g4),(by first | exact (hne_g4_g7).symm | exact hne_g7_g4),hm0⟩
 rintro ⟨x1,x2,A1,c1,B1,e1,A2,c2,B2,e2⟩ wj ⟨hb4,hbx1,hbx2,hn9,hd9,hn11,hd11,hbd,hne_x1_g4,hne_x2_g4,hm0⟩
 refine X.seq<|W.seq<|W.seq<|W.region<|L.v (R1.fieldAt rfl tyF26_1) rfl<|L.v (R1.loadFld rfl hbx2 rfl tyP24) rfl<|L.v (R1.lenU rfl (by assumption) tyS24) rfl<|L.v ((R1.eq rfl rfl).asB (c:=false) (by rw [len0,decide_eq_false_iff_not,num_zero_iff]; exact h0)) rfl<|L.nil<|X.seq<|W.condF rfl ?_
 refine W.skip<|X.seq<|W.seq<|W.drawW (T:=[16,17]) rfl (by decide +kernel) (NoHang.then NoHang.post) (fun w8 hm8=>?_)
 replace hb4:=Blk.gr hb4 hm8;replace hbx1:=Blk.gr hbx1 hm8;replace hbx2:=Blk.gr hbx2 hm8;replace hn9:=hn9.gr hm8;replace hd9:=hd9.gr hm8;replace hn11:=hn11.gr hm8;replace hd11:=hd11.gr hm8;replace hbd:=hbd.gr hm8;replace hm0:=hm0.trans hm8
 have hS2:Mod [] w8 w8:=Mod.refl _ _
 clear hm8;have hbx1_s:=hbx1;have hbx2_s:=hbx2
 refine D.take 0 rfl (by kernel_rfl) (fun w_ hS=>(R1.fieldAt rfl tyF26_0)) hS2 rfl<|D.take 1 rfl (by kernel_rfl) (fun w_ hS=>(R1.loadFld rfl (Blk.gr hbx1_s hS) rfl tyP4)) hS2 rfl<|D.take 2 rfl (by kernel_rfl) (fun w_ hS=>(R1.fieldAt rfl tyF26_0)) hS2 rfl<|D.take 3 rfl (by kernel_rfl) (fun w_ hS=>(R1.loadFld rfl (Blk.gr hbx2_s hS) rfl tyP4)) hS2 rfl<|D.take 4 rfl (by kernel_rfl) (fun w_ hS=>(R1.neB rfl rfl tyB4)) hS2 rfl<|D.take 5 rfl (by kernel_rfl) (fun w_ hS=>(R1.fieldAt rfl tyF26_1)) hS2 rfl<|D.take 6 rfl (by kernel_rfl) (fun w_ hS=>(R1.loadFld rfl (Blk.gr hbx1_s hS) rfl tyP24)) hS2 rfl<|D.take 7 rfl (by kernel_rfl) (fun w_ hS=>(R1.fieldAt rfl tyF26_2)) hS2 rfl<|D.take 8 rfl (by kernel_rfl) (fun w_ hS=>(R1.loadFld rfl (Blk.gr hbx2_s hS) rfl tyP24)) hS2 rfl<|D.take 10 rfl (by kernel_rfl) (fun w_ hS=>(R1.fieldAt rfl tyF26_2)) hS2 rfl<|D.take 11 rfl (by kernel_rfl) (fun w_ hS=>(R1.loadFld rfl (Blk.gr hbx1_s hS) rfl tyP24)) hS2 rfl ?_
 refine D.take 12 rfl (by kernel_rfl) (fun w_ hS=>(R1.fieldAt rfl tyF26_1)) hS2 rfl<|D.take 13 rfl (by kernel_rfl) (fun w_ hS=>(R1.loadFld rfl (Blk.gr hbx2_s hS) rfl tyP24)) hS2 rfl<|D.one 9 rfl (by kernel_rfl) (fun hX=>?_)
 refine L.call rfl (c_r1_Mul hn9 hd11 hbd (by omega) (by omega)) rfl ?_
 rintro v27 w9 ⟨h27,hm9⟩
 replace hb4:=Blk.gr hb4 hm9;replace hd9:=hd9.gr hm9;replace hn11:=hn11.gr hm9;replace hbd:=hbd.gr hm9;replace hm0:=hm0.trans hm9;replace hS2:=hS2.trans hm9;clear hm9
 rw [val_toL,val_toL] at h27
 refine L.nil (hX _ _ ⟨.inr hS2,?_⟩)
 refine D.one 14 rfl (by kernel_rfl) (fun hX=>?_)
 refine L.call rfl (c_r1_Mul hd9 hn11 hbd (by omega) (by omega)) rfl ?_
 rintro v32 w10 ⟨h32,hm10⟩
 replace hb4:=Blk.gr hb4 hm10;replace hbd:=hbd.gr hm10;replace hm0:=hm0.trans hm10;replace h27:=h27.gr hm10;replace hS2:=hS2.trans hm10;clear hm10
 rw [val_toL,val_toL] at h32
 refine L.nil (hX _ _ ⟨.inr hS2,?_⟩)
 refine D.one 15 rfl (by kernel_rfl) (fun hX=>?_)
 refine L.call rfl (c_ref2_Of (q:=qa / qb) (by rw [val_toL,val_toL]; exact div_num h0) h27 h32 hbd (by omega) (by omega)) rfl ?_
 rintro _ w11 ⟨⟨A33,c33,B33,e33,rfl,hn33,hd33⟩,hm11⟩
 replace hb4:=Blk.gr hb4 hm11;replace hm0:=hm0.trans hm11;replace hS2:=hS2.trans hm11;clear hm11
 refine L.nil (hX _ _ ⟨.inr hS2,?_⟩)
 refine D.one 16 rfl (by kernel_rfl) (fun hX=>?_)
 refine L.storeBox rfl rfl hb4 rfl rfl tyG26 ?_
 intro w12 hb4' hm12
 replace hm0:=hm0.old1 hm12 hge_g4;replace hn33:=hn33.mod hm12 (by simp);replace hd33:=hd33.mod hm12 (by simp);clear hm12;replace hb4:=hb4'; clear hb4'
 refine L.nil (hX _ _ ⟨.inl rfl,?_⟩)
 refine D.one 17 rfl (by kernel_rfl) (fun hX=>?_)
 refine L.a rfl rfl (L.nil (hX _ _ ⟨.inl rfl,?_⟩))
 refine D.done (by decide +kernel) ?_ _
 refine X.seq<|W.ret<|X.result2 rfl (.cell rfl (loadVar_blk hb4 tyG26) (.tmp rfl .nil)) ?_
 exact ⟨_,rfl,RN.mk rfl (hn33.sub (by intro b hb; simp [hb])) (hd33.sub (by intro b hb; simp [hb])),hm0⟩
theorem c_ref2_Same {M N8 N9 : List Nat} {w : World} {sa sb : Bool} {an ad bn bd : Value} {xa ya xb yb : List Nat} {qa qb : Rat} (hqa : rv sa (val xa) (val ya) = qa) (hqb : rv sb (val xb) (val yb) = qb) (ha : U32 N8 w an xa) (ka : U32 N8 w ad ya) (hb : U32 N9 w bn xb) (kb : U32 N9 w bd yb) (hbd : Bd M w) (l0 : xa.length ≤ 137438953472) (l1 : ya.length ≤ 137438953472) (l2 : xb.length ≤ 137438953472) (l3 : yb.length ≤ 137438953472) :
    Ret Tryz.prog 13 #[.agg #[.bool sa,an,ad],.agg #[.bool sb,bn,bd]] w (fun r w'=>r=.bool (decide (qa=qb))∧Mod [] w w'):=by
 refine Ret.of (vs:=[.agg #[.bool sa,an,ad],.agg #[.bool sb,bn,bd]]) (n:=30) Tryz.func13 rfl rfl rfl rfl ?_
 have hm0:Mod [] w w:=Mod.refl _ _
 refine W.seq<|W.region<|L.box rfl rfl ?_
 intro g2 w1 hN2
 replace ha:=ha.new hN2;replace ka:=ka.new hN2;replace hb:=hb.new hN2;replace kb:=kb.new hN2;replace hbd:=hbd.new hN2;replace hm0:=hm0.trans (hN2.mod.mono (by simp));have hb2:=hN2.blk;clear hN2
 refine L.box rfl rfl ?_
 intro g3 w2 hN3
 replace ha:=ha.new hN3;replace ka:=ka.new hN3;replace hb:=hb.new hN3;replace kb:=kb.new hN3;replace hbd:=hbd.new hN3;replace hm0:=hm0.trans (hN3.mod.mono (by simp));replace hb2:=Blk.gr hb2 hN3.mod;have hb3:=hN3.blk;clear hN3
 refine L.a rfl rfl<|L.nil<|X.seq<|W.seq<|W.cut (ι:=Nat × Nat × Option Addr × Nat × Option Addr × Nat × Option Addr × Nat × Option Addr × Nat) (fun (x1,x2,A1,c1,B1,e1,A2,c2,B2,e2)=>[(5,.pointer (some ⟨x1,0,none⟩)),(6,.pointer (some ⟨x2,0,none⟩))]) (fun (x1,x2,A1,c1,B1,e1,A2,c2,B2,e2) w_=>Blk w_ x1 26 #[.bool (decide (qa.num<0)),.slice A1 (toL qa.num.natAbs).length c1,.slice B1 (toL qa.den).length e1]∧Blk w_ x2 26 #[.bool (decide (qb.num<0)),.slice A2 (toL qb.num.natAbs).length c2,.slice B2 (toL qb.den).length e2]∧U32 (x2 :: x1 :: g3 :: g2 :: M) w_ (.slice A1 (toL qa.num.natAbs).length c1) (toL qa.num.natAbs)∧U32 (x2 :: x1 :: g3 :: g2 :: M) w_ (.slice B1 (toL qa.den).length e1) (toL qa.den)∧U32 (x2 :: x1 :: g3 :: g2 :: M) w_ (.slice A2 (toL qb.num.natAbs).length c2) (toL qb.num.natAbs)∧U32 (x2 :: x1 :: g3 :: g2 :: M) w_ (.slice B2 (toL qb.den).length e2) (toL qb.den)∧Bd (x2 :: x1 :: g3 :: g2 :: M) w_∧Mod [] w w_) ?_ ?_
 ·
  refine W.drawW (T:=[6,7]) rfl (by decide +kernel) (NoHang.join (NoHang.then NoHang.post)) (fun w3 hm3=>?_)
  replace ha:=ha.gr hm3;replace ka:=ka.gr hm3;replace hb:=hb.gr hm3;replace kb:=kb.gr hm3;replace hbd:=hbd.gr hm3;replace hm0:=hm0.trans hm3;replace hb2:=Blk.gr hb2 hm3;replace hb3:=Blk.gr hb3 hm3
  have hS1:Mod [] w3 w3:=Mod.refl _ _
  clear hm3;have hb2_s:=hb2;have hb3_s:=hb3
  refine D.take 0 rfl (by kernel_rfl) (fun w_ hS=>(R1.loadBox rfl (Blk.gr hb2_s hS) tyG26)) hS1 rfl<|D.take 2 rfl (by kernel_rfl) (fun w_ hS=>(R1.loadBox rfl (Blk.gr hb3_s hS) tyG26)) hS1 rfl<|D.par2 1 3 4 5 rfl rfl rfl rfl (by decide +kernel) rfl rfl tyZ26 tyZ26 rfl rfl rfl hS1 (F1:=fun wa v wb=>RN (List.range wa.heap.size) wb v qa) (F2:=fun wa v wb=>RN (List.range wa.heap.size) wb v qb) (fun wa hm=>c_ref2_Norm (M:=List.range wa.heap.size) hqa (ha.gr hm) (ka.gr hm) (range_bd _) (by omega) (by omega)) (fun wa hm=>c_ref2_Norm (M:=List.range wa.heap.size) hqb (hb.gr hm) (kb.gr hm) (range_bd _) (by omega) (by omega)) ?_
  intro v8 v10 g5 g6 wa1_ wb1_ wa2_ wb2_ w4 hP
  obtain ⟨A8,c8,B8,e8,rfl,hn8,hd8⟩:=hP.f1.par hP.n1 (hP.a1 hbd);obtain ⟨A10,c10,B10,e10,rfl,hn10,hd10⟩:=hP.f2.par hP.m3 (hP.a2 hbd);replace hb:=hb.par2 hP;replace hbd:=hbd.par2 hP;have hge_g5:=Nat.le_trans hm0.size hP.ge1;have hge_g6:=Nat.le_trans hm0.size hP.ge2;replace hm0:=hm0.trans (hP.mod.mono (by simp));have hne_g5_g6:=hP.ne;have hb5:=hP.blk1; have hb6:=hP.blk2; clear hP
  refine D.one 6 rfl (by kernel_rfl) (fun hX=>?_)
  refine L.storeBox rfl rfl hb5 rfl rfl tyG26 ?_
  intro w5 hb5' hm5
  replace hb:=hb.mod hm5 (by simp);replace hbd:=hbd.gr hm5;replace hm0:=hm0.old1 hm5 hge_g5;replace hb6:=Blk.far hb6 hm5 (by first | exact hne_g6_g5 | exact (hne_g5_g6).symm);replace hn8:=hn8.mod hm5 (by simp);replace hd8:=hd8.mod hm5 (by simp);replace hn10:=hn10.mod hm5 (by simp);replace hd10:=hd10.mod hm5 (by simp);clear hm5;replace hb5:=hb5'; clear hb5'
  refine L.nil (hX _ _ ⟨.inl rfl,?_⟩)
  refine D.one 7 rfl (by kernel_rfl) (fun hX=>?_)
  refine L.storeBox rfl rfl hb6 rfl rfl tyG26 ?_
  intro w6 hb6' hm6
  replace hb:=hb.mod hm6 (by simp);replace hbd:=hbd.gr hm6;replace hm0:=hm0.old1 hm6 hge_g6;replace hn8:=hn8.mod hm6 (by simp);replace hd8:=hd8.mod hm6 (by simp);replace hn10:=hn10.mod hm6 (by simp);replace hd10:=hd10.mod hm6 (by simp);replace hb5:=Blk.far hb5 hm6 (by first | exact hne_g5_g6 | exact (hne_g6_g5).symm);clear hm6;replace hb6:=hb6'; clear hb6'
  refine L.nil (hX _ _ ⟨.inl rfl,?_⟩)
  refine D.done (by decide +kernel) ?_ _
  refine X.join (g5,g6,A8,c8,B8,e8,A10,c10,B10,e10) ?_ ?_
  · exact ⟨rfl,rfl,trivial⟩
  refine ⟨hb5,hb6,(hn8.sub (by intro b hb; simp only [List.mem_cons] at hb ⊢; rcases hb with h | h | h | h | h <;> simp [h])),(hd8.sub (by intro b hb; simp only [List.mem_cons] at hb ⊢; rcases hb with h | h | h | h | h <;> simp [h])),(hn10.sub (by intro b hb; simp only [List.mem_cons] at hb ⊢; rcases hb with h | h | h | h | h <;> simp [h])),(hd10.sub (by intro b hb; simp only [List.mem_cons] at hb ⊢; rcases hb with h | h | h | h | h <;> simp [h])),(fun m hm=>hbd m (by simp only [List.mem_cons] at hm ⊢; rcases hm with h | h | h | h | h <;> simp [h])),hm0⟩
 rintro ⟨x1,x2,A1,c1,B1,e1,A2,c2,B2,e2⟩ wj ⟨hbx1,hbx2,hn8,hd8,hn10,hd10,hbd,hm0⟩
 refine X.seq<|W.seq<|W.region<|L.v (R1.fieldAt rfl tyF26_0) rfl<|L.v (R1.loadFld rfl hbx1 rfl tyP4) rfl<|L.v (R1.fieldAt rfl tyF26_0) rfl<|L.v (R1.loadFld rfl hbx2 rfl tyP4) rfl<|L.v ((R1.eqB rfl rfl tyB4).asB (c:=(decide (qa.num<0) == decide (qb.num<0))) (rfl)) rfl<|L.m rfl rfl ?_
 cases hgd16:(decide (qa.num<0) == decide (qb.num<0))
 ·
  have hcc_:=hgd16
  refine L.off rfl rfl rfl rfl rfl<|L.off rfl rfl rfl rfl rfl<|L.off rfl rfl rfl rfl rfl<|L.off rfl rfl rfl rfl rfl<|L.off rfl rfl rfl rfl rfl<|L.v (R1.pickF rfl rfl) rfl<|L.m rfl rfl<|L.off rfl rfl rfl rfl rfl<|L.off rfl rfl rfl rfl rfl<|L.off rfl rfl rfl rfl rfl<|L.off rfl rfl rfl rfl rfl ?_
  refine L.off rfl rfl rfl rfl rfl<|L.v (R1.pickF rfl rfl) rfl<|L.a rfl rfl<|L.nil<|X.seq<|W.ret<|X.result1 rfl (.tmp rfl .nil)<|⟨?_,hm0⟩
  first | rw [same_dec,hgd16,hgd23]; rfl | rw [same_dec,hgd16]; rfl
 have hcc_:=hgd16
 refine L.on rfl rfl rfl (R1.fieldAt rfl tyF26_1) rfl<|L.on rfl rfl rfl (R1.loadFld rfl hbx1 rfl tyP24) rfl<|L.on rfl rfl rfl (R1.fieldAt rfl tyF26_1) rfl<|L.on rfl rfl rfl (R1.loadFld rfl hbx2 rfl tyP24) rfl<|L.callOn rfl rfl rfl rfl (c_limbs hn8 hn10) rfl ?_
 rintro _ w7 ⟨rfl,hm7⟩
 replace hbx1:=Blk.gr hbx1 hm7;replace hbx2:=Blk.gr hbx2 hm7;replace hd8:=hd8.gr hm7;replace hd10:=hd10.gr hm7;replace hm0:=hm0.trans hm7;clear hm7
 refine L.v (R1.pickT rfl rfl) rfl<|L.m rfl rfl ?_
 cases hgd23:decide (toL qa.num.natAbs=toL qb.num.natAbs)
 ·
  have hcd_:=hgd23
  refine L.off rfl rfl rfl rfl rfl<|L.off rfl rfl rfl rfl rfl<|L.off rfl rfl rfl rfl rfl<|L.off rfl rfl rfl rfl rfl<|L.off rfl rfl rfl rfl rfl<|L.v (R1.pickF rfl rfl) rfl<|L.a rfl rfl<|L.nil<|X.seq<|W.ret<|X.result1 rfl (.tmp rfl .nil) ?_
  refine ⟨?_,hm0⟩
  first | rw [same_dec,hgd16,hgd23]; rfl | rw [same_dec,hgd16]; rfl
 have hcd_:=hgd23
 refine L.on rfl rfl rfl (R1.fieldAt rfl tyF26_2) rfl<|L.on rfl rfl rfl (R1.loadFld rfl hbx1 rfl tyP24) rfl<|L.on rfl rfl rfl (R1.fieldAt rfl tyF26_2) rfl<|L.on rfl rfl rfl (R1.loadFld rfl hbx2 rfl tyP24) rfl<|L.callOn rfl rfl rfl rfl (c_limbs hd8 hd10) rfl ?_
 rintro _ w8 ⟨rfl,hm8⟩
 replace hm0:=hm0.trans hm8;clear hm8
 refine L.v (R1.pickT rfl rfl) rfl<|L.a rfl rfl<|L.nil<|X.seq<|W.ret<|X.result1 rfl (.tmp rfl .nil)<|⟨?_,hm0⟩
 first | rw [same_dec,hgd16,hgd23]; rfl | rw [same_dec,hgd16]; rfl
theorem c_ref2_Large {M N9 : List Nat} {w : World} {s : Bool} {vn vd : Value} {xs ys : List Nat} {q : Rat} (hq : rv s (val xs) (val ys) = q) (h : U32 N9 w vn xs) (k : U32 N9 w vd ys) (hbd : Bd M w) (hl1 : xs.length ≤ 1099511627776) (hl2 : ys.length ≤ 1099511627776) :
    Ret Tryz.prog 57 #[.agg #[.bool s,vn,vd]] w (fun r w'=>r=.bool (largeB q)∧Mod [] w w'):=by
 refine Ret.of (vs:=[.agg #[.bool s,vn,vd]]) (n:=16) Tryz.func57 rfl rfl rfl rfl ?_
 have hm0:Mod [] w w:=Mod.refl _ _
 refine W.seq<|W.region<|L.box rfl rfl ?_
 intro g1 w1 hN1
 replace h:=h.new hN1;replace k:=k.new hN1;replace hbd:=hbd.new hN1;have hge_g1:=New.ge hN1 hm0.size;replace hm0:=hm0.trans (hN1.mod.mono (by simp));have hb1:=hN1.blk;clear hN1
 refine L.a rfl rfl<|L.nil<|X.seq<|W.seq<|W.region<|L.v (R1.loadBox rfl hb1 tyG26) rfl<|L.call rfl (c_ref2_Norm hq h k hbd (by omega) (by omega)) rfl ?_
 rintro _ w2 ⟨⟨A5,c5,B5,e5,rfl,hn5,hd5⟩,hm2⟩
 replace h:=h.gr hm2;replace k:=k.gr hm2;replace hbd:=hbd.gr hm2;replace hm0:=hm0.trans hm2;replace hb1:=Blk.gr hb1 hm2;clear hm2
 refine L.alloc tyZ26 rfl ?_
 intro g3 w3 hN3
 replace h:=h.new hN3;replace k:=k.new hN3;replace hbd:=hbd.new hN3;have hge_g3:=New.ge hN3 hm0.size;replace hm0:=hm0.trans (hN3.mod.mono (by simp));have hne_g1_g3:=hb1.ne_ hN3;replace hb1:=Blk.gr hb1 hN3.mod;replace hn5:=hn5.new hN3;replace hd5:=hd5.new hN3;have hb3:=hN3.blk;clear hN3
 refine L.storeBox rfl rfl hb3 rfl rfl tyG26 ?_
 intro w4 hb3' hm4
 replace h:=h.mod hm4 (by simp);replace k:=k.mod hm4 (by simp);replace hbd:=hbd.gr hm4;replace hm0:=hm0.old1 hm4 hge_g3;replace hb1:=Blk.far hb1 hm4 (by first | exact hne_g1_g3 | exact (hne_g3_g1).symm);replace hn5:=hn5.mod hm4 (by simp);replace hd5:=hd5.mod hm4 (by simp);clear hm4;replace hb3:=hb3'; clear hb3'
 refine L.nil<|X.seq<|W.seq<|W.region<|L.v (R1.fieldAt rfl tyF26_1) rfl<|L.v (R1.loadFld rfl hb3 rfl tyP24) rfl<|L.v (R1.lenU rfl (by assumption) tyS24) rfl<|L.v ((R1.gt rfl rfl).asB (c:=decide (16<(toL q.num.natAbs).length)) (by congr 1; apply propext; omega)) rfl<|L.m rfl rfl ?_
 cases hgd10:decide (16<(toL q.num.natAbs).length)
 ·
  have hcc_:=hgd10
  refine L.on rfl rfl rfl (R1.fieldAt rfl tyF26_2) rfl<|L.on rfl rfl rfl (R1.loadFld rfl hb3 rfl tyP24) rfl<|L.on rfl rfl rfl (R1.lenU rfl (by assumption) tyS24) rfl<|L.on rfl rfl rfl ((R1.gt rfl rfl).asB (c:=decide (16<(toL q.den).length)) (by congr 1; apply propext; omega)) rfl<|L.v (R1.pickF rfl rfl) rfl<|L.a rfl rfl<|L.nil<|X.seq<|W.ret<|X.result1 rfl (.tmp rfl .nil) ?_
  exact ⟨by unfold largeB; rw [hgd10]; rfl,hm0⟩
 have hcc_:=hgd10
 refine L.off rfl rfl rfl rfl rfl<|L.off rfl rfl rfl rfl rfl<|L.off rfl rfl rfl rfl rfl<|L.off rfl rfl rfl rfl rfl<|L.v (R1.pickT rfl rfl) rfl<|L.a rfl rfl<|L.nil<|X.seq<|W.ret<|X.result1 rfl (.tmp rfl .nil) ?_
 exact ⟨by unfold largeB; rw [hgd10]; rfl,hm0⟩
end Go.Proofs.YtedokfpoajfflaaGreat
