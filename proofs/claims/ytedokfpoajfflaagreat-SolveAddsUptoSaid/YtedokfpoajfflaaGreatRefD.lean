/- Walks: what the functions compute. -/
import Derived.Test.YtedokfpoajfflaaGreatRatB
import Derived.Test.YtedokfpoajfflaaGreatRefC
namespace Go.Proofs.YtedokfpoajfflaaGreat
open Go.RowKit
set_option linter.unusedVariables false
set_option linter.unusedSimpArgs false
set_option maxRecDepth 10000
theorem c_limbs {M N9 : List Nat} {w : World} {va vb : Value} {xs ys : List Nat} (h : U32 M w va xs) (k0 : U32 N9 w vb ys) :
    Ret Tryz.prog 32 #[va,vb] w (fun r w'=>r=.bool (decide (xs=ys))∧Mod [] w w'):=by
 have hmax:=h.1.max; unfold maxLen at hmax
 refine Ret.of (vs:=[va,vb]) (n:=26) Tryz.func32 rfl rfl rfl rfl ?_
 have hm0:Mod [] w w:=Mod.refl _ _
 refine W.seq<|W.region<|L.a rfl rfl<|L.nil<|X.seq<|W.seq<|W.seq<|W.region<|L.m rfl rfl<|L.v (R1.lenU rfl h tyS24) rfl<|L.m rfl rfl ?_
 refine L.v (R1.lenU rfl k0 tyS24) rfl<|L.v (R1.ne rfl rfl) rfl<|L.nil<|X.seq<|W.cond rfl ?_ ?_
 ·
  intro hc10
  try simp only [bq,ne_eq] at hc10
  refine W.seq<|W.region<|L.a rfl rfl<|L.nil<|X.seq<|W.ret<|X.thenRet<|X.result1 rfl (.tmp rfl .nil)<|⟨?_,hm0⟩
  rw [decide_eq_false (fun e=>by subst e; omega)]
 intro hc10
 try simp only [bq,ne_eq] at hc10
 have hlen:xs.length=ys.length:=by omega
 refine W.skip<|X.seq<|W.seq<|W.seq<|W.region<|L.a rfl rfl<|L.nil<|X.seq<|W.block<|W.loop (ι:=Nat) (fun k=>[(0,va),(1,vb),(5,.int .i64 (k:Int))]) (fun k w_=>k≤xs.length∧xs.take k=ys.take k∧U32 M w_ va xs∧U32 N9 w_ vb ys∧Mod [] w w_) (fun k=>xs.length - k) 0 ?_ ?_ ?_
 · exact ⟨rfl,rfl,rfl,trivial⟩
 ·
  exact ⟨Nat.zero_le _,rfl,h,k0,hm0⟩
 rintro k w1 ⟨hk,he,h,k0,hm0⟩
 refine W.seq<|W.seq<|W.region<|L.m rfl rfl<|L.m rfl rfl<|L.v (R1.lenU rfl h tyS24) rfl<|L.v (R1.lt rfl rfl) rfl<|L.nil<|X.seq<|W.cond rfl ?_ ?_
 ·
  intro hc14
  try simp only [bq,ne_eq] at hc14
  have hk1:k<xs.length:=by omega
  refine W.skip<|X.seq<|W.seq<|W.block<|W.seq<|W.drawW (T:=[]) rfl (by decide +kernel) (NoHang.then (NoHang.block (NoHang.then (NoHang.next (NoHang.block (NoHang.then NoHang.post)))))) (fun w2 hm2=>?_)
  replace h:=h.gr hm2;replace k0:=k0.gr hm2;replace hm0:=hm0.trans hm2
  have hS1:Mod [] w2 w2:=Mod.refl _ _
  clear hm2
  refine D.m 0 rfl (by kernel_rfl) rfl hS1 rfl<|D.m 1 rfl (by kernel_rfl) rfl hS1 rfl<|D.take 2 rfl (by kernel_rfl) (fun w_ hS=>(R1.atU (j:=k) rfl rfl (U32.gr (by assumption) hS) tyS24 rfl (by omega))) hS1 rfl<|D.take 3 rfl (by kernel_rfl) (fun w_ hS=>(R1.ldU rfl (U32.gr (by assumption) hS) tyP67 (by omega) rfl)) hS1 rfl<|D.m 4 rfl (by kernel_rfl) rfl hS1 rfl<|D.m 5 rfl (by kernel_rfl) rfl hS1 rfl<|D.take 6 rfl (by kernel_rfl) (fun w_ hS=>(R1.atU (j:=k) rfl rfl (U32.gr (by assumption) hS) tyS24 rfl (by omega))) hS1 rfl<|D.take 7 rfl (by kernel_rfl) (fun w_ hS=>(R1.ldU rfl (U32.gr (by assumption) hS) tyP67 (by omega) rfl)) hS1 rfl<|D.take 8 rfl (by kernel_rfl) (fun w_ hS=>(R1.ne rfl rfl)) hS1 rfl<|D.done (by decide +kernel) ?_ _
  refine X.seq<|W.cond rfl ?_ ?_
  ·
   intro hc25
   try simp only [bq,ne_eq] at hc25
   refine W.seq<|W.region<|L.a rfl rfl<|L.nil<|X.seq<|W.ret<|X.blockRet<|X.thenRet<|X.nextRet<|X.blockRet<|X.thenRet ?_
   refine X.result1 rfl (.tmp rfl .nil)<|⟨?_,hm0⟩
   rw [decide_eq_false (fun e=>by subst e; omega)]
  intro hc25
  try simp only [bq,ne_eq] at hc25
  refine W.skip<|X.blockEnd<|X.seq<|W.region<|L.m rfl rfl<|L.v (R1.addI (b:=1) rfl rfl (by omega)) rfl<|L.a rfl rfl<|L.nil<|X.next (k + 1) ?_ ?_ ?_
  · exact ⟨rfl,rfl,rfl,trivial⟩
  ·
   exact ⟨by omega,eq_step hk1 (by omega) he (by omega),h,k0,hm0⟩
  first | omega | (dsimp only; omega)
 intro hc14
 try simp only [bq,ne_eq] at hc14
 have hk1:k=xs.length:=by omega
 refine W.exit<|X.thenExit<|X.nextExit<|X.here<|X.seq<|W.seq<|W.region<|L.a rfl rfl<|L.nil<|X.seq<|W.ret ?_
 refine X.result1 rfl (.tmp rfl .nil)<|⟨?_,hm0⟩
 rw [hk1,List.take_length,hlen,List.take_length] at he
 rw [decide_eq_true he]
theorem c_ref2_Norm {M N9 : List Nat} {w : World} {s : Bool} {vn vd : Value} {xs ys : List Nat} {q : Rat} (hq : rv s (val xs) (val ys) = q) (h : U32 N9 w vn xs) (k : U32 N9 w vd ys) (hbd : Bd M w) (hl1 : xs.length ≤ 1099511627776) (hl2 : ys.length ≤ 1099511627776) :
    Ret Tryz.prog 31 #[.agg #[.bool s,vn,vd]] w (fun r w'=>RN M w' r q∧Mod [] w w'):=by
 have hx:=h.2;have hy:=k.2
 refine Ret.of (vs:=[.agg #[.bool s,vn,vd]]) (n:=44) Tryz.func31 rfl rfl rfl rfl ?_
 have hm0:Mod [] w w:=Mod.refl _ _
 refine W.seq<|W.region<|L.box rfl rfl ?_
 intro g1 w1 hN1
 replace h:=h.new hN1;replace k:=k.new hN1;replace hbd:=hbd.new hN1;have hge_g1:=New.ge hN1 hm0.size;replace hm0:=hm0.trans (hN1.mod.mono (by simp));have hb1:=hN1.blk;clear hN1
 refine L.alloc tyZ26 rfl ?_
 intro g2 w2 hN2
 replace h:=h.new hN2;replace k:=k.new hN2;replace hbd:=hbd.new hN2;have hge_g2:=New.ge hN2 hm0.size;replace hm0:=hm0.trans (hN2.mod.mono (by simp));have hne_g1_g2:=hb1.ne_ hN2;replace hb1:=Blk.gr hb1 hN2.mod;have hb2:=hN2.blk;clear hN2
 refine L.nil<|X.seq<|W.seq<|W.drawW (T:=[]) rfl (by decide +kernel) (NoHang.then NoHang.post) (fun w3 hm3=>?_)
 replace h:=h.gr hm3;replace k:=k.gr hm3;replace hbd:=hbd.gr hm3;replace hm0:=hm0.trans hm3;replace hb1:=Blk.gr hb1 hm3;replace hb2:=Blk.gr hb2 hm3
 have hS1:Mod [] w3 w3:=Mod.refl _ _
 clear hm3;have hb1_s:=hb1;have hb2_s:=hb2
 refine D.take 0 rfl (by kernel_rfl) (fun w_ hS=>(R1.fieldAt rfl tyF26_1)) hS1 rfl<|D.take 1 rfl (by kernel_rfl) (fun w_ hS=>(R1.loadFld rfl (Blk.gr hb1_s hS) rfl tyP24)) hS1 rfl<|D.take 3 rfl (by kernel_rfl) (fun w_ hS=>(R1.fieldAt rfl tyF26_2)) hS1 rfl<|D.take 4 rfl (by kernel_rfl) (fun w_ hS=>(R1.loadFld rfl (Blk.gr hb1_s hS) rfl tyP24)) hS1 rfl<|D.one 2 rfl (by kernel_rfl) (fun hX=>?_)
 refine L.call rfl (c_r1_Trim h hbd (by omega)) rfl ?_
 rintro v8 w4 ⟨h8,hm4⟩
 replace h:=h.gr hm4;replace k:=k.gr hm4;replace hbd:=hbd.gr hm4;replace hm0:=hm0.trans hm4;replace hb1:=Blk.gr hb1 hm4;replace hb2:=Blk.gr hb2 hm4;replace hS1:=hS1.trans hm4;clear hm4
 refine L.nil (hX _ _ ⟨.inr hS1,?_⟩)
 refine D.one 5 rfl (by kernel_rfl) (fun hX=>?_)
 refine L.call rfl (c_r1_Trim k hbd (by omega)) rfl ?_
 rintro v11 w5 ⟨h11,hm5⟩
 replace h:=h.gr hm5;replace k:=k.gr hm5;replace hbd:=hbd.gr hm5;replace hm0:=hm0.trans hm5;replace hb1:=Blk.gr hb1 hm5;replace hb2:=Blk.gr hb2 hm5;replace h8:=h8.gr hm5;replace hS1:=hS1.trans hm5;clear hm5
 refine L.nil (hX _ _ ⟨.inr hS1,?_⟩)
 refine D.take 6 rfl (by kernel_rfl) (fun w_ hS=>(R1.assign rfl)) hS1 rfl<|D.take 7 rfl (by kernel_rfl) (fun w_ hS=>(R1.assign rfl)) hS1 rfl<|D.done (by decide +kernel) ?_ _
 refine X.seq<|W.seq<|W.seq<|W.region<|L.m rfl rfl<|L.v (R1.lenU rfl (by assumption) tyS24) rfl<|L.v ((R1.eq rfl rfl).asB (c:=decide (val ys=0)) (len0 _)) rfl<|L.m rfl rfl ?_
 cases hgd15:decide (val ys=0)
 ·
  try simp only [bq,ne_eq] at hgd15
  refine L.on rfl rfl rfl (R1.move rfl) rfl<|L.on rfl rfl rfl (R1.lenU rfl (by assumption) tyS24) rfl<|L.on rfl rfl rfl ((R1.eq rfl rfl).asB (c:=decide (val xs=0)) (len0 _)) rfl<|L.v (R1.pickF rfl rfl) rfl<|L.nil<|X.seq<|W.cond rfl ?_ ?_
  ·
   intro hc19
   try simp only [bq,ne_eq] at hc19
   have hq0:q=0:=by rw [← hq,hc19,rv_n0]
   refine W.seq<|W.region ?_
   have hbdz:=hbd
   refine L.build1 rfl rfl tyS24 tyZ67 rfl ?_
   intro g20 w6 hN20
   replace hm0:=hm0.trans hN20.mod;replace hb2:=Blk.gr hb2 hN20.mod
   have h20:U32 (g2 :: g1 :: M) w6 (.slice (some ⟨g20,0,none⟩) 1 1) (toL 1):=by
       rw [toL_lit1]
       exact U32.of_blk (xs:=[1]) hN20.blk (hbdz.not (New.ge hN20 (Nat.le_refl _))) (by show (1:Nat)≤maxLen; decide) (by simp)
   clear hN20
   refine L.v (R1.build rfl (built_Q2 _ _ _)) rfl<|L.storeBox rfl rfl hb2 rfl rfl tyG26 ?_
   intro w7 hb2' hm7
   replace hm0:=hm0.old1 hm7 hge_g2;replace h20:=h20.mod hm7 (by simp);clear hm7;replace hb2:=hb2'; clear hb2'
   refine L.nil<|X.seq<|W.ret<|X.thenRet<|X.result1 rfl (.cell rfl (loadVar_blk hb2 tyG26) .nil) ?_
   exact ⟨RN.zero hq0 U32.nil (h20.sub (by intro b hb; simp [hb])),hm0⟩
  intro hc19
  try simp only [bq,ne_eq] at hc19
  have hgy:Nat.gcd (val xs) (val ys)≤val ys:=Nat.le_of_dvd (by omega) (Nat.gcd_dvd_right _ _)
  have hg0:Nat.gcd (val xs) (val ys)≠0:=fun h0=>hgd15 (Nat.eq_zero_of_gcd_eq_zero_right h0)
  have hlg:=toL_len_mono hgy;have hlx:=toL_len_40 hx hl1;have hly:=toL_len_40 hy hl2
  refine W.skip<|X.seq<|W.seq<|W.region<|L.m rfl rfl<|L.m rfl rfl<|L.call rfl (c_r1_Gcd h8 h11 hbd (by omega) (by omega)) rfl ?_
  rintro v24 w8 ⟨h24,hm8⟩
  replace hbd:=hbd.gr hm8;replace hm0:=hm0.trans hm8;replace hb1:=Blk.gr hb1 hm8;replace hb2:=Blk.gr hb2 hm8;replace h8:=h8.gr hm8;replace h11:=h11.gr hm8;clear hm8
  rw [val_toL,val_toL] at h24
  refine L.a rfl rfl<|L.nil<|X.seq<|W.seq<|W.region<|L.m rfl rfl<|L.m rfl rfl<|L.call rfl (c_r1_DivMod h8 h24 hbd (by omega) (by omega) (by rw [val_toL]; exact hg0)) rfl ?_
  rintro _ w9 ⟨v28,u28,rfl,h28,k28,hm9⟩
  replace hbd:=hbd.gr hm9;replace hm0:=hm0.trans hm9;replace hb1:=Blk.gr hb1 hm9;replace hb2:=Blk.gr hb2 hm9;replace h11:=h11.gr hm9;replace h24:=h24.gr hm9;clear hm9
  rw [val_toL,val_toL] at h28
  clear k28;obtain ⟨A28,c28,rfl⟩:=h28.form
  refine L.m rfl rfl<|L.v (R1.extract rfl rfl) rfl<|L.v (R1.extract rfl rfl) rfl<|L.v (R1.extract rfl rfl) rfl<|L.a rfl rfl<|L.nil<|X.seq<|W.seq<|W.region<|L.m rfl rfl<|L.m rfl rfl ?_
  refine L.call rfl (c_r1_DivMod h11 h24 hbd (by omega) (by omega) (by rw [val_toL]; exact hg0)) rfl ?_
  rintro _ w10 ⟨v35,u35,rfl,h35,k35,hm10⟩
  replace hm0:=hm0.trans hm10;replace hb1:=Blk.gr hb1 hm10;replace hb2:=Blk.gr hb2 hm10;replace h28:=h28.gr hm10;clear hm10
  rw [val_toL,val_toL] at h35
  clear k35;obtain ⟨A35,c35,rfl⟩:=h35.form
  refine L.m rfl rfl<|L.v (R1.extract rfl rfl) rfl<|L.v (R1.extract rfl rfl) rfl<|L.v (R1.extract rfl rfl) rfl<|L.a rfl rfl<|L.nil<|X.seq<|W.seq<|W.region<|L.v (R1.fieldAt rfl tyF26_0) rfl<|L.v (R1.loadFld rfl hb1 rfl tyP4) rfl ?_
  refine L.m rfl rfl<|L.m rfl rfl<|L.v (R1.build rfl (built_Q012 _ _ _ _ _ _ _)) rfl<|L.storeBox rfl rfl hb2 rfl rfl tyG26 ?_
  intro w11 hb2' hm11
  replace hm0:=hm0.old1 hm11 hge_g2;replace h28:=h28.mod hm11 (by simp);replace h35:=h35.mod hm11 (by simp);clear hm11;replace hb2:=hb2'; clear hb2'
  refine L.nil<|X.seq<|W.ret<|X.result1 rfl (.cell rfl (loadVar_blk hb2 tyG26) .nil) ?_
  exact ⟨RN.of hq hc19 hgd15 (h28.sub (by intro b hb; simp [hb])) (h35.sub (by intro b hb; simp [hb])),hm0⟩
 try simp only [bq,ne_eq] at hgd15
 have hq0:q=0:=by rw [← hq,hgd15,rv_d0]
 refine L.off rfl rfl rfl rfl rfl<|L.off rfl rfl rfl rfl rfl<|L.off rfl rfl rfl rfl rfl<|L.v (R1.pickT rfl rfl) rfl<|L.nil<|X.seq<|W.condT rfl<|W.seq<|W.region ?_
 have hbdz:=hbd
 refine L.build1 rfl rfl tyS24 tyZ67 rfl ?_
 intro g20 w12 hN20
 replace hm0:=hm0.trans hN20.mod;replace hb2:=Blk.gr hb2 hN20.mod
 have h20:U32 (g2 :: g1 :: M) w12 (.slice (some ⟨g20,0,none⟩) 1 1) (toL 1):=by
     rw [toL_lit1]
     exact U32.of_blk (xs:=[1]) hN20.blk (hbdz.not (New.ge hN20 (Nat.le_refl _))) (by show (1:Nat)≤maxLen; decide) (by simp)
 clear hN20
 refine L.v (R1.build rfl (built_Q2 _ _ _)) rfl<|L.storeBox rfl rfl hb2 rfl rfl tyG26 ?_
 intro w13 hb2' hm13
 replace hm0:=hm0.old1 hm13 hge_g2;replace h20:=h20.mod hm13 (by simp);clear hm13;replace hb2:=hb2'; clear hb2'
 refine L.nil<|X.seq<|W.ret<|X.thenRet<|X.result1 rfl (.cell rfl (loadVar_blk hb2 tyG26) .nil) ?_
 exact ⟨RN.zero hq0 U32.nil (h20.sub (by intro b hb; simp [hb])),hm0⟩
theorem c_ref2_Is {M N9 : List Nat} {w : World} {s : Bool} {vn vd : Value} {xs ys : List Nat} (h : U32 N9 w vn xs) (k : U32 N9 w vd ys) (hbd : Bd M w) (hl1 : xs.length ≤ 1099511627776) (hl2 : ys.length ≤ 1099511627776) :
    Ret Tryz.prog 84 #[.agg #[.bool s,vn,vd]] w (fun r w'=>r=.bool (isN s xs ys)∧Mod [] w w'):=by
 refine Ret.of (vs:=[.agg #[.bool s,vn,vd]]) (n:=25) Tryz.func84 rfl rfl rfl rfl ?_
 have hm0:Mod [] w w:=Mod.refl _ _
 refine W.seq<|W.region<|L.box rfl rfl ?_
 intro g1 w1 hN1
 replace h:=h.new hN1;replace k:=k.new hN1;replace hbd:=hbd.new hN1;replace hm0:=hm0.trans (hN1.mod.mono (by simp));have hb1:=hN1.blk;clear hN1
 refine L.a rfl rfl<|L.nil<|X.seq<|W.seq<|W.region<|L.v (R1.loadBox rfl hb1 tyG26) rfl<|L.call rfl (c_ref2_Norm (q:=rv s (val xs) (val ys)) rfl h k hbd (by omega) (by omega)) rfl ?_
 rintro _ w2 ⟨⟨A5,c5,B5,e5,rfl,hn5,hd5⟩,hm2⟩
 replace h:=h.gr hm2;replace k:=k.gr hm2;replace hm0:=hm0.trans hm2;replace hb1:=Blk.gr hb1 hm2;clear hm2
 refine L.alloc tyZ26 rfl ?_
 intro g3 w3 hN3
 replace h:=h.new hN3;replace k:=k.new hN3;have hge_g3:=New.ge hN3 hm0.size;replace hm0:=hm0.trans (hN3.mod.mono (by simp));have hne_g1_g3:=hb1.ne_ hN3;replace hb1:=Blk.gr hb1 hN3.mod;replace hn5:=hn5.new hN3;replace hd5:=hd5.new hN3;have hb3:=hN3.blk;clear hN3
 refine L.storeBox rfl rfl hb3 rfl rfl tyG26 ?_
 intro w4 hb3' hm4
 replace h:=h.mod hm4 (by simp);replace k:=k.mod hm4 (by simp);replace hm0:=hm0.old1 hm4 hge_g3;replace hb1:=Blk.far hb1 hm4 (by first | exact hne_g1_g3 | exact (hne_g3_g1).symm);replace hn5:=hn5.mod hm4 (by simp);replace hd5:=hd5.mod hm4 (by simp);clear hm4;replace hb3:=hb3'; clear hb3'
 refine L.nil<|X.seq<|W.seq<|W.region<|L.v (R1.fieldAt rfl tyF26_0) rfl<|L.v (R1.loadFld rfl hb1 rfl tyP4) rfl<|L.v (R1.fieldAt rfl tyF26_0) rfl<|L.v (R1.loadFld rfl hb3 rfl tyP4) rfl<|L.v ((R1.eqB rfl rfl tyB4).asB (c:=(s == decide ((rv s (val xs) (val ys)).num<0))) (rfl)) rfl<|L.m rfl rfl ?_
 cases hgd11:(s == decide ((rv s (val xs) (val ys)).num<0))
 ·
  have hcc_:=hgd11
  refine L.off rfl rfl rfl rfl rfl<|L.off rfl rfl rfl rfl rfl<|L.off rfl rfl rfl rfl rfl<|L.off rfl rfl rfl rfl rfl<|L.off rfl rfl rfl rfl rfl<|L.v (R1.pickF rfl rfl) rfl<|L.m rfl rfl<|L.off rfl rfl rfl rfl rfl<|L.off rfl rfl rfl rfl rfl<|L.off rfl rfl rfl rfl rfl<|L.off rfl rfl rfl rfl rfl ?_
  refine L.off rfl rfl rfl rfl rfl<|L.v (R1.pickF rfl rfl) rfl<|L.a rfl rfl<|L.nil<|X.seq<|W.ret<|X.result1 rfl (.tmp rfl .nil)<|⟨?_,hm0⟩
  unfold isN
  first | rw [hgd11,hgd18]; rfl | rw [hgd11]; rfl
 have hcc_:=hgd11
 refine L.on rfl rfl rfl (R1.fieldAt rfl tyF26_1) rfl<|L.on rfl rfl rfl (R1.loadFld rfl hb1 rfl tyP24) rfl<|L.on rfl rfl rfl (R1.fieldAt rfl tyF26_1) rfl<|L.on rfl rfl rfl (R1.loadFld rfl hb3 rfl tyP24) rfl<|L.callOn rfl rfl rfl rfl (c_limbs h hn5) rfl ?_
 rintro _ w5 ⟨rfl,hm5⟩
 replace k:=k.gr hm5;replace hm0:=hm0.trans hm5;replace hb1:=Blk.gr hb1 hm5;replace hd5:=hd5.gr hm5;replace hb3:=Blk.gr hb3 hm5;clear hm5
 refine L.v (R1.pickT rfl rfl) rfl<|L.m rfl rfl ?_
 cases hgd18:decide (xs=toL (rv s (val xs) (val ys)).num.natAbs)
 ·
  have hcd_:=hgd18
  refine L.off rfl rfl rfl rfl rfl<|L.off rfl rfl rfl rfl rfl<|L.off rfl rfl rfl rfl rfl<|L.off rfl rfl rfl rfl rfl<|L.off rfl rfl rfl rfl rfl<|L.v (R1.pickF rfl rfl) rfl<|L.a rfl rfl<|L.nil<|X.seq<|W.ret<|X.result1 rfl (.tmp rfl .nil) ?_
  refine ⟨?_,hm0⟩
  unfold isN
  first | rw [hgd11,hgd18]; rfl | rw [hgd11]; rfl
 have hcd_:=hgd18
 refine L.on rfl rfl rfl (R1.fieldAt rfl tyF26_2) rfl<|L.on rfl rfl rfl (R1.loadFld rfl hb1 rfl tyP24) rfl<|L.on rfl rfl rfl (R1.fieldAt rfl tyF26_2) rfl<|L.on rfl rfl rfl (R1.loadFld rfl hb3 rfl tyP24) rfl<|L.callOn rfl rfl rfl rfl (c_limbs k hd5) rfl ?_
 rintro _ w6 ⟨rfl,hm6⟩
 replace hm0:=hm0.trans hm6;clear hm6
 refine L.v (R1.pickT rfl rfl) rfl<|L.a rfl rfl<|L.nil<|X.seq<|W.ret<|X.result1 rfl (.tmp rfl .nil)<|⟨?_,hm0⟩
 unfold isN
 first | rw [hgd11,hgd18]; rfl | rw [hgd11]; rfl
theorem c_ref2_Of {M N9 : List Nat} {w : World} {s : Bool} {vn vd : Value} {xs ys : List Nat} {q : Rat} (hq : rv s (val xs) (val ys) = q) (h : U32 N9 w vn xs) (k : U32 N9 w vd ys) (hbd : Bd M w) (hl1 : xs.length ≤ 1099511627776) (hl2 : ys.length ≤ 1099511627776) :
    Ret Tryz.prog 29 #[.bool s,vn,vd] w (fun r w'=>RN M w' r q∧Mod [] w w'):=by
 obtain ⟨A1,c1,rfl⟩:=h.form;obtain ⟨A2,c2,rfl⟩:=k.form
 refine Ret.of (vs:=[.bool s,.slice A1 xs.length c1,.slice A2 ys.length c2]) (n:=12) Tryz.func29 rfl rfl rfl rfl ?_
 have hm0:Mod [] w w:=Mod.refl _ _
 refine W.seq<|W.region<|L.alloc tyZ26 rfl ?_
 intro g6 w1 hN6
 replace h:=h.new hN6;replace k:=k.new hN6;replace hbd:=hbd.new hN6;have hge_g6:=New.ge hN6 hm0.size;replace hm0:=hm0.trans (hN6.mod.mono (by simp));have hb6:=hN6.blk;clear hN6
 refine L.nil<|X.seq<|W.seq<|W.region<|L.m rfl rfl<|L.m rfl rfl<|L.m rfl rfl<|L.v (R1.build rfl (built_Q012 _ _ _ _ _ _ _)) rfl<|L.call rfl (c_ref2_Norm hq h k hbd (by omega) (by omega)) rfl ?_
 rintro _ w2 ⟨⟨A11,c11,B11,e11,rfl,hn11,hd11⟩,hm2⟩
 replace hm0:=hm0.trans hm2;replace hb6:=Blk.gr hb6 hm2;clear hm2
 refine L.storeBox rfl rfl hb6 rfl rfl tyG26 ?_
 intro w3 hb6' hm3
 replace hm0:=hm0.old1 hm3 hge_g6;replace hn11:=hn11.mod hm3 (by simp);replace hd11:=hd11.mod hm3 (by simp);clear hm3;replace hb6:=hb6'; clear hb6'
 refine L.nil<|X.seq<|W.ret<|X.result1 rfl (.cell rfl (loadVar_blk hb6 tyG26) .nil) ?_
 exact ⟨RN.mk rfl (hn11.sub (by intro b hb; simp [hb])) (hd11.sub (by intro b hb; simp [hb])),hm0⟩
theorem c_ref2_Int {M : List Nat} {w : World} {n : Int} (h1 : -9223372036854775808 ≤ n) (h2 : n ≤ 9223372036854775807) (hbd : Bd M w) :
    Ret Tryz.prog 11 #[.int .i64 n] w (fun r w'=>RN M w' r (n:Rat)∧Mod [] w w'):=by
 have hln:(toL n.natAbs).length≤2:=toL_length_le (by omega)
 refine Ret.of (vs:=[.int .i64 n]) (n:=16) Tryz.func11 rfl rfl rfl rfl ?_
 have hm0:Mod [] w w:=Mod.refl _ _
 refine W.seq<|W.region<|L.alloc tyZ26 rfl ?_
 intro g2 w1 hN2
 replace hbd:=hbd.new hN2;have hge_g2:=New.ge hN2 hm0.size;replace hm0:=hm0.trans (hN2.mod.mono (by simp));have hb2:=hN2.blk;clear hN2
 refine L.nil<|X.seq<|W.seq<|W.region<|L.m rfl rfl<|L.v ((R1.conv rfl tyI3 tyI64).as (j:=(n % 18446744073709551616)) (wrap_u64_mod _)) rfl<|L.a rfl rfl<|L.nil<|X.seq<|W.seq<|W.seq ?_
 refine W.region<|L.m rfl rfl<|L.v (R1.lt rfl rfl) rfl<|L.nil<|X.seq<|W.cut (ι:=Unit) (fun _=>[(0,.int .i64 n),(2,.pointer (some ⟨g2,0,none⟩)),(3,.int .u64 ((n.natAbs:Nat):Int))]) (fun _ w_=>Blk w_ g2 26 #[.bool false,.slice none 0 0,.slice none 0 0]∧Bd (g2 :: M) w_∧Mod [] w w_) ?_ ?_
 ·
  refine W.cond rfl ?_ ?_
  ·
   intro hc7
   try simp only [bq,ne_eq] at hc7
   refine W.region<|L.m rfl rfl<|L.v ((R1.neg rfl).as (j:=((n.natAbs:Nat):Int)) (by rw [wrap_u64_mod]; omega)) rfl<|L.a rfl rfl<|L.nil<|X.join () ?_ ?_
   · exact ⟨rfl,rfl,congrArg (fun i=>some (Value.int .u64 i)) (by omega),trivial⟩
   exact ⟨hb2,hbd,hm0⟩
  intro hc7
  try simp only [bq,ne_eq] at hc7
  refine W.skip<|X.join () ?_ ?_
  · exact ⟨rfl,rfl,congrArg (fun i=>some (Value.int .u64 i)) (by omega),trivial⟩
  exact ⟨hb2,hbd,hm0⟩
 rintro _ wj ⟨hb2,hbd,hm0⟩
 refine X.seq<|W.seq<|W.region<|L.m rfl rfl<|L.v (R1.lt rfl rfl) rfl<|L.m rfl rfl<|L.call rfl (c_r1_Of (n:=n.natAbs) (by omega) hbd) rfl ?_
 rintro v13 w2 ⟨h13,hm2⟩
 replace hb2:=Blk.gr hb2 hm2;replace hbd:=hbd.gr hm2;replace hm0:=hm0.trans hm2;clear hm2;have hbdz:=hbd
 refine L.build1 rfl rfl tyS24 tyZ67 rfl ?_
 intro g14 w3 hN14
 replace hb2:=Blk.gr hb2 hN14.mod;replace hbd:=hbd.gr hN14.mod;replace hm0:=hm0.trans hN14.mod;replace h13:=h13.gr hN14.mod
 have h14:U32 (g2 :: M) w3 (.slice (some ⟨g14,0,none⟩) 1 1) (toL 1):=by
     rw [toL_lit1]
     exact U32.of_blk (xs:=[1]) hN14.blk (hbdz.not (New.ge hN14 (Nat.le_refl _))) (by show (1:Nat)≤maxLen; decide) (by simp)
 clear hN14
 refine L.call rfl (c_ref2_Of (q:=(n:Rat)) (by rw [val_toL,val_toL]; exact rv_int n) h13 h14 hbd (by omega) (by rw [toL_1]; omega)) rfl ?_
 rintro _ w4 ⟨⟨A15,c15,B15,e15,rfl,hn15,hd15⟩,hm4⟩
 replace hb2:=Blk.gr hb2 hm4;replace hm0:=hm0.trans hm4;clear hm4
 refine L.storeBox rfl rfl hb2 rfl rfl tyG26 ?_
 intro w5 hb2' hm5
 replace hm0:=hm0.old1 hm5 hge_g2;replace hn15:=hn15.mod hm5 (by simp);replace hd15:=hd15.mod hm5 (by simp);clear hm5;replace hb2:=hb2'; clear hb2'
 refine L.nil<|X.seq<|W.ret<|X.result1 rfl (.cell rfl (loadVar_blk hb2 tyG26) .nil) ?_
 exact ⟨RN.mk rfl (hn15.sub (by intro b hb; simp [hb])) (hd15.sub (by intro b hb; simp [hb])),hm0⟩
theorem c_ref2_Zero {M N9 : List Nat} {w : World} {s : Bool} {vn vd : Value} {xs ys : List Nat} {q : Rat} (hq : rv s (val xs) (val ys) = q) (h : U32 N9 w vn xs) (k : U32 N9 w vd ys) (hbd : Bd M w) (hl1 : xs.length ≤ 1099511627776) (hl2 : ys.length ≤ 1099511627776) :
    Ret Tryz.prog 54 #[.agg #[.bool s,vn,vd]] w (fun r w'=>r=.bool (decide (q=0))∧Mod [] w w'):=by
 refine Ret.of (vs:=[.agg #[.bool s,vn,vd]]) (n:=8) Tryz.func54 rfl rfl rfl rfl ?_
 have hm0:Mod [] w w:=Mod.refl _ _
 refine W.seq<|W.region<|L.box rfl rfl ?_
 intro g1 w1 hN1
 replace h:=h.new hN1;replace k:=k.new hN1;replace hbd:=hbd.new hN1;have hge_g1:=New.ge hN1 hm0.size;replace hm0:=hm0.trans (hN1.mod.mono (by simp));have hb1:=hN1.blk;clear hN1
 refine L.a rfl rfl<|L.nil<|X.seq<|W.seq<|W.region<|L.v (R1.loadBox rfl hb1 tyG26) rfl<|L.call rfl (c_ref2_Norm hq h k hbd (by omega) (by omega)) rfl ?_
 rintro _ w2 ⟨⟨A4,c4,B4,e4,rfl,hn4,hd4⟩,hm2⟩
 replace h:=h.gr hm2;replace k:=k.gr hm2;replace hbd:=hbd.gr hm2;replace hm0:=hm0.trans hm2;replace hb1:=Blk.gr hb1 hm2;clear hm2
 refine L.v (R1.fieldV rfl tyFP26_1 rfl) rfl<|L.v (R1.lenU rfl (by assumption) tyS24) rfl<|L.v ((R1.eq rfl rfl).asB (c:=decide (q=0)) (by rw [len0]; congr 1; exact propext (num_zero_iff q))) rfl<|L.a rfl rfl<|L.nil<|X.seq<|W.ret<|X.result1 rfl (.tmp rfl .nil) ?_
 exact ⟨rfl,hm0⟩
theorem c_ref2_Neg {M N9 : List Nat} {w : World} {s : Bool} {vn vd : Value} {xs ys : List Nat} {q : Rat} (hq : rv s (val xs) (val ys) = q) (h : U32 N9 w vn xs) (k : U32 N9 w vd ys) (hbd : Bd M w) (hl1 : xs.length ≤ 1099511627776) (hl2 : ys.length ≤ 1099511627776) :
    Ret Tryz.prog 12 #[.agg #[.bool s,vn,vd]] w (fun r w'=>RN M w' r (-q)∧Mod [] w w'):=by
 refine Ret.of (vs:=[.agg #[.bool s,vn,vd]]) (n:=17) Tryz.func12 rfl rfl rfl rfl ?_
 have hm0:Mod [] w w:=Mod.refl _ _
 refine W.seq<|W.region<|L.box rfl rfl ?_
 intro g1 w1 hN1
 replace h:=h.new hN1;replace k:=k.new hN1;replace hbd:=hbd.new hN1;have hge_g1:=New.ge hN1 hm0.size;replace hm0:=hm0.trans (hN1.mod.mono (by simp));have hb1:=hN1.blk;clear hN1
 refine L.alloc tyZ26 rfl ?_
 intro g2 w2 hN2
 replace h:=h.new hN2;replace k:=k.new hN2;replace hbd:=hbd.new hN2;have hge_g2:=New.ge hN2 hm0.size;replace hm0:=hm0.trans (hN2.mod.mono (by simp));have hne_g1_g2:=hb1.ne_ hN2;replace hb1:=Blk.gr hb1 hN2.mod;have hb2:=hN2.blk;clear hN2
 refine L.nil<|X.seq<|W.seq<|W.region<|L.v (R1.loadBox rfl hb1 tyG26) rfl<|L.call rfl (c_ref2_Norm hq h k hbd (by omega) (by omega)) rfl ?_
 rintro _ w3 ⟨⟨A5,c5,B5,e5,rfl,hn5,hd5⟩,hm3⟩
 replace h:=h.gr hm3;replace k:=k.gr hm3;replace hbd:=hbd.gr hm3;replace hm0:=hm0.trans hm3;replace hb1:=Blk.gr hb1 hm3;replace hb2:=Blk.gr hb2 hm3;clear hm3
 refine L.alloc tyZ26 rfl ?_
 intro g3 w4 hN3
 replace h:=h.new hN3;replace k:=k.new hN3;replace hbd:=hbd.new hN3;have hge_g3:=New.ge hN3 hm0.size;replace hm0:=hm0.trans (hN3.mod.mono (by simp));have hne_g1_g3:=hb1.ne_ hN3;replace hb1:=Blk.gr hb1 hN3.mod;have hne_g2_g3:=hb2.ne_ hN3;replace hb2:=Blk.gr hb2 hN3.mod;replace hn5:=hn5.new hN3;replace hd5:=hd5.new hN3;have hb3:=hN3.blk;clear hN3
 refine L.storeBox rfl rfl hb3 rfl rfl tyG26 ?_
 intro w5 hb3' hm5
 replace h:=h.mod hm5 (by simp);replace k:=k.mod hm5 (by simp);replace hbd:=hbd.gr hm5;replace hm0:=hm0.old1 hm5 hge_g3;replace hb1:=Blk.far hb1 hm5 (by first | exact hne_g1_g3 | exact (hne_g3_g1).symm);replace hb2:=Blk.far hb2 hm5 (by first | exact hne_g2_g3 | exact (hne_g3_g2).symm);replace hn5:=hn5.mod hm5 (by simp);replace hd5:=hd5.mod hm5 (by simp);clear hm5;replace hb3:=hb3'; clear hb3'
 refine L.nil<|X.seq<|W.seq<|W.region<|L.v (R1.fieldAt rfl tyF26_0) rfl<|L.v (R1.loadFld rfl hb3 rfl tyP4) rfl<|L.v (R1.not rfl) rfl<|L.m rfl rfl ?_
 cases hgd9:(!decide (q.num<0))
 ·
  have hcc_:=hgd9
  refine L.off rfl rfl rfl rfl rfl<|L.off rfl rfl rfl rfl rfl<|L.off rfl rfl rfl rfl rfl<|L.off rfl rfl rfl rfl rfl<|L.v (R1.pickF rfl rfl) rfl<|L.v (R1.fieldAt rfl tyF26_0) rfl<|L.store rfl rfl hb3 (show 0<3 by decide) rfl tyP4 ?_
  intro w6 hb3' hm6
  replace hm0:=hm0.old1 hm6 hge_g3;replace hb2:=Blk.far hb2 hm6 (by first | exact hne_g2_g3 | exact (hne_g3_g2).symm);replace hn5:=hn5.mod hm6 (by simp);replace hd5:=hd5.mod hm6 (by simp);clear hm6;replace hb3:=hb3'; clear hb3'
  replace hb3:Blk w6 g3 26 #[.bool _,.slice A5 (toL q.num.natAbs).length c5,.slice B5 (toL q.den).length e5]:=hb3
  refine L.nil<|X.seq<|W.seq<|W.region<|L.v (R1.loadBox rfl hb3 tyG26) rfl<|L.storeBox rfl rfl hb2 rfl rfl tyG26 ?_
  intro w7 hb2' hm7
  replace hm0:=hm0.old1 hm7 hge_g2;replace hn5:=hn5.mod hm7 (by simp);replace hd5:=hd5.mod hm7 (by simp);clear hm7;replace hb2:=hb2'; clear hb2'
  refine L.nil<|X.seq<|W.ret<|X.result1 rfl (.cell rfl (loadVar_blk hb2 tyG26) .nil) ?_
  have hz:=RN.neg (M:=M) (hn5.sub (by intro b hb; simp [hb])) (hd5.sub (by intro b hb; simp [hb]))
  rw [hgd9] at hz
  exact ⟨hz,hm0⟩
 have hcc_:=hgd9
 refine L.on rfl rfl rfl (R1.fieldAt rfl tyF26_1) rfl<|L.on rfl rfl rfl (R1.loadFld rfl hb3 rfl tyP24) rfl<|L.on rfl rfl rfl (R1.lenU rfl (by assumption) tyS24) rfl<|L.on rfl rfl rfl ((R1.gt rfl rfl).asB (c:=decide (q.num.natAbs≠0)) (lenpos _)) rfl<|L.v (R1.pickT rfl rfl) rfl<|L.v (R1.fieldAt rfl tyF26_0) rfl<|L.store rfl rfl hb3 (show 0<3 by decide) rfl tyP4 ?_
 intro w8 hb3' hm8
 replace hm0:=hm0.old1 hm8 hge_g3;replace hb2:=Blk.far hb2 hm8 (by first | exact hne_g2_g3 | exact (hne_g3_g2).symm);replace hn5:=hn5.mod hm8 (by simp);replace hd5:=hd5.mod hm8 (by simp);clear hm8;replace hb3:=hb3'; clear hb3'
 replace hb3:Blk w8 g3 26 #[.bool _,.slice A5 (toL q.num.natAbs).length c5,.slice B5 (toL q.den).length e5]:=hb3
 refine L.nil<|X.seq<|W.seq<|W.region<|L.v (R1.loadBox rfl hb3 tyG26) rfl<|L.storeBox rfl rfl hb2 rfl rfl tyG26 ?_
 intro w9 hb2' hm9
 replace hm0:=hm0.old1 hm9 hge_g2;replace hn5:=hn5.mod hm9 (by simp);replace hd5:=hd5.mod hm9 (by simp);clear hm9;replace hb2:=hb2'; clear hb2'
 refine L.nil<|X.seq<|W.ret<|X.result1 rfl (.cell rfl (loadVar_blk hb2 tyG26) .nil) ?_
 have hz:=RN.neg (M:=M) (hn5.sub (by intro b hb; simp [hb])) (hd5.sub (by intro b hb; simp [hb]))
 rw [hgd9] at hz
 exact ⟨hz,hm0⟩
end Go.Proofs.YtedokfpoajfflaaGreat
