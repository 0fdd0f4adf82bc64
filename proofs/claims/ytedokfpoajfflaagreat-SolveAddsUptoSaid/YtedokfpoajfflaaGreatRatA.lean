/- Walks: what the functions compute. -/
import Derived.Test.YtedokfpoajfflaaGreatTy
import Derived.Test.YtedokfpoajfflaaGreatRat
import Derived.Test.YtedokfpoajfflaaGreatNat7
namespace Go.Proofs.YtedokfpoajfflaaGreat
open Go.RowKit
set_option linter.unusedVariables false
set_option linter.unusedSimpArgs false
set_option maxRecDepth 10000
theorem c_nat_SubAny {M : List Nat} {w : World} {va vb : Value} {xs ys : List Nat} (h : U32 M w va xs) (k : U32 M w vb ys) (hbd : Bd M w) (hl1 : xs.length ≤ 1099511627776) (hl2 : ys.length ≤ 1099511627776) :
    Ret Tryz.prog 107 #[va,vb] w (fun r w'=>∃ v b,r=.tuple #[v,.bool b]∧(b=true→val ys≤val xs∧U32 M w' v (toL (val xs - val ys)))∧(b=false→val xs<val ys)∧Mod [] w w'):=by
  rcases Nat.lt_or_ge (val xs) (val ys) with hlt | hge
  · exact (c_nat_Sub0 h k hlt).mono fun r w' ⟨h1,h2⟩=>⟨_,false,h1,(fun h=>by cases h),fun _=>hlt,h2⟩
  exact (c_nat_Sub h k hbd hl1 hl2 hge).mono fun r w' ⟨v,h1,h2,h3⟩=>⟨v,true,h1,fun _=>⟨hge,h2⟩,(fun h=>by cases h),h3⟩
theorem built_Q2 (A:Option Addr) (n c:Nat):Tryz.prog.built 26 [(2,.slice A n c)]=some #[.bool false,.slice none 0 0,.slice A n c]:=by kernel_rfl
theorem built_Q012 (s:Bool) (A:Option Addr) (n c:Nat) (B:Option Addr) (m d:Nat):Tryz.prog.built 26 [(0,.bool s),(1,.slice A n c),(2,.slice B m d)]=some #[.bool s,.slice A n c,.slice B m d]:=by kernel_rfl
theorem built_Q:Tryz.prog.built 26 []=some #[.bool false,.slice none 0 0,.slice none 0 0]:=by kernel_rfl
theorem c_rat_Of {M N9 : List Nat} {w : World} {s : Bool} {vn vd : Value} {xs ys : List Nat} {q : Rat} (hq : rv s (val xs) (val ys) = q) (h : U32 N9 w vn xs) (k : U32 N9 w vd ys) (hbd : Bd M w) (hl1 : xs.length ≤ 1099511627776) (hl2 : ys.length ≤ 1099511627776) :
    Ret Tryz.prog 74 #[.bool s,vn,vd] w (fun r w'=>RN M w' r q∧Mod [] w w'):=by
 have hx:=h.2;have hy:=k.2
 refine Ret.of (vs:=[.bool s,vn,vd]) (n:=43) Tryz.func74 rfl rfl rfl rfl ?_
 have hm0:Mod [] w w:=Mod.refl _ _
 refine W.seq<|W.region<|L.alloc tyZ26 rfl ?_
 intro g6 w1 hN6
 replace h:=h.new hN6;replace k:=k.new hN6;replace hbd:=hbd.new hN6;have hge_g6:=New.ge hN6 hm0.size;replace hm0:=hm0.trans (hN6.mod.mono (by simp));have hb6:=hN6.blk;clear hN6
 refine L.nil<|X.seq<|W.seq<|W.region<|L.m rfl rfl<|L.call rfl (c_nat_Trim (by assumption) (by assumption) (by omega)) rfl ?_
 rintro v9 w2 ⟨h9,hm2⟩
 replace h:=h.gr hm2;replace k:=k.gr hm2;replace hbd:=hbd.gr hm2;replace hm0:=hm0.trans hm2;replace hb6:=Blk.gr hb6 hm2;clear hm2
 refine L.m rfl rfl<|L.call rfl (c_nat_Trim (by assumption) (by assumption) (by omega)) rfl ?_
 rintro v11 w3 ⟨h11,hm3⟩
 replace h:=h.gr hm3;replace k:=k.gr hm3;replace hbd:=hbd.gr hm3;replace hm0:=hm0.trans hm3;replace hb6:=Blk.gr hb6 hm3;replace h9:=h9.gr hm3;clear hm3
 refine L.a rfl rfl<|L.a rfl rfl<|L.nil<|X.seq<|W.seq<|W.seq<|W.region<|L.m rfl rfl<|L.v (R1.lenU rfl (by assumption) tyS24) rfl<|L.v ((R1.eq rfl rfl).asB (c:=decide (val xs=0)) (len0 _)) rfl<|L.m rfl rfl ?_
 cases hgd15:decide (val xs=0)
 ·
  try simp only [bq,ne_eq] at hgd15
  refine L.on rfl rfl rfl (R1.move rfl) rfl<|L.on rfl rfl rfl (R1.lenU rfl (by assumption) tyS24) rfl<|L.on rfl rfl rfl ((R1.eq rfl rfl).asB (c:=decide (val ys=0)) (len0 _)) rfl<|L.v (R1.pickF rfl rfl) rfl<|L.nil<|X.seq<|W.cond rfl ?_ ?_
  ·
   intro hc19
   try simp only [bq,ne_eq] at hc19
   have hq0:q=0:=by rw [← hq,hc19,rv_d0]
   refine W.seq<|W.region<|L.call rfl (c_nat_Of (n:=1) (by decide) hbd) rfl ?_
   rintro v20 w4 ⟨h20,hm4⟩
   replace hm0:=hm0.trans hm4;replace hb6:=Blk.gr hb6 hm4;clear hm4;obtain ⟨A20,c20,rfl⟩:=h20.form
   refine L.v (R1.build rfl (built_Q2 _ _ _)) rfl<|L.storeBox rfl rfl hb6 rfl rfl tyG26 ?_
   intro w5 hb6' hm5
   replace hm0:=hm0.old1 hm5 hge_g6;replace h20:=h20.mod hm5 (by simp);clear hm5;replace hb6:=hb6'; clear hb6'
   refine L.nil<|X.seq<|W.ret<|X.thenRet<|X.result1 rfl (.cell rfl (loadVar_blk hb6 tyG26) .nil) ?_
   exact ⟨RN.zero hq0 U32.nil (h20.sub (by intro b hb; simp [hb])),hm0⟩
  intro hc19
  try simp only [bq,ne_eq] at hc19
  have hgy:Nat.gcd (val xs) (val ys)≤val ys:=Nat.le_of_dvd (by omega) (Nat.gcd_dvd_right _ _)
  have hg0:Nat.gcd (val xs) (val ys)≠0:=fun h0=>hc19 (Nat.eq_zero_of_gcd_eq_zero_right h0)
  have hlg:=toL_len_mono hgy;have hlx:=toL_len_40 hx hl1;have hly:=toL_len_40 hy hl2
  refine W.skip<|X.seq<|W.seq<|W.region<|L.m rfl rfl<|L.m rfl rfl<|L.call rfl (c_nat_Gcd h9 h11 hbd (by omega) (by omega)) rfl ?_
  rintro v24 w6 ⟨h24,hm6⟩
  replace hbd:=hbd.gr hm6;replace hm0:=hm0.trans hm6;replace hb6:=Blk.gr hb6 hm6;replace h9:=h9.gr hm6;replace h11:=h11.gr hm6;clear hm6
  rw [val_toL,val_toL] at h24
  refine L.a rfl rfl<|L.nil<|X.seq<|W.seq<|W.region<|L.m rfl rfl<|L.m rfl rfl<|L.call rfl (c_nat_DivMod h9 h24 hbd (by omega) (by omega) (by rw [val_toL]; exact hg0)) rfl ?_
  rintro _ w7 ⟨v28,u28,rfl,h28,k28,hm7⟩
  replace hbd:=hbd.gr hm7;replace hm0:=hm0.trans hm7;replace hb6:=Blk.gr hb6 hm7;replace h11:=h11.gr hm7;replace h24:=h24.gr hm7;clear hm7
  rw [val_toL,val_toL] at h28
  clear k28;obtain ⟨A28,c28,rfl⟩:=h28.form
  refine L.m rfl rfl<|L.v (R1.extract rfl rfl) rfl<|L.v (R1.extract rfl rfl) rfl<|L.v (R1.extract rfl rfl) rfl<|L.a rfl rfl<|L.nil<|X.seq<|W.seq<|W.region<|L.m rfl rfl<|L.m rfl rfl ?_
  refine L.call rfl (c_nat_DivMod h11 h24 hbd (by omega) (by omega) (by rw [val_toL]; exact hg0)) rfl ?_
  rintro _ w8 ⟨v35,u35,rfl,h35,k35,hm8⟩
  replace hm0:=hm0.trans hm8;replace hb6:=Blk.gr hb6 hm8;replace h28:=h28.gr hm8;clear hm8
  rw [val_toL,val_toL] at h35
  clear k35;obtain ⟨A35,c35,rfl⟩:=h35.form
  refine L.m rfl rfl<|L.v (R1.extract rfl rfl) rfl<|L.v (R1.extract rfl rfl) rfl<|L.v (R1.extract rfl rfl) rfl<|L.a rfl rfl<|L.nil<|X.seq<|W.seq<|W.region<|L.m rfl rfl<|L.m rfl rfl ?_
  refine L.m rfl rfl<|L.v (R1.build rfl (built_Q012 _ _ _ _ _ _ _)) rfl<|L.storeBox rfl rfl hb6 rfl rfl tyG26 ?_
  intro w9 hb6' hm9
  replace hm0:=hm0.old1 hm9 hge_g6;replace h28:=h28.mod hm9 (by simp);replace h35:=h35.mod hm9 (by simp);clear hm9;replace hb6:=hb6'; clear hb6'
  refine L.nil<|X.seq<|W.ret<|X.result1 rfl (.cell rfl (loadVar_blk hb6 tyG26) .nil) ?_
  exact ⟨RN.of hq hgd15 hc19 (h28.sub (by intro b hb; simp [hb])) (h35.sub (by intro b hb; simp [hb])),hm0⟩
 try simp only [bq,ne_eq] at hgd15
 have hq0:q=0:=by rw [← hq,hgd15,rv_n0]
 refine L.off rfl rfl rfl rfl rfl<|L.off rfl rfl rfl rfl rfl<|L.off rfl rfl rfl rfl rfl<|L.v (R1.pickT rfl rfl) rfl<|L.nil<|X.seq<|W.condT rfl<|W.seq<|W.region<|L.call rfl (c_nat_Of (n:=1) (by decide) hbd) rfl ?_
 rintro v20 w10 ⟨h20,hm10⟩
 replace hm0:=hm0.trans hm10;replace hb6:=Blk.gr hb6 hm10;clear hm10;obtain ⟨A20,c20,rfl⟩:=h20.form
 refine L.v (R1.build rfl (built_Q2 _ _ _)) rfl<|L.storeBox rfl rfl hb6 rfl rfl tyG26 ?_
 intro w11 hb6' hm11
 replace hm0:=hm0.old1 hm11 hge_g6;replace h20:=h20.mod hm11 (by simp);clear hm11;replace hb6:=hb6'; clear hb6'
 refine L.nil<|X.seq<|W.ret<|X.thenRet<|X.result1 rfl (.cell rfl (loadVar_blk hb6 tyG26) .nil) ?_
 exact ⟨RN.zero hq0 U32.nil (h20.sub (by intro b hb; simp [hb])),hm0⟩
theorem c_rat_Norm {M N9 : List Nat} {w : World} {s : Bool} {vn vd : Value} {xs ys : List Nat} {q : Rat} (hq : rv s (val xs) (val ys) = q) (h : U32 N9 w vn xs) (k : U32 N9 w vd ys) (hbd : Bd M w) (hl1 : xs.length ≤ 1099511627776) (hl2 : ys.length ≤ 1099511627776) :
    Ret Tryz.prog 45 #[.agg #[.bool s,vn,vd]] w (fun r w'=>RN M w' r q∧Mod [] w w'):=by
 refine Ret.of (vs:=[.agg #[.bool s,vn,vd]]) (n:=10) Tryz.func45 rfl rfl rfl rfl ?_
 have hm0:Mod [] w w:=Mod.refl _ _
 refine W.seq<|W.region<|L.box rfl rfl ?_
 intro g1 w1 hN1
 replace h:=h.new hN1;replace k:=k.new hN1;replace hbd:=hbd.new hN1;replace hm0:=hm0.trans (hN1.mod.mono (by simp));have hb1:=hN1.blk;clear hN1
 refine L.alloc tyZ26 rfl ?_
 intro g2 w2 hN2
 replace h:=h.new hN2;replace k:=k.new hN2;replace hbd:=hbd.new hN2;have hge_g2:=New.ge hN2 hm0.size;replace hm0:=hm0.trans (hN2.mod.mono (by simp));replace hb1:=Blk.gr hb1 hN2.mod;have hb2:=hN2.blk;clear hN2
 refine L.nil<|X.seq<|W.seq<|W.region<|L.v (R1.fieldAt rfl tyF26_0) rfl<|L.v (R1.loadFld rfl hb1 rfl tyP4) rfl<|L.v (R1.fieldAt rfl tyF26_1) rfl<|L.v (R1.loadFld rfl hb1 rfl tyP24) rfl<|L.v (R1.fieldAt rfl tyF26_2) rfl<|L.v (R1.loadFld rfl hb1 rfl tyP24) rfl<|L.call rfl (c_rat_Of hq h k hbd hl1 hl2) rfl ?_
 rintro _ w3 ⟨⟨A9,c9,B9,e9,rfl,hn9,hd9⟩,hm3⟩
 replace hm0:=hm0.trans hm3;replace hb2:=Blk.gr hb2 hm3;clear hm3
 refine L.storeBox rfl rfl hb2 rfl rfl tyG26 ?_
 intro w4 hb2' hm4
 replace hm0:=hm0.old1 hm4 hge_g2;replace hn9:=hn9.mod hm4 (by simp);replace hd9:=hd9.mod hm4 (by simp);clear hm4;replace hb2:=hb2'; clear hb2'
 refine L.nil<|X.seq<|W.ret<|X.result1 rfl (.cell rfl (loadVar_blk hb2 tyG26) .nil) ?_
 exact ⟨RN.mk rfl (hn9.sub (by intro b hb; simp [hb])) (hd9.sub (by intro b hb; simp [hb])),hm0⟩
theorem c_rat_signed {M : List Nat} {w : World} {s t : Bool} {A B : Option Addr} {l1 l2 c d n : Nat} (h : U32 M w (.slice A l1 c) (toL n)) :
    Ret Tryz.prog 108 #[.bool s,.agg #[.bool t,.slice A l1 c,.slice B l2 d]] w (fun r w'=>r=.agg #[.bool (s && decide (n≠0)),.slice A l1 c,.slice B l2 d]∧Mod [] w w'):=by
 refine Ret.of (vs:=[.bool s,.agg #[.bool t,.slice A l1 c,.slice B l2 d]]) (n:=14) Tryz.func108 rfl rfl rfl rfl ?_
 have hm0:Mod [] w w:=Mod.refl _ _
 refine W.seq<|W.region<|L.box rfl rfl ?_
 intro g3 w1 hN3
 replace h:=h.new hN3;have hge_g3:=New.ge hN3 hm0.size;replace hm0:=hm0.trans (hN3.mod.mono (by simp));have hb3:=hN3.blk;clear hN3
 refine L.alloc tyZ26 rfl ?_
 intro g4 w2 hN4
 replace h:=h.new hN4;have hge_g4:=New.ge hN4 hm0.size;replace hm0:=hm0.trans (hN4.mod.mono (by simp));have hne_g3_g4:=hb3.ne_ hN4;replace hb3:=Blk.gr hb3 hN4.mod;have hb4:=hN4.blk;clear hN4
 refine L.nil<|X.seq<|W.seq<|W.region<|L.m rfl rfl<|L.m rfl rfl ?_
 cases hgd6:s
 ·
  have hcc_:=hgd6
  refine L.off rfl rfl rfl rfl rfl<|L.off rfl rfl rfl rfl rfl<|L.off rfl rfl rfl rfl rfl<|L.off rfl rfl rfl rfl rfl<|L.v (R1.pickF rfl rfl) rfl<|L.v (R1.fieldAt rfl tyF26_0) rfl<|L.store rfl rfl hb3 (show 0<3 by decide) rfl tyP4 ?_
  intro w3 hb3' hm3
  replace hm0:=hm0.old1 hm3 hge_g3;replace hb4:=Blk.far hb4 hm3 (by first | exact hne_g4_g3 | exact (hne_g3_g4).symm);clear hm3;replace hb3:=hb3'; clear hb3'
  replace hb3:Blk w3 g3 26 #[.bool _,.slice A l1 c,.slice B l2 d]:=hb3
  refine L.nil<|X.seq<|W.seq<|W.region<|L.v (R1.loadBox rfl hb3 tyG26) rfl<|L.storeBox rfl rfl hb4 rfl rfl tyG26 ?_
  intro w4 hb4' hm4
  replace hm0:=hm0.old1 hm4 hge_g4;clear hm4;replace hb4:=hb4'; clear hb4'
  refine L.nil<|X.seq<|W.ret<|X.result1 rfl (.cell rfl (loadVar_blk hb4 tyG26) .nil) ?_
  exact ⟨rfl,hm0⟩
 have hcc_:=hgd6
 refine L.on rfl rfl rfl (R1.fieldAt rfl tyF26_1) rfl<|L.on rfl rfl rfl (R1.loadFld rfl hb3 rfl tyP24) rfl<|L.on rfl rfl rfl (R1.lenU rfl (by assumption) tyS24) rfl<|L.on rfl rfl rfl ((R1.gt rfl rfl).asB (c:=decide (n≠0)) (lenpos n)) rfl<|L.v (R1.pickT rfl rfl) rfl<|L.v (R1.fieldAt rfl tyF26_0) rfl<|L.store rfl rfl hb3 (show 0<3 by decide) rfl tyP4 ?_
 intro w5 hb3' hm5
 replace hm0:=hm0.old1 hm5 hge_g3;replace hb4:=Blk.far hb4 hm5 (by first | exact hne_g4_g3 | exact (hne_g3_g4).symm);clear hm5;replace hb3:=hb3'; clear hb3'
 replace hb3:Blk w5 g3 26 #[.bool _,.slice A l1 c,.slice B l2 d]:=hb3
 refine L.nil<|X.seq<|W.seq<|W.region<|L.v (R1.loadBox rfl hb3 tyG26) rfl<|L.storeBox rfl rfl hb4 rfl rfl tyG26 ?_
 intro w6 hb4' hm6
 replace hm0:=hm0.old1 hm6 hge_g4;clear hm6;replace hb4:=hb4'; clear hb4'
 refine L.nil<|X.seq<|W.ret<|X.result1 rfl (.cell rfl (loadVar_blk hb4 tyG26) .nil) ?_
 exact ⟨rfl,hm0⟩
theorem c_rat_Neg {M N9 : List Nat} {w : World} {s : Bool} {vn vd : Value} {xs ys : List Nat} {q : Rat} (hq : rv s (val xs) (val ys) = q) (h : U32 N9 w vn xs) (k : U32 N9 w vd ys) (hbd : Bd M w) (hl1 : xs.length ≤ 1099511627776) (hl2 : ys.length ≤ 1099511627776) :
    Ret Tryz.prog 83 #[.agg #[.bool s,vn,vd]] w (fun r w'=>RN M w' r (-q)∧Mod [] w w'):=by
 refine Ret.of (vs:=[.agg #[.bool s,vn,vd]]) (n:=10) Tryz.func83 rfl rfl rfl rfl ?_
 have hm0:Mod [] w w:=Mod.refl _ _
 refine W.seq<|W.region<|L.box rfl rfl ?_
 intro g1 w1 hN1
 replace h:=h.new hN1;replace k:=k.new hN1;replace hbd:=hbd.new hN1;have hge_g1:=New.ge hN1 hm0.size;replace hm0:=hm0.trans (hN1.mod.mono (by simp));have hb1:=hN1.blk;clear hN1
 refine L.alloc tyZ26 rfl ?_
 intro g2 w2 hN2
 replace h:=h.new hN2;replace k:=k.new hN2;replace hbd:=hbd.new hN2;have hge_g2:=New.ge hN2 hm0.size;replace hm0:=hm0.trans (hN2.mod.mono (by simp));have hne_g1_g2:=hb1.ne_ hN2;replace hb1:=Blk.gr hb1 hN2.mod;have hb2:=hN2.blk;clear hN2
 refine L.nil<|X.seq<|W.seq<|W.region<|L.v (R1.loadBox rfl hb1 tyG26) rfl<|L.call rfl (c_rat_Norm hq h k hbd (by omega) (by omega)) rfl ?_
 rintro _ w3 ⟨⟨A4,c4,B4,e4,rfl,hn4,hd4⟩,hm3⟩
 replace hm0:=hm0.trans hm3;replace hb1:=Blk.gr hb1 hm3;replace hb2:=Blk.gr hb2 hm3;clear hm3
 refine L.storeBox rfl rfl hb1 rfl rfl tyG26 ?_
 intro w4 hb1' hm4
 replace hm0:=hm0.old1 hm4 hge_g1;replace hb2:=Blk.far hb2 hm4 (by first | exact hne_g2_g1 | exact (hne_g1_g2).symm);replace hn4:=hn4.mod hm4 (by simp);replace hd4:=hd4.mod hm4 (by simp);clear hm4;replace hb1:=hb1'; clear hb1'
 refine L.nil<|X.seq<|W.seq<|W.region<|L.v (R1.fieldAt rfl tyF26_0) rfl<|L.v (R1.loadFld rfl hb1 rfl tyP4) rfl<|L.v (R1.not rfl) rfl<|L.v (R1.loadBox rfl hb1 tyG26) rfl<|L.call rfl (c_rat_signed hn4) rfl ?_
 rintro _ w5 ⟨rfl,hm5⟩
 replace hm0:=hm0.trans hm5;replace hb2:=Blk.gr hb2 hm5;replace hn4:=hn4.gr hm5;replace hd4:=hd4.gr hm5;clear hm5
 refine L.storeBox rfl rfl hb2 rfl rfl tyG26 ?_
 intro w6 hb2' hm6
 replace hm0:=hm0.old1 hm6 hge_g2;replace hn4:=hn4.mod hm6 (by simp);replace hd4:=hd4.mod hm6 (by simp);clear hm6;replace hb2:=hb2'; clear hb2'
 refine L.nil<|X.seq<|W.ret<|X.result1 rfl (.cell rfl (loadVar_blk hb2 tyG26) .nil) ?_
 exact ⟨RN.neg (hn4.sub (by intro b hb; simp [hb])) (hd4.sub (by intro b hb; simp [hb])),hm0⟩
theorem c_rat_Int {M : List Nat} {w : World} {n : Int} (h1 : -9223372036854775808 ≤ n) (h2 : n ≤ 9223372036854775807) (hbd : Bd M w) :
    Ret Tryz.prog 79 #[.int .i64 n] w (fun r w'=>RN M w' r (n:Rat)∧Mod [] w w'):=by
 refine Ret.of (vs:=[.int .i64 n]) (n:=16) Tryz.func79 rfl rfl rfl rfl ?_
 have hm0:Mod [] w w:=Mod.refl _ _
 refine W.seq<|W.region<|L.alloc tyZ26 rfl ?_
 intro g2 w1 hN2
 replace hbd:=hbd.new hN2;have hge_g2:=New.ge hN2 hm0.size;replace hm0:=hm0.trans (hN2.mod.mono (by simp));have hb2:=hN2.blk;clear hN2
 refine L.nil<|X.seq<|W.seq<|W.region<|L.m rfl rfl<|L.v ((R1.conv rfl tyI3 tyI64).as (j:=(n % 18446744073709551616)) (wrap_u64_mod _)) rfl<|L.a rfl rfl<|L.nil<|X.seq<|W.seq<|W.seq ?_
 refine W.region<|L.m rfl rfl<|L.v (R1.lt rfl rfl) rfl<|L.nil<|X.seq<|W.cut (ι:=Unit) (fun _=>[(0,.int .i64 n),(2,.pointer (some ⟨g2,0,none⟩)),(3,.int .u64 ((n.natAbs:Nat):Int))]) (fun _ w_=>Blk w_ g2 26 #[.bool false,.slice none 0 0,.slice none 0 0]∧Bd (g2 :: M) w_∧Mod [] w w_) ?_ ?_
 ·
  refine W.cond rfl ?_ ?_
  ·
   intro hc7
   try simp only [bq,ne_eq] at hc7
   refine W.region<|L.m rfl rfl<|L.v ((R1.neg rfl).as (j:=((n.natAbs:Nat):Int)) (by rw [wrap_u64_mod]; omega)) rfl<|L.a rfl rfl<|L.nil<|X.join () ?_ ?_
   · exact ⟨rfl,rfl,congrArg (fun i=>some (Value.int .u64 i)) (by omega),trivial⟩
   exact ⟨hb2,hbd,hm0⟩
  intro hc7
  try simp only [bq,ne_eq] at hc7
  refine W.skip<|X.join () ?_ ?_
  · exact ⟨rfl,rfl,congrArg (fun i=>some (Value.int .u64 i)) (by omega),trivial⟩
  exact ⟨hb2,hbd,hm0⟩
 rintro _ wj ⟨hb2,hbd,hm0⟩
 refine X.seq<|W.seq<|W.region<|L.m rfl rfl<|L.v (R1.lt rfl rfl) rfl<|L.m rfl rfl<|L.call rfl (c_nat_Of (n:=n.natAbs) (by omega) hbd) rfl ?_
 rintro v13 w2 ⟨h13,hm2⟩
 replace hb2:=Blk.gr hb2 hm2;replace hbd:=hbd.gr hm2;replace hm0:=hm0.trans hm2;clear hm2;obtain ⟨A13,c13,rfl⟩:=h13.form
 refine L.call rfl (c_nat_Of (n:=1) (by decide) hbd) rfl ?_
 rintro v14 w3 ⟨h14,hm3⟩
 replace hb2:=Blk.gr hb2 hm3;replace hm0:=hm0.trans hm3;replace h13:=h13.gr hm3;clear hm3;obtain ⟨A14,c14,rfl⟩:=h14.form
 refine L.v (R1.build rfl (built_Q012 _ _ _ _ _ _ _)) rfl<|L.storeBox rfl rfl hb2 rfl rfl tyG26 ?_
 intro w4 hb2' hm4
 replace hm0:=hm0.old1 hm4 hge_g2;replace h13:=h13.mod hm4 (by simp);replace h14:=h14.mod hm4 (by simp);clear hm4;replace hb2:=hb2'; clear hb2'
 refine L.nil<|X.seq<|W.ret<|X.result1 rfl (.cell rfl (loadVar_blk hb2 tyG26) .nil) ?_
 exact ⟨RN.int (h13.sub (by intro b hb; simp [hb])) (h14.sub (by intro b hb; simp [hb])),hm0⟩
theorem c_rat_Add {M N8 N9 : List Nat} {w : World} {sa sb : Bool} {an ad bn bd : Value} {xa ya xb yb : List Nat} {qa qb : Rat} (hqa : rv sa (val xa) (val ya) = qa) (hqb : rv sb (val xb) (val yb) = qb) (ha : U32 N8 w an xa) (ka : U32 N8 w ad ya) (hb : U32 N9 w bn xb) (kb : U32 N9 w bd yb) (hbd : Bd M w) (l0 : xa.length ≤ 137438953472) (l1 : ya.length ≤ 137438953472) (l2 : xb.length ≤ 137438953472) (l3 : yb.length ≤ 137438953472) :
    Ret Tryz.prog 80 #[.agg #[.bool sa,an,ad],.agg #[.bool sb,bn,bd]] w (fun r w'=>RN M w' r (qa + qb)∧Mod [] w w'):=by
 have la1:=rv_len1 hqa ha.2;have la2:=rv_len2 hqa ka.2;have lb1:=rv_len1 hqb hb.2;have lb2:=rv_len2 hqb kb.2;have m1:=toL_len_mul la1 lb2;have m2:=toL_len_mul lb1 la2;have m3:=toL_len_mul la2 lb2
 refine Ret.of (vs:=[.agg #[.bool sa,an,ad],.agg #[.bool sb,bn,bd]]) (n:=66) Tryz.func80 rfl rfl rfl rfl ?_
 have hm0:Mod [] w w:=Mod.refl _ _
 refine W.seq<|W.region<|L.box rfl rfl ?_
 intro g2 w1 hN2
 replace ha:=ha.new hN2;replace ka:=ka.new hN2;replace hb:=hb.new hN2;replace kb:=kb.new hN2;replace hbd:=hbd.new hN2;have hge_g2:=New.ge hN2 hm0.size;replace hm0:=hm0.trans (hN2.mod.mono (by simp));have hb2:=hN2.blk;clear hN2
 refine L.box rfl rfl ?_
 intro g3 w2 hN3
 replace ha:=ha.new hN3;replace ka:=ka.new hN3;replace hb:=hb.new hN3;replace kb:=kb.new hN3;replace hbd:=hbd.new hN3;have hge_g3:=New.ge hN3 hm0.size;replace hm0:=hm0.trans (hN3.mod.mono (by simp));have hne_g2_g3:=hb2.ne_ hN3;replace hb2:=Blk.gr hb2 hN3.mod;have hb3:=hN3.blk;clear hN3
 refine L.alloc tyZ26 rfl ?_
 intro g4 w3 hN4
 replace ha:=ha.new hN4;replace ka:=ka.new hN4;replace hb:=hb.new hN4;replace kb:=kb.new hN4;replace hbd:=hbd.new hN4;have hge_g4:=New.ge hN4 hm0.size;replace hm0:=hm0.trans (hN4.mod.mono (by simp));have hne_g2_g4:=hb2.ne_ hN4;replace hb2:=Blk.gr hb2 hN4.mod;have hne_g3_g4:=hb3.ne_ hN4;replace hb3:=Blk.gr hb3 hN4.mod;have hb4:=hN4.blk;clear hN4
 refine L.nil<|X.seq<|W.seq<|W.drawW (T:=[4,5]) rfl (by decide +kernel) (NoHang.then NoHang.post) (fun w4 hm4=>?_)
 replace ha:=ha.gr hm4;replace ka:=ka.gr hm4;replace hb:=hb.gr hm4;replace kb:=kb.gr hm4;replace hbd:=hbd.gr hm4;replace hm0:=hm0.trans hm4;replace hb2:=Blk.gr hb2 hm4;replace hb3:=Blk.gr hb3 hm4;replace hb4:=Blk.gr hb4 hm4
 have hS1:Mod [] w4 w4:=Mod.refl _ _
 clear hm4;have hb2_s:=hb2;have hb3_s:=hb3
 refine D.take 0 rfl (by kernel_rfl) (fun w_ hS=>(R1.loadBox rfl (Blk.gr hb2_s hS) tyG26)) hS1 rfl<|D.take 2 rfl (by kernel_rfl) (fun w_ hS=>(R1.loadBox rfl (Blk.gr hb3_s hS) tyG26)) hS1 rfl<|D.one 1 rfl (by kernel_rfl) (fun hX=>?_)
 refine L.call rfl (c_rat_Norm hqa ha ka hbd (by omega) (by omega)) rfl ?_
 rintro _ w5 ⟨⟨A13,c13,B13,e13,rfl,hn13,hd13⟩,hm5⟩
 replace hb:=hb.gr hm5;replace kb:=kb.gr hm5;replace hbd:=hbd.gr hm5;replace hm0:=hm0.trans hm5;replace hb2:=Blk.gr hb2 hm5;replace hb3:=Blk.gr hb3 hm5;replace hb4:=Blk.gr hb4 hm5;replace hS1:=hS1.trans hm5;clear hm5
 refine L.nil (hX _ _ ⟨.inr hS1,?_⟩)
 refine D.one 3 rfl (by kernel_rfl) (fun hX=>?_)
 refine L.call rfl (c_rat_Norm hqb hb kb hbd (by omega) (by omega)) rfl ?_
 rintro _ w6 ⟨⟨A15,c15,B15,e15,rfl,hn15,hd15⟩,hm6⟩
 replace hb:=hb.gr hm6;replace hbd:=hbd.gr hm6;replace hm0:=hm0.trans hm6;replace hb2:=Blk.gr hb2 hm6;replace hb3:=Blk.gr hb3 hm6;replace hb4:=Blk.gr hb4 hm6;replace hn13:=hn13.gr hm6;replace hd13:=hd13.gr hm6;replace hS1:=hS1.trans hm6;clear hm6
 refine L.nil (hX _ _ ⟨.inr hS1,?_⟩)
 refine D.one 4 rfl (by kernel_rfl) (fun hX=>?_)
 refine L.storeBox rfl rfl hb2 rfl rfl tyG26 ?_
 intro w7 hb2' hm7
 replace hb:=hb.mod hm7 (by simp);replace hbd:=hbd.gr hm7;replace hm0:=hm0.old1 hm7 hge_g2;replace hb3:=Blk.far hb3 hm7 (by first | exact hne_g3_g2 | exact (hne_g2_g3).symm);replace hb4:=Blk.far hb4 hm7 (by first | exact hne_g4_g2 | exact (hne_g2_g4).symm);replace hn13:=hn13.mod hm7 (by simp);replace hd13:=hd13.mod hm7 (by simp);replace hn15:=hn15.mod hm7 (by simp);replace hd15:=hd15.mod hm7 (by simp);clear hm7;replace hb2:=hb2'; clear hb2'
 refine L.nil (hX _ _ ⟨.inl rfl,?_⟩)
 refine D.one 5 rfl (by kernel_rfl) (fun hX=>?_)
 refine L.storeBox rfl rfl hb3 rfl rfl tyG26 ?_
 intro w8 hb3' hm8
 replace hb:=hb.mod hm8 (by simp);replace hbd:=hbd.gr hm8;replace hm0:=hm0.old1 hm8 hge_g3;replace hb4:=Blk.far hb4 hm8 (by first | exact hne_g4_g3 | exact (hne_g3_g4).symm);replace hn13:=hn13.mod hm8 (by simp);replace hd13:=hd13.mod hm8 (by simp);replace hn15:=hn15.mod hm8 (by simp);replace hd15:=hd15.mod hm8 (by simp);replace hb2:=Blk.far hb2 hm8 (by first | exact hne_g2_g3 | exact (hne_g3_g2).symm);clear hm8;replace hb3:=hb3'; clear hb3'
 refine L.nil (hX _ _ ⟨.inl rfl,?_⟩)
 refine D.done (by decide +kernel) ?_ _
 refine X.seq<|W.seq<|W.drawW (T:=[]) rfl (by decide +kernel) (NoHang.then NoHang.post) (fun w9 hm9=>?_)
 replace hb:=hb.gr hm9;replace hbd:=hbd.gr hm9;replace hm0:=hm0.trans hm9;replace hb4:=Blk.gr hb4 hm9;replace hn13:=hn13.gr hm9;replace hd13:=hd13.gr hm9;replace hn15:=hn15.gr hm9;replace hd15:=hd15.gr hm9;replace hb2:=Blk.gr hb2 hm9;replace hb3:=Blk.gr hb3 hm9
 have hS2:Mod [] w9 w9:=Mod.refl _ _
 clear hm9;have hb2_s:=hb2;have hb3_s:=hb3
 refine D.take 0 rfl (by kernel_rfl) (fun w_ hS=>(R1.fieldAt rfl tyF26_1)) hS2 rfl<|D.take 1 rfl (by kernel_rfl) (fun w_ hS=>(R1.loadFld rfl (Blk.gr hb2_s hS) rfl tyP24)) hS2 rfl<|D.take 2 rfl (by kernel_rfl) (fun w_ hS=>(R1.fieldAt rfl tyF26_2)) hS2 rfl<|D.take 3 rfl (by kernel_rfl) (fun w_ hS=>(R1.loadFld rfl (Blk.gr hb3_s hS) rfl tyP24)) hS2 rfl<|D.take 5 rfl (by kernel_rfl) (fun w_ hS=>(R1.fieldAt rfl tyF26_1)) hS2 rfl<|D.take 6 rfl (by kernel_rfl) (fun w_ hS=>(R1.loadFld rfl (Blk.gr hb3_s hS) rfl tyP24)) hS2 rfl<|D.take 7 rfl (by kernel_rfl) (fun w_ hS=>(R1.fieldAt rfl tyF26_2)) hS2 rfl<|D.take 8 rfl (by kernel_rfl) (fun w_ hS=>(R1.loadFld rfl (Blk.gr hb2_s hS) rfl tyP24)) hS2 rfl<|D.take 10 rfl (by kernel_rfl) (fun w_ hS=>(R1.fieldAt rfl tyF26_2)) hS2 rfl<|D.take 11 rfl (by kernel_rfl) (fun w_ hS=>(R1.loadFld rfl (Blk.gr hb2_s hS) rfl tyP24)) hS2 rfl<|D.take 12 rfl (by kernel_rfl) (fun w_ hS=>(R1.fieldAt rfl tyF26_2)) hS2 rfl ?_
 refine D.take 13 rfl (by kernel_rfl) (fun w_ hS=>(R1.loadFld rfl (Blk.gr hb3_s hS) rfl tyP24)) hS2 rfl<|D.one 4 rfl (by kernel_rfl) (fun hX=>?_)
 refine L.call rfl (c_nat_Mul hn13 hd15 hbd (by omega) (by omega)) rfl ?_
 rintro v20 w10 ⟨h20,hm10⟩
 replace hb:=hb.gr hm10;replace hbd:=hbd.gr hm10;replace hm0:=hm0.trans hm10;replace hb4:=Blk.gr hb4 hm10;replace hd13:=hd13.gr hm10;replace hn15:=hn15.gr hm10;replace hd15:=hd15.gr hm10;replace hb2:=Blk.gr hb2 hm10;replace hb3:=Blk.gr hb3 hm10;replace hS2:=hS2.trans hm10;clear hm10
 rw [val_toL,val_toL] at h20
 refine L.nil (hX _ _ ⟨.inr hS2,?_⟩)
 refine D.one 9 rfl (by kernel_rfl) (fun hX=>?_)
 refine L.call rfl (c_nat_Mul hn15 hd13 hbd (by omega) (by omega)) rfl ?_
 rintro v25 w11 ⟨h25,hm11⟩
 replace hb:=hb.gr hm11;replace hbd:=hbd.gr hm11;replace hm0:=hm0.trans hm11;replace hb4:=Blk.gr hb4 hm11;replace hd13:=hd13.gr hm11;replace hd15:=hd15.gr hm11;replace hb2:=Blk.gr hb2 hm11;replace hb3:=Blk.gr hb3 hm11;replace h20:=h20.gr hm11;replace hS2:=hS2.trans hm11;clear hm11
 rw [val_toL,val_toL] at h25
 refine L.nil (hX _ _ ⟨.inr hS2,?_⟩)
 refine D.one 14 rfl (by kernel_rfl) (fun hX=>?_)
 refine L.call rfl (c_nat_Mul hd13 hd15 hbd (by omega) (by omega)) rfl ?_
 rintro v30 w12 ⟨h30,hm12⟩
 replace hb:=hb.gr hm12;replace hbd:=hbd.gr hm12;replace hm0:=hm0.trans hm12;replace hb4:=Blk.gr hb4 hm12;replace hb2:=Blk.gr hb2 hm12;replace hb3:=Blk.gr hb3 hm12;replace h20:=h20.gr hm12;replace h25:=h25.gr hm12;replace hS2:=hS2.trans hm12;clear hm12
 rw [val_toL,val_toL] at h30
 refine L.nil (hX _ _ ⟨.inr hS2,?_⟩)
 refine D.take 15 rfl (by kernel_rfl) (fun w_ hS=>(R1.assign rfl)) hS2 rfl<|D.take 16 rfl (by kernel_rfl) (fun w_ hS=>(R1.assign rfl)) hS2 rfl<|D.take 17 rfl (by kernel_rfl) (fun w_ hS=>(R1.assign rfl)) hS2 rfl<|D.done (by decide +kernel) ?_ _
 refine X.seq<|W.seq<|W.seq<|W.region<|L.v (R1.fieldAt rfl tyF26_0) rfl<|L.v (R1.loadFld rfl hb2 rfl tyP4) rfl<|L.v (R1.fieldAt rfl tyF26_0) rfl<|L.v (R1.loadFld rfl hb3 rfl tyP4) rfl<|L.v (R1.eqB rfl rfl tyB4) rfl<|L.nil<|X.seq ?_
 refine W.cond rfl ?_ ?_
 ·
  intro hc35
  have hcc_:=hc35
  have hsame:decide (qa.num<0)=decide (qb.num<0):=by simpa using hc35
  have m4:=toL_len_add (c:=1099511627770) (Nat.le_trans m1 (by omega)) (Nat.le_trans m2 (by omega))
  refine W.seq<|W.drawW (T:=[7]) rfl (by decide +kernel) (NoHang.then (NoHang.then NoHang.post)) (fun w13 hm13=>?_)
  replace hb:=hb.gr hm13;replace hbd:=hbd.gr hm13;replace hm0:=hm0.trans hm13;replace hb4:=Blk.gr hb4 hm13;replace hb2:=Blk.gr hb2 hm13;replace h20:=h20.gr hm13;replace h25:=h25.gr hm13;replace h30:=h30.gr hm13
  have hS3:Mod [] w13 w13:=Mod.refl _ _
  clear hm13;have hb2_s:=hb2
  refine D.take 0 rfl (by kernel_rfl) (fun w_ hS=>(R1.fieldAt rfl tyF26_0)) hS3 rfl<|D.take 1 rfl (by kernel_rfl) (fun w_ hS=>(R1.loadFld rfl (Blk.gr hb2_s hS) rfl tyP4)) hS3 rfl<|D.m 2 rfl (by kernel_rfl) rfl hS3 rfl<|D.m 3 rfl (by kernel_rfl) rfl hS3 rfl<|D.m 5 rfl (by kernel_rfl) rfl hS3 rfl<|D.one 4 rfl (by kernel_rfl) (fun hX=>?_)
  refine L.call rfl (c_nat_Add h20 h25 hbd (by omega) (by omega)) rfl ?_
  rintro v40 w14 ⟨h40,hm14⟩
  replace hb:=hb.gr hm14;replace hbd:=hbd.gr hm14;replace hm0:=hm0.trans hm14;replace hb4:=Blk.gr hb4 hm14;replace h30:=h30.gr hm14;replace hS3:=hS3.trans hm14;clear hm14
  rw [val_toL,val_toL] at h40
  refine L.nil (hX _ _ ⟨.inr hS3,?_⟩)
  refine D.one 6 rfl (by kernel_rfl) (fun hX=>?_)
  refine L.call rfl (c_rat_Of (q:=qa + qb) (by rw [val_toL,val_toL]; exact add_same hsame) h40 h30 hbd (by omega) (by omega)) rfl ?_
  rintro _ w15 ⟨⟨A42,c42,B42,e42,rfl,hn42,hd42⟩,hm15⟩
  replace hb:=hb.gr hm15;replace hm0:=hm0.trans hm15;replace hb4:=Blk.gr hb4 hm15;replace hS3:=hS3.trans hm15;clear hm15
  refine L.nil (hX _ _ ⟨.inr hS3,?_⟩)
  refine D.one 7 rfl (by kernel_rfl) (fun hX=>?_)
  refine L.storeBox rfl rfl hb4 rfl rfl tyG26 ?_
  intro w16 hb4' hm16
  replace hb:=hb.mod hm16 (by simp);replace hm0:=hm0.old1 hm16 hge_g4;replace hn42:=hn42.mod hm16 (by simp);replace hd42:=hd42.mod hm16 (by simp);clear hm16;replace hb4:=hb4'; clear hb4'
  refine L.nil (hX _ _ ⟨.inl rfl,?_⟩)
  refine D.done (by decide +kernel) ?_ _
  refine X.seq<|W.ret<|X.thenRet<|X.result1 rfl (.cell rfl (loadVar_blk hb4 tyG26) .nil) ?_
  exact ⟨RN.mk rfl (hn42.sub (by intro b hb; simp [hb])) (hd42.sub (by intro b hb; simp [hb])),hm0⟩
 intro hc35
 have hcc_:=hc35
 have hdiff:decide (qa.num<0)≠decide (qb.num<0):=by simpa using hc35
 refine W.skip<|X.seq<|W.seq<|W.seq<|W.region<|L.m rfl rfl<|L.m rfl rfl<|L.call rfl (c_nat_SubAny h20 h25 hbd (by omega) (by omega)) rfl ?_
 rintro _ w17 ⟨v46,b46,rfl,ht46,hf46,hm17⟩
 replace hb:=hb.gr hm17;replace hbd:=hbd.gr hm17;replace hm0:=hm0.trans hm17;replace hb4:=Blk.gr hb4 hm17;replace hb2:=Blk.gr hb2 hm17;replace hb3:=Blk.gr hb3 hm17;replace h20:=h20.gr hm17;replace h25:=h25.gr hm17;replace h30:=h30.gr hm17;clear hm17
 refine L.m rfl rfl<|L.v (R1.extract rfl rfl) rfl<|L.v (R1.extract rfl rfl) rfl<|L.a rfl rfl<|L.a rfl rfl<|L.nil<|X.seq<|W.seq<|W.region<|L.m rfl rfl<|L.nil ?_
 refine X.seq<|W.cond rfl ?_ ?_
 ·
  intro hc49
  have hcc_:=hc49;obtain ⟨hle,hs46⟩:=ht46 hc49
  rw [val_toL,val_toL] at hle hs46
  have m5:=toL_len_mono (Nat.sub_le (qa.num.natAbs * qb.den) (qb.num.natAbs * qa.den))
  refine W.seq<|W.region<|L.v (R1.fieldAt rfl tyF26_0) rfl<|L.v (R1.loadFld rfl hb2 rfl tyP4) rfl<|L.m rfl rfl<|L.m rfl rfl<|L.call rfl (c_rat_Of (q:=qa + qb) (by rw [val_toL,val_toL]; exact add_ge hdiff hle) hs46 h30 hbd (by omega) (by omega)) rfl ?_
  rintro _ w18 ⟨⟨A54,c54,B54,e54,rfl,hn54,hd54⟩,hm18⟩
  replace hb:=hb.gr hm18;replace hm0:=hm0.trans hm18;replace hb4:=Blk.gr hb4 hm18;clear hm18
  refine L.storeBox rfl rfl hb4 rfl rfl tyG26 ?_
  intro w19 hb4' hm19
  replace hb:=hb.mod hm19 (by simp);replace hm0:=hm0.old1 hm19 hge_g4;replace hn54:=hn54.mod hm19 (by simp);replace hd54:=hd54.mod hm19 (by simp);clear hm19;replace hb4:=hb4'; clear hb4'
  refine L.nil<|X.seq<|W.ret<|X.thenRet<|X.result1 rfl (.cell rfl (loadVar_blk hb4 tyG26) .nil) ?_
  exact ⟨RN.mk rfl (hn54.sub (by intro b hb; simp [hb])) (hd54.sub (by intro b hb; simp [hb])),hm0⟩
 intro hc49
 have hcc_:=hc49;have hle:=Nat.le_of_lt (hf46 hc49)
 rw [val_toL,val_toL] at hle
 have m5:=toL_len_mono (Nat.sub_le (qb.num.natAbs * qa.den) (qa.num.natAbs * qb.den))
 refine W.skip<|X.seq<|W.seq<|W.region<|L.m rfl rfl<|L.m rfl rfl<|L.call rfl (c_nat_Sub h25 h20 hbd (by omega) (by omega) (by rw [val_toL,val_toL]; exact hle)) rfl ?_
 rintro _ w20 ⟨v58,rfl,h58,hm20⟩
 replace hb:=hb.gr hm20;replace hbd:=hbd.gr hm20;replace hm0:=hm0.trans hm20;replace hb4:=Blk.gr hb4 hm20;replace hb3:=Blk.gr hb3 hm20;replace h30:=h30.gr hm20;clear hm20
 rw [val_toL,val_toL] at h58
 refine L.m rfl rfl<|L.v (R1.extract rfl rfl) rfl<|L.v (R1.extract rfl rfl) rfl<|L.a rfl rfl<|L.a rfl rfl<|L.nil<|X.seq<|W.seq<|W.region<|L.v (R1.fieldAt rfl tyF26_0) rfl<|L.v (R1.loadFld rfl hb3 rfl tyP4) rfl ?_
 refine L.m rfl rfl<|L.m rfl rfl<|L.call rfl (c_rat_Of (q:=qa + qb) (by rw [val_toL,val_toL]; exact add_lt hdiff hle) h58 h30 hbd (by omega) (by omega)) rfl ?_
 rintro _ w21 ⟨⟨A65,c65,B65,e65,rfl,hn65,hd65⟩,hm21⟩
 replace hb:=hb.gr hm21;replace hm0:=hm0.trans hm21;replace hb4:=Blk.gr hb4 hm21;clear hm21
 refine L.storeBox rfl rfl hb4 rfl rfl tyG26 ?_
 intro w22 hb4' hm22
 replace hb:=hb.mod hm22 (by simp);replace hm0:=hm0.old1 hm22 hge_g4;replace hn65:=hn65.mod hm22 (by simp);replace hd65:=hd65.mod hm22 (by simp);clear hm22;replace hb4:=hb4'; clear hb4'
 refine L.nil<|X.seq<|W.ret<|X.result1 rfl (.cell rfl (loadVar_blk hb4 tyG26) .nil) ?_
 exact ⟨RN.mk rfl (hn65.sub (by intro b hb; simp [hb])) (hd65.sub (by intro b hb; simp [hb])),hm0⟩
end Go.Proofs.YtedokfpoajfflaaGreat
