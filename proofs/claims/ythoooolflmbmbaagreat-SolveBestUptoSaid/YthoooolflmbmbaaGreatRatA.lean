/- Walks: what the functions compute. -/
import Derived.Test.YthoooolflmbmbaaGreatTy
import Derived.Test.YthoooolflmbmbaaGreatRat
import Derived.Test.YthoooolflmbmbaaGreatNat7
namespace Go.Proofs.YthoooolflmbmbaaGreat
open Go.RowKit
set_option linter.unusedVariables false
set_option linter.unusedSimpArgs false
set_option maxRecDepth 10000
theorem c_nat_SubAny {M : List Nat} {w : World} {va vb : Value} {xs ys : List Nat} (h : U32 M w va xs) (k : U32 M w vb ys) (hbd : Bd M w) (hl1 : xs.length ≤ 1099511627776) (hl2 : ys.length ≤ 1099511627776) :
    Ret Tryz.prog 114 #[va,vb] w (fun r w'=>∃ v b,r=.tuple #[v,.bool b]∧(b=true→val ys≤val xs∧U32 M w' v (toL (val xs - val ys)))∧(b=false→val xs<val ys)∧Mod [] w w'):=by
  rcases Nat.lt_or_ge (val xs) (val ys) with hlt | hge
  · exact (c_nat_Sub0 h k hlt).mono fun r w' ⟨h1,h2⟩=>⟨_,false,h1,(fun h=>by cases h),fun _=>hlt,h2⟩
  exact (c_nat_Sub h k hbd hl1 hl2 hge).mono fun r w' ⟨v,h1,h2,h3⟩=>⟨v,true,h1,fun _=>⟨hge,h2⟩,(fun h=>by cases h),h3⟩
theorem built_Q2 (A:Option Addr) (n c:Nat):Tryz.prog.built 40 [(2,.slice A n c)]=some #[.bool false,.slice none 0 0,.slice A n c]:=by kernel_rfl
theorem built_Q012 (s:Bool) (A:Option Addr) (n c:Nat) (B:Option Addr) (m d:Nat):Tryz.prog.built 40 [(0,.bool s),(1,.slice A n c),(2,.slice B m d)]=some #[.bool s,.slice A n c,.slice B m d]:=by kernel_rfl
theorem built_Q:Tryz.prog.built 40 []=some #[.bool false,.slice none 0 0,.slice none 0 0]:=by kernel_rfl
theorem c_rat_Of {M N9 : List Nat} {w : World} {s : Bool} {vn vd : Value} {xs ys : List Nat} {q : Rat} (hq : rv s (val xs) (val ys) = q) (h : U32 N9 w vn xs) (k : U32 N9 w vd ys) (hbd : Bd M w) (hl1 : xs.length ≤ 1099511627776) (hl2 : ys.length ≤ 1099511627776) :
    Ret Tryz.prog 74 #[.bool s,vn,vd] w (fun r w'=>RN M w' r q∧Mod [] w w'):=by
 have hx:=h.2;have hy:=k.2
 refine Ret.of (vs:=[.bool s,vn,vd]) (n:=43) Tryz.func74 rfl rfl rfl rfl ?_
 have C0:Mod [] w w:=Mod.refl _ _
 refine W.sr<|L.alloc tyZ40 rfl ?_
 intro g6 w1 D6
 replace h:=h.new D6;replace k:=k.new D6;replace hbd:=hbd.new D6;have K6:=New.ge D6 C0.size;replace C0:=C0.tn D6;have E6:=D6.blk;clear D6
 refine L.z<|W.sr<|L.k rfl<|L.c rfl (c_nat_Trim (by assumption) (by assumption) (by omega)) ?_
 rintro v9 w2 ⟨h9,C2⟩
 replace h:=h.gr C2;replace k:=k.gr C2;replace hbd:=hbd.gr C2;replace C0:=C0.trans C2;replace E6:=E6.gr C2;clear C2
 refine L.k rfl<|L.c rfl (c_nat_Trim (by assumption) (by assumption) (by omega)) ?_
 rintro v11 w3 ⟨h11,C3⟩
 replace h:=h.gr C3;replace k:=k.gr C3;replace hbd:=hbd.gr C3;replace C0:=C0.trans C3;replace E6:=E6.gr C3;replace h9:=h9.gr C3;clear C3
 refine L.b rfl<|L.b rfl<|L.z<|W.seq<|W.sr<|L.k rfl<|L.lU rfl (by assumption) Q38<|L.v ((R1.eq rfl rfl).asB (c:=decide (val xs=0)) (len0 _)) rfl<|L.k rfl ?_
 cases W15:decide (val xs=0)
 ·
  try simp only [bq,ne_eq] at W15
  refine L.p rfl (R1.move rfl)<|L.p rfl (R1.lenU rfl (by assumption) Q38)<|L.p rfl ((R1.eq rfl rfl).asB (c:=decide (val ys=0)) (len0 _))<|L.pF rfl rfl<|L.z<|W.cond rfl ?_ ?_
  ·
   intro J19
   try simp only [bq,ne_eq] at J19
   have hq0:q=0:=by rw [← hq,J19,rv_d0]
   refine W.sr<|L.c rfl (c_nat_Of (n:=1) (by decide) hbd) ?_
   rintro v20 w4 ⟨h20,C4⟩
   replace C0:=C0.trans C4;replace E6:=E6.gr C4;clear C4;obtain ⟨A20,c20,rfl⟩:=h20.form
   refine L.v (R1.build rfl (built_Q2 _ _ _)) rfl<|L.storeBox rfl rfl E6 rfl rfl tyG40 ?_
   intro w5 E6' C5
   replace C0:=C0.old1 C5 K6;replace h20:=h20.ms C5;clear C5;replace E6:=E6'; clear E6'
   refine L.z<|W.ret<|X.thenRet<|X.result1 rfl (.cell rfl (loadVar_blk E6 tyG40) .nil) ?_
   exact ⟨RN.zero hq0 U32.nil (h20.sub (by intro b hb; simp [hb])),C0⟩
  intro J19
  try simp only [bq,ne_eq] at J19
  have hgy:Nat.gcd (val xs) (val ys)≤val ys:=Nat.le_of_dvd (by omega) (Nat.gcd_dvd_right _ _)
  have hg0:Nat.gcd (val xs) (val ys)≠0:=fun h0=>J19 (Nat.eq_zero_of_gcd_eq_zero_right h0)
  have hlg:=toL_len_mono hgy;have hlx:=toL_len_40 hx hl1;have hly:=toL_len_40 hy hl2
  refine W.skip<|X.seq<|W.sr<|L.k rfl<|L.k rfl<|L.c rfl (c_nat_Gcd h9 h11 hbd (by omega) (by omega)) ?_
  rintro v24 w6 ⟨h24,C6⟩
  replace hbd:=hbd.gr C6;replace C0:=C0.trans C6;replace E6:=E6.gr C6;replace h9:=h9.gr C6;replace h11:=h11.gr C6;clear C6
  rw [val_toL,val_toL] at h24
  refine L.b rfl<|L.z<|W.sr<|L.k rfl<|L.k rfl<|L.c rfl (c_nat_DivMod h9 h24 hbd (by omega) (by omega) (by rw [val_toL]; exact hg0)) ?_
  rintro _ w7 ⟨v28,u28,rfl,h28,k28,C7⟩
  replace hbd:=hbd.gr C7;replace C0:=C0.trans C7;replace E6:=E6.gr C7;replace h11:=h11.gr C7;replace h24:=h24.gr C7;clear C7
  rw [val_toL,val_toL] at h28
  clear k28;obtain ⟨A28,c28,rfl⟩:=h28.form
  refine L.k rfl<|L.ex rfl rfl<|L.ex rfl rfl<|L.ex rfl rfl<|L.b rfl<|L.z<|W.sr<|L.k rfl<|L.k rfl ?_
  refine L.c rfl (c_nat_DivMod h11 h24 hbd (by omega) (by omega) (by rw [val_toL]; exact hg0)) ?_
  rintro _ w8 ⟨v35,u35,rfl,h35,k35,C8⟩
  replace C0:=C0.trans C8;replace E6:=E6.gr C8;replace h28:=h28.gr C8;clear C8
  rw [val_toL,val_toL] at h35
  clear k35;obtain ⟨A35,c35,rfl⟩:=h35.form
  refine L.k rfl<|L.ex rfl rfl<|L.ex rfl rfl<|L.ex rfl rfl<|L.b rfl<|L.z<|W.sr<|L.k rfl<|L.k rfl ?_
  refine L.k rfl<|L.v (R1.build rfl (built_Q012 _ _ _ _ _ _ _)) rfl<|L.storeBox rfl rfl E6 rfl rfl tyG40 ?_
  intro w9 E6' C9
  replace C0:=C0.old1 C9 K6;replace h28:=h28.ms C9;replace h35:=h35.ms C9;clear C9;replace E6:=E6'; clear E6'
  refine L.z<|W.ret<|X.result1 rfl (.cell rfl (loadVar_blk E6 tyG40) .nil) ?_
  exact ⟨RN.of hq W15 J19 (h28.sub (by intro b hb; simp [hb])) (h35.sub (by intro b hb; simp [hb])),C0⟩
 try simp only [bq,ne_eq] at W15
 have hq0:q=0:=by rw [← hq,W15,rv_n0]
 refine L.o rfl<|L.o rfl<|L.o rfl<|L.pT rfl rfl<|L.z<|W.condT rfl<|W.sr<|L.c rfl (c_nat_Of (n:=1) (by decide) hbd) ?_
 rintro v20 w10 ⟨h20,C10⟩
 replace C0:=C0.trans C10;replace E6:=E6.gr C10;clear C10;obtain ⟨A20,c20,rfl⟩:=h20.form
 refine L.v (R1.build rfl (built_Q2 _ _ _)) rfl<|L.storeBox rfl rfl E6 rfl rfl tyG40 ?_
 intro w11 E6' C11
 replace C0:=C0.old1 C11 K6;replace h20:=h20.ms C11;clear C11;replace E6:=E6'; clear E6'
 refine L.z<|W.ret<|X.thenRet<|X.result1 rfl (.cell rfl (loadVar_blk E6 tyG40) .nil) ?_
 exact ⟨RN.zero hq0 U32.nil (h20.sub (by intro b hb; simp [hb])),C0⟩
theorem c_rat_Norm {M N9 : List Nat} {w : World} {s : Bool} {vn vd : Value} {xs ys : List Nat} {q : Rat} (hq : rv s (val xs) (val ys) = q) (h : U32 N9 w vn xs) (k : U32 N9 w vd ys) (hbd : Bd M w) (hl1 : xs.length ≤ 1099511627776) (hl2 : ys.length ≤ 1099511627776) :
    Ret Tryz.prog 42 #[.agg #[.bool s,vn,vd]] w (fun r w'=>RN M w' r q∧Mod [] w w'):=by
 refine Ret.of (vs:=[.agg #[.bool s,vn,vd]]) (n:=10) Tryz.func42 rfl rfl rfl rfl ?_
 have C0:Mod [] w w:=Mod.refl _ _
 refine W.sr<|L.box rfl rfl ?_
 intro g1 w1 D1
 replace h:=h.new D1;replace k:=k.new D1;replace hbd:=hbd.new D1;replace C0:=C0.tn D1;have E1:=D1.blk;clear D1
 refine L.alloc tyZ40 rfl ?_
 intro g2 w2 D2
 replace h:=h.new D2;replace k:=k.new D2;replace hbd:=hbd.new D2;have K2:=New.ge D2 C0.size;replace C0:=C0.tn D2;replace E1:=E1.gr D2.mod;have E2:=D2.blk;clear D2
 refine L.z<|W.sr<|L.fA rfl tyF40_0<|L.lF rfl E1 rfl tyP4<|L.fA rfl tyF40_1<|L.lF rfl E1 rfl tyP38<|L.fA rfl tyF40_2<|L.lF rfl E1 rfl tyP38<|L.c rfl (c_rat_Of hq h k hbd hl1 hl2) ?_
 rintro _ w3 ⟨⟨A9,c9,B9,e9,rfl,I9,H9⟩,C3⟩
 replace C0:=C0.trans C3;replace E2:=E2.gr C3;clear C3
 refine L.storeBox rfl rfl E2 rfl rfl tyG40 ?_
 intro w4 E2' C4
 replace C0:=C0.old1 C4 K2;replace I9:=I9.ms C4;replace H9:=H9.ms C4;clear C4;replace E2:=E2'; clear E2'
 refine L.z<|W.ret<|X.result1 rfl (.cell rfl (loadVar_blk E2 tyG40) .nil) ?_
 exact ⟨RN.mk rfl (I9.sub (by intro b hb; simp [hb])) (H9.sub (by intro b hb; simp [hb])),C0⟩
theorem c_rat_signed {M : List Nat} {w : World} {s t : Bool} {A B : Option Addr} {l1 l2 c d n : Nat} (h : U32 M w (.slice A l1 c) (toL n)) :
    Ret Tryz.prog 115 #[.bool s,.agg #[.bool t,.slice A l1 c,.slice B l2 d]] w (fun r w'=>r=.agg #[.bool (s && decide (n≠0)),.slice A l1 c,.slice B l2 d]∧Mod [] w w'):=by
 refine Ret.of (vs:=[.bool s,.agg #[.bool t,.slice A l1 c,.slice B l2 d]]) (n:=14) Tryz.func115 rfl rfl rfl rfl ?_
 have C0:Mod [] w w:=Mod.refl _ _
 refine W.sr<|L.box rfl rfl ?_
 intro g3 w1 D3
 replace h:=h.new D3;have K3:=New.ge D3 C0.size;replace C0:=C0.tn D3;have E3:=D3.blk;clear D3
 refine L.alloc tyZ40 rfl ?_
 intro g4 w2 D4
 replace h:=h.new D4;have K4:=New.ge D4 C0.size;replace C0:=C0.tn D4;have hne_g3_g4:=E3.ne_ D4;replace E3:=E3.gr D4.mod;have E4:=D4.blk;clear D4
 refine L.z<|W.sr<|L.k rfl<|L.k rfl ?_
 cases W6:s
 ·
  have hcc_:=W6
  refine L.o rfl<|L.o rfl<|L.o rfl<|L.o rfl<|L.pF rfl rfl<|L.fA rfl tyF40_0<|L.store rfl rfl E3 (show 0<3 by decide) rfl tyP4 ?_
  intro w3 E3' C3
  replace C0:=C0.old1 C3 K3;replace E4:=E4.fr C3;clear C3;replace E3:=E3'; clear E3'
  replace E3:Blk w3 g3 40 #[.bool _,.slice A l1 c,.slice B l2 d]:=E3
  refine L.z<|W.sr<|L.v (R1.loadBox rfl E3 tyG40) rfl<|L.storeBox rfl rfl E4 rfl rfl tyG40 ?_
  intro w4 E4' C4
  replace C0:=C0.old1 C4 K4;clear C4;replace E4:=E4'; clear E4'
  refine L.z<|W.ret<|X.result1 rfl (.cell rfl (loadVar_blk E4 tyG40) .nil) ?_
  exact ⟨rfl,C0⟩
 have hcc_:=W6
 refine L.p rfl (R1.fieldAt rfl tyF40_1)<|L.p rfl (R1.loadFld rfl E3 rfl tyP38)<|L.p rfl (R1.lenU rfl (by assumption) Q38)<|L.p rfl ((R1.gt rfl rfl).asB (c:=decide (n≠0)) (lenpos n))<|L.pT rfl rfl<|L.fA rfl tyF40_0<|L.store rfl rfl E3 (show 0<3 by decide) rfl tyP4 ?_
 intro w5 E3' C5
 replace C0:=C0.old1 C5 K3;replace E4:=E4.fr C5;clear C5;replace E3:=E3'; clear E3'
 replace E3:Blk w5 g3 40 #[.bool _,.slice A l1 c,.slice B l2 d]:=E3
 refine L.z<|W.sr<|L.v (R1.loadBox rfl E3 tyG40) rfl<|L.storeBox rfl rfl E4 rfl rfl tyG40 ?_
 intro w6 E4' C6
 replace C0:=C0.old1 C6 K4;clear C6;replace E4:=E4'; clear E4'
 refine L.z<|W.ret<|X.result1 rfl (.cell rfl (loadVar_blk E4 tyG40) .nil) ?_
 exact ⟨rfl,C0⟩
theorem c_rat_Neg {M N9 : List Nat} {w : World} {s : Bool} {vn vd : Value} {xs ys : List Nat} {q : Rat} (hq : rv s (val xs) (val ys) = q) (h : U32 N9 w vn xs) (k : U32 N9 w vd ys) (hbd : Bd M w) (hl1 : xs.length ≤ 1099511627776) (hl2 : ys.length ≤ 1099511627776) :
    Ret Tryz.prog 83 #[.agg #[.bool s,vn,vd]] w (fun r w'=>RN M w' r (-q)∧Mod [] w w'):=by
 refine Ret.of (vs:=[.agg #[.bool s,vn,vd]]) (n:=10) Tryz.func83 rfl rfl rfl rfl ?_
 have C0:Mod [] w w:=Mod.refl _ _
 refine W.sr<|L.box rfl rfl ?_
 intro g1 w1 D1
 replace h:=h.new D1;replace k:=k.new D1;replace hbd:=hbd.new D1;have K1:=New.ge D1 C0.size;replace C0:=C0.tn D1;have E1:=D1.blk;clear D1
 refine L.alloc tyZ40 rfl ?_
 intro g2 w2 D2
 replace h:=h.new D2;replace k:=k.new D2;replace hbd:=hbd.new D2;have K2:=New.ge D2 C0.size;replace C0:=C0.tn D2;have hne_g1_g2:=E1.ne_ D2;replace E1:=E1.gr D2.mod;have E2:=D2.blk;clear D2
 refine L.z<|W.sr<|L.v (R1.loadBox rfl E1 tyG40) rfl<|L.c rfl (c_rat_Norm hq h k hbd (by omega) (by omega)) ?_
 rintro _ w3 ⟨⟨A4,c4,B4,e4,rfl,I4,H4⟩,C3⟩
 replace C0:=C0.trans C3;replace E1:=E1.gr C3;replace E2:=E2.gr C3;clear C3
 refine L.storeBox rfl rfl E1 rfl rfl tyG40 ?_
 intro w4 E1' C4
 replace C0:=C0.old1 C4 K1;replace E2:=E2.fr C4;replace I4:=I4.ms C4;replace H4:=H4.ms C4;clear C4;replace E1:=E1'; clear E1'
 refine L.z<|W.sr<|L.fA rfl tyF40_0<|L.lF rfl E1 rfl tyP4<|L.v (R1.not rfl) rfl<|L.v (R1.loadBox rfl E1 tyG40) rfl<|L.c rfl (c_rat_signed I4) ?_
 rintro _ w5 ⟨rfl,C5⟩
 replace C0:=C0.trans C5;replace E2:=E2.gr C5;replace I4:=I4.gr C5;replace H4:=H4.gr C5;clear C5
 refine L.storeBox rfl rfl E2 rfl rfl tyG40 ?_
 intro w6 E2' C6
 replace C0:=C0.old1 C6 K2;replace I4:=I4.ms C6;replace H4:=H4.ms C6;clear C6;replace E2:=E2'; clear E2'
 refine L.z<|W.ret<|X.result1 rfl (.cell rfl (loadVar_blk E2 tyG40) .nil) ?_
 exact ⟨RN.neg (I4.sub (by intro b hb; simp [hb])) (H4.sub (by intro b hb; simp [hb])),C0⟩
theorem c_rat_Int {M : List Nat} {w : World} {n : Int} (h1 : -9223372036854775808 ≤ n) (h2 : n ≤ 9223372036854775807) (hbd : Bd M w) :
    Ret Tryz.prog 79 #[.int .i64 n] w (fun r w'=>RN M w' r (n:Rat)∧Mod [] w w'):=by
 refine Ret.of (vs:=[.int .i64 n]) (n:=16) Tryz.func79 rfl rfl rfl rfl ?_
 have C0:Mod [] w w:=Mod.refl _ _
 refine W.sr<|L.alloc tyZ40 rfl ?_
 intro g2 w1 D2
 replace hbd:=hbd.new D2;have K2:=New.ge D2 C0.size;replace C0:=C0.tn D2;have E2:=D2.blk;clear D2
 refine L.z<|W.sr<|L.k rfl<|L.v ((R1.conv rfl tyI3 tyI87).as (j:=(n % 18446744073709551616)) (wrap_u64_mod _)) rfl<|L.b rfl<|L.z<|W.seq<|W.seq ?_
 refine W.region<|L.k rfl<|L.lt rfl rfl<|L.z<|W.cut (ι:=Unit) (fun _=>[(0,.int .i64 n),(2,.pointer (some ⟨g2,0,none⟩)),(3,.int .u64 ((n.natAbs:Nat):Int))]) (fun _ w_=>Blk w_ g2 40 #[.bool false,.slice none 0 0,.slice none 0 0]∧Bd (g2 :: M) w_∧Mod [] w w_) ?_ ?_
 ·
  refine W.cond rfl ?_ ?_
  ·
   intro J7
   try simp only [bq,ne_eq] at J7
   refine W.region<|L.k rfl<|L.v ((R1.neg rfl).as (j:=((n.natAbs:Nat):Int)) (by rw [wrap_u64_mod]; omega)) rfl<|L.b rfl<|L.nil<|X.join () ?_ ?_
   · exact ⟨rfl,rfl,congrArg (fun i=>some (Value.int .u64 i)) (by omega),trivial⟩
   exact ⟨E2,hbd,C0⟩
  intro J7
  try simp only [bq,ne_eq] at J7
  refine W.skip<|X.join () ?_ ?_
  · exact ⟨rfl,rfl,congrArg (fun i=>some (Value.int .u64 i)) (by omega),trivial⟩
  exact ⟨E2,hbd,C0⟩
 rintro _ wj ⟨E2,hbd,C0⟩
 refine X.seq<|W.sr<|L.k rfl<|L.lt rfl rfl<|L.k rfl<|L.c rfl (c_nat_Of (n:=n.natAbs) (by omega) hbd) ?_
 rintro v13 w2 ⟨h13,C2⟩
 replace E2:=E2.gr C2;replace hbd:=hbd.gr C2;replace C0:=C0.trans C2;clear C2;obtain ⟨A13,c13,rfl⟩:=h13.form
 refine L.c rfl (c_nat_Of (n:=1) (by decide) hbd) ?_
 rintro v14 w3 ⟨h14,C3⟩
 replace E2:=E2.gr C3;replace C0:=C0.trans C3;replace h13:=h13.gr C3;clear C3;obtain ⟨A14,c14,rfl⟩:=h14.form
 refine L.v (R1.build rfl (built_Q012 _ _ _ _ _ _ _)) rfl<|L.storeBox rfl rfl E2 rfl rfl tyG40 ?_
 intro w4 E2' C4
 replace C0:=C0.old1 C4 K2;replace h13:=h13.ms C4;replace h14:=h14.ms C4;clear C4;replace E2:=E2'; clear E2'
 refine L.z<|W.ret<|X.result1 rfl (.cell rfl (loadVar_blk E2 tyG40) .nil) ?_
 exact ⟨RN.int (h13.sub (by intro b hb; simp [hb])) (h14.sub (by intro b hb; simp [hb])),C0⟩
theorem c_rat_Add {M N8 N9 : List Nat} {w : World} {sa sb : Bool} {an ad bn bd : Value} {xa ya xb yb : List Nat} {qa qb : Rat} (hqa : rv sa (val xa) (val ya) = qa) (hqb : rv sb (val xb) (val yb) = qb) (ha : U32 N8 w an xa) (ka : U32 N8 w ad ya) (hb : U32 N9 w bn xb) (kb : U32 N9 w bd yb) (hbd : Bd M w) (l0 : xa.length ≤ 137438953472) (l1 : ya.length ≤ 137438953472) (l2 : xb.length ≤ 137438953472) (l3 : yb.length ≤ 137438953472) :
    Ret Tryz.prog 80 #[.agg #[.bool sa,an,ad],.agg #[.bool sb,bn,bd]] w (fun r w'=>RN M w' r (qa + qb)∧Mod [] w w'):=by
 have la1:=rv_len1 hqa ha.2;have la2:=rv_len2 hqa ka.2;have lb1:=rv_len1 hqb hb.2;have lb2:=rv_len2 hqb kb.2;have m1:=toL_len_mul la1 lb2;have m2:=toL_len_mul lb1 la2;have m3:=toL_len_mul la2 lb2
 refine Ret.of (vs:=[.agg #[.bool sa,an,ad],.agg #[.bool sb,bn,bd]]) (n:=66) Tryz.func80 rfl rfl rfl rfl ?_
 have C0:Mod [] w w:=Mod.refl _ _
 refine W.sr<|L.box rfl rfl ?_
 intro g2 w1 D2
 replace ha:=ha.new D2;replace ka:=ka.new D2;replace hb:=hb.new D2;replace kb:=kb.new D2;replace hbd:=hbd.new D2;have K2:=New.ge D2 C0.size;replace C0:=C0.tn D2;have E2:=D2.blk;clear D2
 refine L.box rfl rfl ?_
 intro g3 w2 D3
 replace ha:=ha.new D3;replace ka:=ka.new D3;replace hb:=hb.new D3;replace kb:=kb.new D3;replace hbd:=hbd.new D3;have K3:=New.ge D3 C0.size;replace C0:=C0.tn D3;have hne_g2_g3:=E2.ne_ D3;replace E2:=E2.gr D3.mod;have E3:=D3.blk;clear D3
 refine L.alloc tyZ40 rfl ?_
 intro g4 w3 D4
 replace ha:=ha.new D4;replace ka:=ka.new D4;replace hb:=hb.new D4;replace kb:=kb.new D4;replace hbd:=hbd.new D4;have K4:=New.ge D4 C0.size;replace C0:=C0.tn D4;have hne_g2_g4:=E2.ne_ D4;replace E2:=E2.gr D4.mod;have hne_g3_g4:=E3.ne_ D4;replace E3:=E3.gr D4.mod;have E4:=D4.blk;clear D4
 refine L.z<|W.seq<|W.drawW (T:=[4,5]) rfl (by decide +kernel) (NoHang.then NoHang.post) (fun w4 C4=>?_)
 replace ha:=ha.gr C4;replace ka:=ka.gr C4;replace hb:=hb.gr C4;replace kb:=kb.gr C4;replace hbd:=hbd.gr C4;replace C0:=C0.trans C4;replace E2:=E2.gr C4;replace E3:=E3.gr C4;replace E4:=E4.gr C4
 have G1:Mod [] w4 w4:=Mod.refl _ _
 clear C4;have hb2_s:=E2;have hb3_s:=E3
 refine D.t 0 rfl (by kernel_rfl) (fun _ hS=>R1.loadBox rfl (hb2_s.gr hS) tyG40) G1<|D.t 2 rfl (by kernel_rfl) (fun _ hS=>R1.loadBox rfl (hb3_s.gr hS) tyG40) G1<|D.one 1 rfl (by kernel_rfl) (fun hX=>?_)
 refine L.c rfl (c_rat_Norm hqa ha ka hbd (by omega) (by omega)) ?_
 rintro _ w5 ⟨⟨A13,c13,B13,e13,rfl,I13,H13⟩,C5⟩
 replace hb:=hb.gr C5;replace kb:=kb.gr C5;replace hbd:=hbd.gr C5;replace C0:=C0.trans C5;replace E2:=E2.gr C5;replace E3:=E3.gr C5;replace E4:=E4.gr C5;replace G1:=G1.trans C5;clear C5
 refine L.nil (hX _ _ ⟨.inr G1,?_⟩)
 refine D.one 3 rfl (by kernel_rfl) (fun hX=>?_)
 refine L.c rfl (c_rat_Norm hqb hb kb hbd (by omega) (by omega)) ?_
 rintro _ w6 ⟨⟨A15,c15,B15,e15,rfl,I15,H15⟩,C6⟩
 replace hb:=hb.gr C6;replace hbd:=hbd.gr C6;replace C0:=C0.trans C6;replace E2:=E2.gr C6;replace E3:=E3.gr C6;replace E4:=E4.gr C6;replace I13:=I13.gr C6;replace H13:=H13.gr C6;replace G1:=G1.trans C6;clear C6
 refine L.nil (hX _ _ ⟨.inr G1,?_⟩)
 refine D.one 4 rfl (by kernel_rfl) (fun hX=>?_)
 refine L.storeBox rfl rfl E2 rfl rfl tyG40 ?_
 intro w7 E2' C7
 replace hb:=hb.ms C7;replace hbd:=hbd.gr C7;replace C0:=C0.old1 C7 K2;replace E3:=E3.fr C7;replace E4:=E4.fr C7;replace I13:=I13.ms C7;replace H13:=H13.ms C7;replace I15:=I15.ms C7;replace H15:=H15.ms C7;clear C7;replace E2:=E2'; clear E2'
 refine L.nil (hX _ _ ⟨.inl rfl,?_⟩)
 refine D.one 5 rfl (by kernel_rfl) (fun hX=>?_)
 refine L.storeBox rfl rfl E3 rfl rfl tyG40 ?_
 intro w8 E3' C8
 replace hb:=hb.ms C8;replace hbd:=hbd.gr C8;replace C0:=C0.old1 C8 K3;replace E4:=E4.fr C8;replace I13:=I13.ms C8;replace H13:=H13.ms C8;replace I15:=I15.ms C8;replace H15:=H15.ms C8;replace E2:=E2.fr C8;clear C8;replace E3:=E3'; clear E3'
 refine L.nil (hX _ _ ⟨.inl rfl,?_⟩)
 refine D.done (by decide +kernel) ?_ _
 refine X.seq<|W.seq<|W.drawW (T:=[]) rfl (by decide +kernel) (NoHang.then NoHang.post) (fun w9 C9=>?_)
 replace hb:=hb.gr C9;replace hbd:=hbd.gr C9;replace C0:=C0.trans C9;replace E4:=E4.gr C9;replace I13:=I13.gr C9;replace H13:=H13.gr C9;replace I15:=I15.gr C9;replace H15:=H15.gr C9;replace E2:=E2.gr C9;replace E3:=E3.gr C9
 have G2:Mod [] w9 w9:=Mod.refl _ _
 clear C9;have hb2_s:=E2;have hb3_s:=E3
 refine D.t 0 rfl (by kernel_rfl) (fun _ hS=>R1.fieldAt rfl tyF40_1) G2<|D.t 1 rfl (by kernel_rfl) (fun _ hS=>R1.loadFld rfl (hb2_s.gr hS) rfl tyP38) G2<|D.t 2 rfl (by kernel_rfl) (fun _ hS=>R1.fieldAt rfl tyF40_2) G2<|D.t 3 rfl (by kernel_rfl) (fun _ hS=>R1.loadFld rfl (hb3_s.gr hS) rfl tyP38) G2<|D.t 5 rfl (by kernel_rfl) (fun _ hS=>R1.fieldAt rfl tyF40_1) G2<|D.t 6 rfl (by kernel_rfl) (fun _ hS=>R1.loadFld rfl (hb3_s.gr hS) rfl tyP38) G2<|D.t 7 rfl (by kernel_rfl) (fun _ hS=>R1.fieldAt rfl tyF40_2) G2<|D.t 8 rfl (by kernel_rfl) (fun _ hS=>R1.loadFld rfl (hb2_s.gr hS) rfl tyP38) G2<|D.t 10 rfl (by kernel_rfl) (fun _ hS=>R1.fieldAt rfl tyF40_2) G2<|D.t 11 rfl (by kernel_rfl) (fun _ hS=>R1.loadFld rfl (hb2_s.gr hS) rfl tyP38) G2<|D.t 12 rfl (by kernel_rfl) (fun _ hS=>R1.fieldAt rfl tyF40_2) G2 ?_
 refine D.t 13 rfl (by kernel_rfl) (fun _ hS=>R1.loadFld rfl (hb3_s.gr hS) rfl tyP38) G2<|D.one 4 rfl (by kernel_rfl) (fun hX=>?_)
 refine L.c rfl (c_nat_Mul I13 H15 hbd (by omega) (by omega)) ?_
 rintro v20 w10 ⟨h20,C10⟩
 replace hb:=hb.gr C10;replace hbd:=hbd.gr C10;replace C0:=C0.trans C10;replace E4:=E4.gr C10;replace H13:=H13.gr C10;replace I15:=I15.gr C10;replace H15:=H15.gr C10;replace E2:=E2.gr C10;replace E3:=E3.gr C10;replace G2:=G2.trans C10;clear C10
 rw [val_toL,val_toL] at h20
 refine L.nil (hX _ _ ⟨.inr G2,?_⟩)
 refine D.one 9 rfl (by kernel_rfl) (fun hX=>?_)
 refine L.c rfl (c_nat_Mul I15 H13 hbd (by omega) (by omega)) ?_
 rintro v25 w11 ⟨h25,C11⟩
 replace hb:=hb.gr C11;replace hbd:=hbd.gr C11;replace C0:=C0.trans C11;replace E4:=E4.gr C11;replace H13:=H13.gr C11;replace H15:=H15.gr C11;replace E2:=E2.gr C11;replace E3:=E3.gr C11;replace h20:=h20.gr C11;replace G2:=G2.trans C11;clear C11
 rw [val_toL,val_toL] at h25
 refine L.nil (hX _ _ ⟨.inr G2,?_⟩)
 refine D.one 14 rfl (by kernel_rfl) (fun hX=>?_)
 refine L.c rfl (c_nat_Mul H13 H15 hbd (by omega) (by omega)) ?_
 rintro v30 w12 ⟨h30,C12⟩
 replace hb:=hb.gr C12;replace hbd:=hbd.gr C12;replace C0:=C0.trans C12;replace E4:=E4.gr C12;replace E2:=E2.gr C12;replace E3:=E3.gr C12;replace h20:=h20.gr C12;replace h25:=h25.gr C12;replace G2:=G2.trans C12;clear C12
 rw [val_toL,val_toL] at h30
 refine L.nil (hX _ _ ⟨.inr G2,?_⟩)
 refine D.t 15 rfl (by kernel_rfl) (fun _ hS=>R1.assign rfl) G2<|D.t 16 rfl (by kernel_rfl) (fun _ hS=>R1.assign rfl) G2<|D.t 17 rfl (by kernel_rfl) (fun _ hS=>R1.assign rfl) G2<|D.done (by decide +kernel) ?_ _
 refine X.seq<|W.seq<|W.sr<|L.fA rfl tyF40_0<|L.lF rfl E2 rfl tyP4<|L.fA rfl tyF40_0<|L.lF rfl E3 rfl tyP4<|L.v (R1.eqB rfl rfl tyB4) rfl<|L.z ?_
 refine W.cond rfl ?_ ?_
 ·
  intro J35
  have hcc_:=J35
  have hsame:decide (qa.num<0)=decide (qb.num<0):=by simpa using J35
  have m4:=toL_len_add (c:=1099511627770) (Nat.le_trans m1 (by omega)) (Nat.le_trans m2 (by omega))
  refine W.seq<|W.drawW (T:=[7]) rfl (by decide +kernel) (NoHang.then (NoHang.then NoHang.post)) (fun w13 C13=>?_)
  replace hb:=hb.gr C13;replace hbd:=hbd.gr C13;replace C0:=C0.trans C13;replace E4:=E4.gr C13;replace E2:=E2.gr C13;replace h20:=h20.gr C13;replace h25:=h25.gr C13;replace h30:=h30.gr C13
  have G3:Mod [] w13 w13:=Mod.refl _ _
  clear C13;have hb2_s:=E2
  refine D.t 0 rfl (by kernel_rfl) (fun _ hS=>R1.fieldAt rfl tyF40_0) G3<|D.t 1 rfl (by kernel_rfl) (fun _ hS=>R1.loadFld rfl (hb2_s.gr hS) rfl tyP4) G3<|D.z 2 rfl (by kernel_rfl) rfl G3<|D.z 3 rfl (by kernel_rfl) rfl G3<|D.z 5 rfl (by kernel_rfl) rfl G3<|D.one 4 rfl (by kernel_rfl) (fun hX=>?_)
  refine L.c rfl (c_nat_Add h20 h25 hbd (by omega) (by omega)) ?_
  rintro v40 w14 ⟨h40,C14⟩
  replace hb:=hb.gr C14;replace hbd:=hbd.gr C14;replace C0:=C0.trans C14;replace E4:=E4.gr C14;replace h30:=h30.gr C14;replace G3:=G3.trans C14;clear C14
  rw [val_toL,val_toL] at h40
  refine L.nil (hX _ _ ⟨.inr G3,?_⟩)
  refine D.one 6 rfl (by kernel_rfl) (fun hX=>?_)
  refine L.c rfl (c_rat_Of (q:=qa + qb) (by rw [val_toL,val_toL]; exact add_same hsame) h40 h30 hbd (by omega) (by omega)) ?_
  rintro _ w15 ⟨⟨A42,c42,B42,e42,rfl,I42,H42⟩,C15⟩
  replace hb:=hb.gr C15;replace C0:=C0.trans C15;replace E4:=E4.gr C15;replace G3:=G3.trans C15;clear C15
  refine L.nil (hX _ _ ⟨.inr G3,?_⟩)
  refine D.one 7 rfl (by kernel_rfl) (fun hX=>?_)
  refine L.storeBox rfl rfl E4 rfl rfl tyG40 ?_
  intro w16 E4' C16
  replace hb:=hb.ms C16;replace C0:=C0.old1 C16 K4;replace I42:=I42.ms C16;replace H42:=H42.ms C16;clear C16;replace E4:=E4'; clear E4'
  refine L.nil (hX _ _ ⟨.inl rfl,?_⟩)
  refine D.done (by decide +kernel) ?_ _
  refine X.seq<|W.ret<|X.thenRet<|X.result1 rfl (.cell rfl (loadVar_blk E4 tyG40) .nil) ?_
  exact ⟨RN.mk rfl (I42.sub (by intro b hb; simp [hb])) (H42.sub (by intro b hb; simp [hb])),C0⟩
 intro J35
 have hcc_:=J35
 have hdiff:decide (qa.num<0)≠decide (qb.num<0):=by simpa using J35
 refine W.skip<|X.seq<|W.seq<|W.sr<|L.k rfl<|L.k rfl<|L.c rfl (c_nat_SubAny h20 h25 hbd (by omega) (by omega)) ?_
 rintro _ w17 ⟨v46,b46,rfl,Y46,hf46,C17⟩
 replace hb:=hb.gr C17;replace hbd:=hbd.gr C17;replace C0:=C0.trans C17;replace E4:=E4.gr C17;replace E2:=E2.gr C17;replace E3:=E3.gr C17;replace h20:=h20.gr C17;replace h25:=h25.gr C17;replace h30:=h30.gr C17;clear C17
 refine L.k rfl<|L.ex rfl rfl<|L.ex rfl rfl<|L.b rfl<|L.b rfl<|L.z<|W.sr<|L.k rfl<|L.nil ?_
 refine X.seq<|W.cond rfl ?_ ?_
 ·
  intro J49
  have hcc_:=J49;obtain ⟨hle,hs46⟩:=Y46 J49
  rw [val_toL,val_toL] at hle hs46
  have m5:=toL_len_mono (Nat.sub_le (qa.num.natAbs * qb.den) (qb.num.natAbs * qa.den))
  refine W.sr<|L.fA rfl tyF40_0<|L.lF rfl E2 rfl tyP4<|L.k rfl<|L.k rfl<|L.c rfl (c_rat_Of (q:=qa + qb) (by rw [val_toL,val_toL]; exact add_ge hdiff hle) hs46 h30 hbd (by omega) (by omega)) ?_
  rintro _ w18 ⟨⟨A54,c54,B54,e54,rfl,I54,H54⟩,C18⟩
  replace hb:=hb.gr C18;replace C0:=C0.trans C18;replace E4:=E4.gr C18;clear C18
  refine L.storeBox rfl rfl E4 rfl rfl tyG40 ?_
  intro w19 E4' C19
  replace hb:=hb.ms C19;replace C0:=C0.old1 C19 K4;replace I54:=I54.ms C19;replace H54:=H54.ms C19;clear C19;replace E4:=E4'; clear E4'
  refine L.z<|W.ret<|X.thenRet<|X.result1 rfl (.cell rfl (loadVar_blk E4 tyG40) .nil) ?_
  exact ⟨RN.mk rfl (I54.sub (by intro b hb; simp [hb])) (H54.sub (by intro b hb; simp [hb])),C0⟩
 intro J49
 have hcc_:=J49;have hle:=Nat.le_of_lt (hf46 J49)
 rw [val_toL,val_toL] at hle
 have m5:=toL_len_mono (Nat.sub_le (qb.num.natAbs * qa.den) (qa.num.natAbs * qb.den))
 refine W.skip<|X.seq<|W.sr<|L.k rfl<|L.k rfl<|L.c rfl (c_nat_Sub h25 h20 hbd (by omega) (by omega) (by rw [val_toL,val_toL]; exact hle)) ?_
 rintro _ w20 ⟨v58,rfl,h58,C20⟩
 replace hb:=hb.gr C20;replace hbd:=hbd.gr C20;replace C0:=C0.trans C20;replace E4:=E4.gr C20;replace E3:=E3.gr C20;replace h30:=h30.gr C20;clear C20
 rw [val_toL,val_toL] at h58
 refine L.k rfl<|L.ex rfl rfl<|L.ex rfl rfl<|L.b rfl<|L.b rfl<|L.z<|W.sr<|L.fA rfl tyF40_0<|L.lF rfl E3 rfl tyP4 ?_
 refine L.k rfl<|L.k rfl<|L.c rfl (c_rat_Of (q:=qa + qb) (by rw [val_toL,val_toL]; exact add_lt hdiff hle) h58 h30 hbd (by omega) (by omega)) ?_
 rintro _ w21 ⟨⟨A65,c65,B65,e65,rfl,I65,H65⟩,C21⟩
 replace hb:=hb.gr C21;replace C0:=C0.trans C21;replace E4:=E4.gr C21;clear C21
 refine L.storeBox rfl rfl E4 rfl rfl tyG40 ?_
 intro w22 E4' C22
 replace hb:=hb.ms C22;replace C0:=C0.old1 C22 K4;replace I65:=I65.ms C22;replace H65:=H65.ms C22;clear C22;replace E4:=E4'; clear E4'
 refine L.z<|W.ret<|X.result1 rfl (.cell rfl (loadVar_blk E4 tyG40) .nil) ?_
 exact ⟨RN.mk rfl (I65.sub (by intro b hb; simp [hb])) (H65.sub (by intro b hb; simp [hb])),C0⟩
end Go.Proofs.YthoooolflmbmbaaGreat
