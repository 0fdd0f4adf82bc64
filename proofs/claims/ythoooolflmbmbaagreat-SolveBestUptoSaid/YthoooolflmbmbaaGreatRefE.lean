/- Several texts in one. -/
import Derived.Test.YthoooolflmbmbaaGreatRatB
import Derived.Test.YthoooolflmbmbaaGreatRefC
import Derived.Test.YthoooolflmbmbaaGreatPar
section
namespace Go.Proofs.YthoooolflmbmbaaGreat
open Go.RowKit
set_option linter.unusedVariables false
set_option linter.unusedSimpArgs false
set_option maxRecDepth 10000
theorem c_limbs {M N9 : List Nat} {w : World} {va vb : Value} {xs ys : List Nat} (h : U32 M w va xs) (k0 : U32 N9 w vb ys) :
    Ret Tryz.prog 116 #[va,vb] w (fun r w'=>r=.bool (decide (xs=ys))∧Mod [] w w'):=by
 have hmax:=h.1.max; unfold maxLen at hmax
 refine Ret.of (vs:=[va,vb]) (n:=26) Tryz.func116 rfl rfl rfl rfl ?_
 have C0:Mod [] w w:=Mod.refl _ _
 refine W.sr<|L.b rfl<|L.z<|W.seq<|W.sr<|L.k rfl<|L.lU rfl h Q38<|L.k rfl ?_
 refine L.lU rfl k0 Q38<|L.v (R1.ne rfl rfl) rfl<|L.z<|W.cond rfl ?_ ?_
 ·
  intro J10
  try simp only [bq,ne_eq] at J10
  refine W.sr<|L.b rfl<|L.z<|W.ret<|X.thenRet<|X.result1 rfl (.tmp rfl .nil)<|⟨?_,C0⟩
  rw [decide_eq_false (fun e=>by subst e; omega)]
 intro J10
 try simp only [bq,ne_eq] at J10
 have hlen:xs.length=ys.length:=by omega
 refine W.skip<|X.seq<|W.seq<|W.sr<|L.b rfl<|L.z<|W.block<|W.loop (ι:=Nat) (fun k=>[(0,va),(1,vb),(5,.int .i64 (k:Int))]) (fun k w_=>k≤xs.length∧xs.take k=ys.take k∧U32 M w_ va xs∧U32 N9 w_ vb ys∧Mod [] w w_) (fun k=>xs.length - k) 0 ?_ ?_ ?_
 · exact ⟨rfl,rfl,rfl,trivial⟩
 ·
  exact ⟨Nat.zero_le _,rfl,h,k0,C0⟩
 rintro k w1 ⟨hk,he,h,k0,C0⟩
 refine W.seq<|W.sr<|L.k rfl<|L.k rfl<|L.lU rfl h Q38<|L.lt rfl rfl<|L.z<|W.cond rfl ?_ ?_
 ·
  intro J14
  try simp only [bq,ne_eq] at J14
  have hk1:k<xs.length:=by omega
  refine W.skip<|X.seq<|W.seq<|W.block<|W.seq<|W.drawW (T:=[]) rfl (by decide +kernel) (NoHang.then (NoHang.block (NoHang.then (NoHang.next (NoHang.block (NoHang.then NoHang.post)))))) (fun w2 C2=>?_)
  replace h:=h.gr C2;replace k0:=k0.gr C2;replace C0:=C0.trans C2
  have G1:Mod [] w2 w2:=Mod.refl _ _
  clear C2
  refine D.z 0 rfl (by kernel_rfl) rfl G1<|D.z 1 rfl (by kernel_rfl) rfl G1<|D.t 2 rfl (by kernel_rfl) (fun _ hS=>R1.atU (j:=k) rfl rfl (U32.gr (by assumption) hS) Q38 rfl (by omega)) G1<|D.t 3 rfl (by kernel_rfl) (fun _ hS=>R1.ldU rfl (U32.gr (by assumption) hS) tyP90 (by omega) rfl) G1<|D.z 4 rfl (by kernel_rfl) rfl G1<|D.z 5 rfl (by kernel_rfl) rfl G1<|D.t 6 rfl (by kernel_rfl) (fun _ hS=>R1.atU (j:=k) rfl rfl (U32.gr (by assumption) hS) Q38 rfl (by omega)) G1<|D.t 7 rfl (by kernel_rfl) (fun _ hS=>R1.ldU rfl (U32.gr (by assumption) hS) tyP90 (by omega) rfl) G1<|D.t 8 rfl (by kernel_rfl) (fun _ hS=>R1.ne rfl rfl) G1<|D.done (by decide +kernel) ?_ _
  refine X.seq<|W.cond rfl ?_ ?_
  ·
   intro J25
   try simp only [bq,ne_eq] at J25
   refine W.sr<|L.b rfl<|L.z<|W.ret<|X.blockRet<|X.thenRet<|X.nextRet<|X.blockRet<|X.thenRet ?_
   refine X.result1 rfl (.tmp rfl .nil)<|⟨?_,C0⟩
   rw [decide_eq_false (fun e=>by subst e; omega)]
  intro J25
  try simp only [bq,ne_eq] at J25
  refine W.skip<|X.blockEnd<|X.seq<|W.region<|L.k rfl<|L.inc rfl rfl (by omega)<|L.b rfl<|L.nil<|X.next (k + 1) ?_ ?_ ?_
  · exact ⟨rfl,rfl,rfl,trivial⟩
  ·
   exact ⟨by omega,eq_step hk1 (by omega) he (by omega),h,k0,C0⟩
  first | omega | (dsimp only; omega)
 intro J14
 try simp only [bq,ne_eq] at J14
 have hk1:k=xs.length:=by omega
 refine W.brk<|W.sr<|L.b rfl<|L.z<|W.ret ?_
 refine X.result1 rfl (.tmp rfl .nil)<|⟨?_,C0⟩
 rw [hk1,List.take_length,hlen,List.take_length] at he
 rw [decide_eq_true he]
theorem c_ref2_Norm {M N9 : List Nat} {w : World} {s : Bool} {vn vd : Value} {xs ys : List Nat} {q : Rat} (hq : rv s (val xs) (val ys) = q) (h : U32 N9 w vn xs) (k : U32 N9 w vd ys) (hbd : Bd M w) (hl1 : xs.length ≤ 1099511627776) (hl2 : ys.length ≤ 1099511627776) :
    Ret Tryz.prog 52 #[.agg #[.bool s,vn,vd]] w (fun r w'=>RN M w' r q∧Mod [] w w'):=by
 have hx:=h.2;have hy:=k.2
 refine Ret.of (vs:=[.agg #[.bool s,vn,vd]]) (n:=44) Tryz.func52 rfl rfl rfl rfl ?_
 have C0:Mod [] w w:=Mod.refl _ _
 refine W.sr<|L.box rfl rfl ?_
 intro g1 w1 D1
 replace h:=h.new D1;replace k:=k.new D1;replace hbd:=hbd.new D1;have K1:=New.ge D1 C0.size;replace C0:=C0.tn D1;have E1:=D1.blk;clear D1
 refine L.alloc tyZ40 rfl ?_
 intro g2 w2 D2
 replace h:=h.new D2;replace k:=k.new D2;replace hbd:=hbd.new D2;have K2:=New.ge D2 C0.size;replace C0:=C0.tn D2;have hne_g1_g2:=E1.ne_ D2;replace E1:=E1.gr D2.mod;have E2:=D2.blk;clear D2
 refine L.z<|W.seq<|W.drawW (T:=[]) rfl (by decide +kernel) (NoHang.then NoHang.post) (fun w3 C3=>?_)
 replace h:=h.gr C3;replace k:=k.gr C3;replace hbd:=hbd.gr C3;replace C0:=C0.trans C3;replace E1:=E1.gr C3;replace E2:=E2.gr C3
 have G1:Mod [] w3 w3:=Mod.refl _ _
 clear C3;have hb1_s:=E1;have hb2_s:=E2
 refine D.t 0 rfl (by kernel_rfl) (fun _ hS=>R1.fieldAt rfl tyF40_1) G1<|D.t 1 rfl (by kernel_rfl) (fun _ hS=>R1.loadFld rfl (hb1_s.gr hS) rfl tyP38) G1<|D.t 3 rfl (by kernel_rfl) (fun _ hS=>R1.fieldAt rfl tyF40_2) G1<|D.t 4 rfl (by kernel_rfl) (fun _ hS=>R1.loadFld rfl (hb1_s.gr hS) rfl tyP38) G1<|D.one 2 rfl (by kernel_rfl) (fun hX=>?_)
 refine L.c rfl (c_r1_Trim h hbd (by omega)) ?_
 rintro v8 w4 ⟨h8,C4⟩
 replace h:=h.gr C4;replace k:=k.gr C4;replace hbd:=hbd.gr C4;replace C0:=C0.trans C4;replace E1:=E1.gr C4;replace E2:=E2.gr C4;replace G1:=G1.trans C4;clear C4
 refine L.nil (hX _ _ ⟨.inr G1,?_⟩)
 refine D.one 5 rfl (by kernel_rfl) (fun hX=>?_)
 refine L.c rfl (c_r1_Trim k hbd (by omega)) ?_
 rintro v11 w5 ⟨h11,C5⟩
 replace h:=h.gr C5;replace k:=k.gr C5;replace hbd:=hbd.gr C5;replace C0:=C0.trans C5;replace E1:=E1.gr C5;replace E2:=E2.gr C5;replace h8:=h8.gr C5;replace G1:=G1.trans C5;clear C5
 refine L.nil (hX _ _ ⟨.inr G1,?_⟩)
 refine D.t 6 rfl (by kernel_rfl) (fun _ hS=>R1.assign rfl) G1<|D.t 7 rfl (by kernel_rfl) (fun _ hS=>R1.assign rfl) G1<|D.done (by decide +kernel) ?_ _
 refine X.seq<|W.seq<|W.sr<|L.k rfl<|L.lU rfl (by assumption) Q38<|L.v ((R1.eq rfl rfl).asB (c:=decide (val ys=0)) (len0 _)) rfl<|L.k rfl ?_
 cases W15:decide (val ys=0)
 ·
  try simp only [bq,ne_eq] at W15
  refine L.p rfl (R1.move rfl)<|L.p rfl (R1.lenU rfl (by assumption) Q38)<|L.p rfl ((R1.eq rfl rfl).asB (c:=decide (val xs=0)) (len0 _))<|L.pF rfl rfl<|L.z<|W.cond rfl ?_ ?_
  ·
   intro J19
   try simp only [bq,ne_eq] at J19
   have hq0:q=0:=by rw [← hq,J19,rv_n0]
   refine W.seq<|W.region ?_
   have hbdz:=hbd
   refine L.build1 rfl rfl Q38 tyZ90 rfl ?_
   intro g20 w6 D20
   replace C0:=C0.trans D20.mod;replace E2:=E2.gr D20.mod
   have h20:U32 (g2 :: g1 :: M) w6 (.slice (some ⟨g20,0,none⟩) 1 1) (toL 1):=by
       rw [toL_lit1]
       exact U32.of_blk (xs:=[1]) D20.blk (hbdz.not (New.ge D20 (Nat.le_refl _))) (by show (1:Nat)≤maxLen; decide) (by simp)
   clear D20
   refine L.v (R1.build rfl (built_Q2 _ _ _)) rfl<|L.storeBox rfl rfl E2 rfl rfl tyG40 ?_
   intro w7 E2' C7
   replace C0:=C0.old1 C7 K2;replace h20:=h20.ms C7;clear C7;replace E2:=E2'; clear E2'
   refine L.z<|W.ret<|X.thenRet<|X.result1 rfl (.cell rfl (loadVar_blk E2 tyG40) .nil) ?_
   exact ⟨RN.zero hq0 U32.nil (h20.sub (by intro b hb; simp [hb])),C0⟩
  intro J19
  try simp only [bq,ne_eq] at J19
  have hgy:Nat.gcd (val xs) (val ys)≤val ys:=Nat.le_of_dvd (by omega) (Nat.gcd_dvd_right _ _)
  have hg0:Nat.gcd (val xs) (val ys)≠0:=fun h0=>W15 (Nat.eq_zero_of_gcd_eq_zero_right h0)
  have hlg:=toL_len_mono hgy;have hlx:=toL_len_40 hx hl1;have hly:=toL_len_40 hy hl2
  refine W.skip<|X.seq<|W.sr<|L.k rfl<|L.k rfl<|L.c rfl (c_r1_Gcd h8 h11 hbd (by omega) (by omega)) ?_
  rintro v24 w8 ⟨h24,C8⟩
  replace hbd:=hbd.gr C8;replace C0:=C0.trans C8;replace E1:=E1.gr C8;replace E2:=E2.gr C8;replace h8:=h8.gr C8;replace h11:=h11.gr C8;clear C8
  rw [val_toL,val_toL] at h24
  refine L.b rfl<|L.z<|W.sr<|L.k rfl<|L.k rfl<|L.c rfl (c_r1_DivMod h8 h24 hbd (by omega) (by omega) (by rw [val_toL]; exact hg0)) ?_
  rintro _ w9 ⟨v28,u28,rfl,h28,k28,C9⟩
  replace hbd:=hbd.gr C9;replace C0:=C0.trans C9;replace E1:=E1.gr C9;replace E2:=E2.gr C9;replace h11:=h11.gr C9;replace h24:=h24.gr C9;clear C9
  rw [val_toL,val_toL] at h28
  clear k28;obtain ⟨A28,c28,rfl⟩:=h28.form
  refine L.k rfl<|L.ex rfl rfl<|L.ex rfl rfl<|L.ex rfl rfl<|L.b rfl<|L.z<|W.sr<|L.k rfl<|L.k rfl ?_
  refine L.c rfl (c_r1_DivMod h11 h24 hbd (by omega) (by omega) (by rw [val_toL]; exact hg0)) ?_
  rintro _ w10 ⟨v35,u35,rfl,h35,k35,C10⟩
  replace C0:=C0.trans C10;replace E1:=E1.gr C10;replace E2:=E2.gr C10;replace h28:=h28.gr C10;clear C10
  rw [val_toL,val_toL] at h35
  clear k35;obtain ⟨A35,c35,rfl⟩:=h35.form
  refine L.k rfl<|L.ex rfl rfl<|L.ex rfl rfl<|L.ex rfl rfl<|L.b rfl<|L.z<|W.sr<|L.fA rfl tyF40_0<|L.lF rfl E1 rfl tyP4 ?_
  refine L.k rfl<|L.k rfl<|L.v (R1.build rfl (built_Q012 _ _ _ _ _ _ _)) rfl<|L.storeBox rfl rfl E2 rfl rfl tyG40 ?_
  intro w11 E2' C11
  replace C0:=C0.old1 C11 K2;replace h28:=h28.ms C11;replace h35:=h35.ms C11;clear C11;replace E2:=E2'; clear E2'
  refine L.z<|W.ret<|X.result1 rfl (.cell rfl (loadVar_blk E2 tyG40) .nil) ?_
  exact ⟨RN.of hq J19 W15 (h28.sub (by intro b hb; simp [hb])) (h35.sub (by intro b hb; simp [hb])),C0⟩
 try simp only [bq,ne_eq] at W15
 have hq0:q=0:=by rw [← hq,W15,rv_d0]
 refine L.o rfl<|L.o rfl<|L.o rfl<|L.pT rfl rfl<|L.z<|W.condT rfl<|W.seq<|W.region ?_
 have hbdz:=hbd
 refine L.build1 rfl rfl Q38 tyZ90 rfl ?_
 intro g20 w12 D20
 replace C0:=C0.trans D20.mod;replace E2:=E2.gr D20.mod
 have h20:U32 (g2 :: g1 :: M) w12 (.slice (some ⟨g20,0,none⟩) 1 1) (toL 1):=by
     rw [toL_lit1]
     exact U32.of_blk (xs:=[1]) D20.blk (hbdz.not (New.ge D20 (Nat.le_refl _))) (by show (1:Nat)≤maxLen; decide) (by simp)
 clear D20
 refine L.v (R1.build rfl (built_Q2 _ _ _)) rfl<|L.storeBox rfl rfl E2 rfl rfl tyG40 ?_
 intro w13 E2' C13
 replace C0:=C0.old1 C13 K2;replace h20:=h20.ms C13;clear C13;replace E2:=E2'; clear E2'
 refine L.z<|W.ret<|X.thenRet<|X.result1 rfl (.cell rfl (loadVar_blk E2 tyG40) .nil) ?_
 exact ⟨RN.zero hq0 U32.nil (h20.sub (by intro b hb; simp [hb])),C0⟩
theorem c_ref2_Is {M N9 : List Nat} {w : World} {s : Bool} {vn vd : Value} {xs ys : List Nat} (h : U32 N9 w vn xs) (k : U32 N9 w vd ys) (hbd : Bd M w) (hl1 : xs.length ≤ 1099511627776) (hl2 : ys.length ≤ 1099511627776) :
    Ret Tryz.prog 84 #[.agg #[.bool s,vn,vd]] w (fun r w'=>r=.bool (isN s xs ys)∧Mod [] w w'):=by
 refine Ret.of (vs:=[.agg #[.bool s,vn,vd]]) (n:=25) Tryz.func84 rfl rfl rfl rfl ?_
 have C0:Mod [] w w:=Mod.refl _ _
 refine W.sr<|L.box rfl rfl ?_
 intro g1 w1 D1
 replace h:=h.new D1;replace k:=k.new D1;replace hbd:=hbd.new D1;replace C0:=C0.tn D1;have E1:=D1.blk;clear D1
 refine L.b rfl<|L.z<|W.sr<|L.v (R1.loadBox rfl E1 tyG40) rfl<|L.c rfl (c_ref2_Norm (q:=rv s (val xs) (val ys)) rfl h k hbd (by omega) (by omega)) ?_
 rintro _ w2 ⟨⟨A5,c5,B5,e5,rfl,I5,H5⟩,C2⟩
 replace h:=h.gr C2;replace k:=k.gr C2;replace C0:=C0.trans C2;replace E1:=E1.gr C2;clear C2
 refine L.alloc tyZ40 rfl ?_
 intro g3 w3 D3
 replace h:=h.new D3;replace k:=k.new D3;have K3:=New.ge D3 C0.size;replace C0:=C0.tn D3;have hne_g1_g3:=E1.ne_ D3;replace E1:=E1.gr D3.mod;replace I5:=I5.new D3;replace H5:=H5.new D3;have E3:=D3.blk;clear D3
 refine L.storeBox rfl rfl E3 rfl rfl tyG40 ?_
 intro w4 E3' C4
 replace h:=h.ms C4;replace k:=k.ms C4;replace C0:=C0.old1 C4 K3;replace E1:=E1.fr C4;replace I5:=I5.ms C4;replace H5:=H5.ms C4;clear C4;replace E3:=E3'; clear E3'
 refine L.z<|W.sr<|L.fA rfl tyF40_0<|L.lF rfl E1 rfl tyP4<|L.fA rfl tyF40_0<|L.lF rfl E3 rfl tyP4<|L.v ((R1.eqB rfl rfl tyB4).asB (c:=(s == decide ((rv s (val xs) (val ys)).num<0))) (rfl)) rfl<|L.k rfl ?_
 cases W11:(s == decide ((rv s (val xs) (val ys)).num<0))
 ·
  have hcc_:=W11
  refine L.o rfl<|L.o rfl<|L.o rfl<|L.o rfl<|L.o rfl<|L.pF rfl rfl<|L.k rfl<|L.o rfl<|L.o rfl<|L.o rfl<|L.o rfl ?_
  refine L.o rfl<|L.pF rfl rfl<|L.b rfl<|L.z<|W.ret<|X.result1 rfl (.tmp rfl .nil)<|⟨?_,C0⟩
  unfold isN
  first | rw [W11,W18]; rfl | rw [W11]; rfl
 have hcc_:=W11
 refine L.p rfl (R1.fieldAt rfl tyF40_1)<|L.p rfl (R1.loadFld rfl E1 rfl tyP38)<|L.p rfl (R1.fieldAt rfl tyF40_1)<|L.p rfl (R1.loadFld rfl E3 rfl tyP38)<|L.callOn rfl rfl rfl rfl (c_limbs h I5) rfl ?_
 rintro _ w5 ⟨rfl,C5⟩
 replace k:=k.gr C5;replace C0:=C0.trans C5;replace E1:=E1.gr C5;replace H5:=H5.gr C5;replace E3:=E3.gr C5;clear C5
 refine L.pT rfl rfl<|L.k rfl ?_
 cases W18:decide (xs=toL (rv s (val xs) (val ys)).num.natAbs)
 ·
  have hcd_:=W18
  refine L.o rfl<|L.o rfl<|L.o rfl<|L.o rfl<|L.o rfl<|L.pF rfl rfl<|L.b rfl<|L.z<|W.ret<|X.result1 rfl (.tmp rfl .nil) ?_
  refine ⟨?_,C0⟩
  unfold isN
  first | rw [W11,W18]; rfl | rw [W11]; rfl
 have hcd_:=W18
 refine L.p rfl (R1.fieldAt rfl tyF40_2)<|L.p rfl (R1.loadFld rfl E1 rfl tyP38)<|L.p rfl (R1.fieldAt rfl tyF40_2)<|L.p rfl (R1.loadFld rfl E3 rfl tyP38)<|L.callOn rfl rfl rfl rfl (c_limbs k H5) rfl ?_
 rintro _ w6 ⟨rfl,C6⟩
 replace C0:=C0.trans C6;clear C6
 refine L.pT rfl rfl<|L.b rfl<|L.z<|W.ret<|X.result1 rfl (.tmp rfl .nil)<|⟨?_,C0⟩
 unfold isN
 first | rw [W11,W18]; rfl | rw [W11]; rfl
theorem c_ref2_Of {M N9 : List Nat} {w : World} {s : Bool} {vn vd : Value} {xs ys : List Nat} {q : Rat} (hq : rv s (val xs) (val ys) = q) (h : U32 N9 w vn xs) (k : U32 N9 w vd ys) (hbd : Bd M w) (hl1 : xs.length ≤ 1099511627776) (hl2 : ys.length ≤ 1099511627776) :
    Ret Tryz.prog 56 #[.bool s,vn,vd] w (fun r w'=>RN M w' r q∧Mod [] w w'):=by
 obtain ⟨A1,c1,rfl⟩:=h.form;obtain ⟨A2,c2,rfl⟩:=k.form
 refine Ret.of (vs:=[.bool s,.slice A1 xs.length c1,.slice A2 ys.length c2]) (n:=12) Tryz.func56 rfl rfl rfl rfl ?_
 have C0:Mod [] w w:=Mod.refl _ _
 refine W.sr<|L.alloc tyZ40 rfl ?_
 intro g6 w1 D6
 replace h:=h.new D6;replace k:=k.new D6;replace hbd:=hbd.new D6;have K6:=New.ge D6 C0.size;replace C0:=C0.tn D6;have E6:=D6.blk;clear D6
 refine L.z<|W.sr<|L.k rfl<|L.k rfl<|L.k rfl<|L.v (R1.build rfl (built_Q012 _ _ _ _ _ _ _)) rfl<|L.c rfl (c_ref2_Norm hq h k hbd (by omega) (by omega)) ?_
 rintro _ w2 ⟨⟨A11,c11,B11,e11,rfl,I11,H11⟩,C2⟩
 replace C0:=C0.trans C2;replace E6:=E6.gr C2;clear C2
 refine L.storeBox rfl rfl E6 rfl rfl tyG40 ?_
 intro w3 E6' C3
 replace C0:=C0.old1 C3 K6;replace I11:=I11.ms C3;replace H11:=H11.ms C3;clear C3;replace E6:=E6'; clear E6'
 refine L.z<|W.ret<|X.result1 rfl (.cell rfl (loadVar_blk E6 tyG40) .nil) ?_
 exact ⟨RN.mk rfl (I11.sub (by intro b hb; simp [hb])) (H11.sub (by intro b hb; simp [hb])),C0⟩
theorem c_ref2_Int {M : List Nat} {w : World} {n : Int} (h1 : -9223372036854775808 ≤ n) (h2 : n ≤ 9223372036854775807) (hbd : Bd M w) :
    Ret Tryz.prog 25 #[.int .i64 n] w (fun r w'=>RN M w' r (n:Rat)∧Mod [] w w'):=by
 have hln:(toL n.natAbs).length≤2:=toL_length_le (by omega)
 refine Ret.of (vs:=[.int .i64 n]) (n:=16) Tryz.func25 rfl rfl rfl rfl ?_
 have C0:Mod [] w w:=Mod.refl _ _
 refine W.sr<|L.alloc tyZ40 rfl ?_
 intro g2 w1 D2
 replace hbd:=hbd.new D2;have K2:=New.ge D2 C0.size;replace C0:=C0.tn D2;have E2:=D2.blk;clear D2
 refine L.z<|W.sr<|L.k rfl<|L.v ((R1.conv rfl tyI3 tyI87).as (j:=(n % 18446744073709551616)) (wrap_u64_mod _)) rfl<|L.b rfl<|L.z<|W.seq<|W.seq ?_
 refine W.region<|L.k rfl<|L.lt rfl rfl<|L.z<|W.cut (ι:=Unit) (fun _=>[(0,.int .i64 n),(2,.pointer (some ⟨g2,0,none⟩)),(3,.int .u64 ((n.natAbs:Nat):Int))]) (fun _ w_=>Blk w_ g2 40 #[.bool false,.slice none 0 0,.slice none 0 0]∧Bd (g2 :: M) w_∧Mod [] w w_) ?_ ?_
 ·
  refine W.cond rfl ?_ ?_
  ·
   intro J7
   try simp only [bq,ne_eq] at J7
   refine W.region<|L.k rfl<|L.v ((R1.neg rfl).as (j:=((n.natAbs:Nat):Int)) (by rw [wrap_u64_mod]; omega)) rfl<|L.b rfl<|L.nil<|X.join () ?_ ?_
   · exact ⟨rfl,rfl,congrArg (fun i=>some (Value.int .u64 i)) (by omega),trivial⟩
   exact ⟨E2,hbd,C0⟩
  intro J7
  try simp only [bq,ne_eq] at J7
  refine W.skip<|X.join () ?_ ?_
  · exact ⟨rfl,rfl,congrArg (fun i=>some (Value.int .u64 i)) (by omega),trivial⟩
  exact ⟨E2,hbd,C0⟩
 rintro _ wj ⟨E2,hbd,C0⟩
 refine X.seq<|W.sr<|L.k rfl<|L.lt rfl rfl<|L.k rfl<|L.c rfl (c_r1_Of (n:=n.natAbs) (by omega) hbd) ?_
 rintro v13 w2 ⟨h13,C2⟩
 replace E2:=E2.gr C2;replace hbd:=hbd.gr C2;replace C0:=C0.trans C2;clear C2;have hbdz:=hbd
 refine L.build1 rfl rfl Q38 tyZ90 rfl ?_
 intro g14 w3 D14
 replace E2:=E2.gr D14.mod;replace hbd:=hbd.gr D14.mod;replace C0:=C0.trans D14.mod;replace h13:=h13.gr D14.mod
 have h14:U32 (g2 :: M) w3 (.slice (some ⟨g14,0,none⟩) 1 1) (toL 1):=by
     rw [toL_lit1]
     exact U32.of_blk (xs:=[1]) D14.blk (hbdz.not (New.ge D14 (Nat.le_refl _))) (by show (1:Nat)≤maxLen; decide) (by simp)
 clear D14
 refine L.c rfl (c_ref2_Of (q:=(n:Rat)) (by rw [val_toL,val_toL]; exact rv_int n) h13 h14 hbd (by omega) (by rw [toL_1]; omega)) ?_
 rintro _ w4 ⟨⟨A15,c15,B15,e15,rfl,I15,H15⟩,C4⟩
 replace E2:=E2.gr C4;replace C0:=C0.trans C4;clear C4
 refine L.storeBox rfl rfl E2 rfl rfl tyG40 ?_
 intro w5 E2' C5
 replace C0:=C0.old1 C5 K2;replace I15:=I15.ms C5;replace H15:=H15.ms C5;clear C5;replace E2:=E2'; clear E2'
 refine L.z<|W.ret<|X.result1 rfl (.cell rfl (loadVar_blk E2 tyG40) .nil) ?_
 exact ⟨RN.mk rfl (I15.sub (by intro b hb; simp [hb])) (H15.sub (by intro b hb; simp [hb])),C0⟩
theorem c_ref2_Zero {M N9 : List Nat} {w : World} {s : Bool} {vn vd : Value} {xs ys : List Nat} {q : Rat} (hq : rv s (val xs) (val ys) = q) (h : U32 N9 w vn xs) (k : U32 N9 w vd ys) (hbd : Bd M w) (hl1 : xs.length ≤ 1099511627776) (hl2 : ys.length ≤ 1099511627776) :
    Ret Tryz.prog 26 #[.agg #[.bool s,vn,vd]] w (fun r w'=>r=.bool (decide (q=0))∧Mod [] w w'):=by
 refine Ret.of (vs:=[.agg #[.bool s,vn,vd]]) (n:=8) Tryz.func26 rfl rfl rfl rfl ?_
 have C0:Mod [] w w:=Mod.refl _ _
 refine W.sr<|L.box rfl rfl ?_
 intro g1 w1 D1
 replace h:=h.new D1;replace k:=k.new D1;replace hbd:=hbd.new D1;have K1:=New.ge D1 C0.size;replace C0:=C0.tn D1;have E1:=D1.blk;clear D1
 refine L.b rfl<|L.z<|W.sr<|L.v (R1.loadBox rfl E1 tyG40) rfl<|L.c rfl (c_ref2_Norm hq h k hbd (by omega) (by omega)) ?_
 rintro _ w2 ⟨⟨A4,c4,B4,e4,rfl,I4,H4⟩,C2⟩
 replace h:=h.gr C2;replace k:=k.gr C2;replace hbd:=hbd.gr C2;replace C0:=C0.trans C2;replace E1:=E1.gr C2;clear C2
 refine L.v (R1.fieldV rfl tyFP40_1 rfl) rfl<|L.lU rfl (by assumption) Q38<|L.v ((R1.eq rfl rfl).asB (c:=decide (q=0)) (by rw [len0]; congr 1; exact propext (num_zero_iff q))) rfl<|L.b rfl<|L.z<|W.ret<|X.result1 rfl (.tmp rfl .nil) ?_
 exact ⟨rfl,C0⟩
theorem c_ref2_Neg {M N9 : List Nat} {w : World} {s : Bool} {vn vd : Value} {xs ys : List Nat} {q : Rat} (hq : rv s (val xs) (val ys) = q) (h : U32 N9 w vn xs) (k : U32 N9 w vd ys) (hbd : Bd M w) (hl1 : xs.length ≤ 1099511627776) (hl2 : ys.length ≤ 1099511627776) :
    Ret Tryz.prog 60 #[.agg #[.bool s,vn,vd]] w (fun r w'=>RN M w' r (-q)∧Mod [] w w'):=by
 refine Ret.of (vs:=[.agg #[.bool s,vn,vd]]) (n:=17) Tryz.func60 rfl rfl rfl rfl ?_
 have C0:Mod [] w w:=Mod.refl _ _
 refine W.sr<|L.box rfl rfl ?_
 intro g1 w1 D1
 replace h:=h.new D1;replace k:=k.new D1;replace hbd:=hbd.new D1;have K1:=New.ge D1 C0.size;replace C0:=C0.tn D1;have E1:=D1.blk;clear D1
 refine L.alloc tyZ40 rfl ?_
 intro g2 w2 D2
 replace h:=h.new D2;replace k:=k.new D2;replace hbd:=hbd.new D2;have K2:=New.ge D2 C0.size;replace C0:=C0.tn D2;have hne_g1_g2:=E1.ne_ D2;replace E1:=E1.gr D2.mod;have E2:=D2.blk;clear D2
 refine L.z<|W.sr<|L.v (R1.loadBox rfl E1 tyG40) rfl<|L.c rfl (c_ref2_Norm hq h k hbd (by omega) (by omega)) ?_
 rintro _ w3 ⟨⟨A5,c5,B5,e5,rfl,I5,H5⟩,C3⟩
 replace h:=h.gr C3;replace k:=k.gr C3;replace hbd:=hbd.gr C3;replace C0:=C0.trans C3;replace E1:=E1.gr C3;replace E2:=E2.gr C3;clear C3
 refine L.alloc tyZ40 rfl ?_
 intro g3 w4 D3
 replace h:=h.new D3;replace k:=k.new D3;replace hbd:=hbd.new D3;have K3:=New.ge D3 C0.size;replace C0:=C0.tn D3;have hne_g1_g3:=E1.ne_ D3;replace E1:=E1.gr D3.mod;have hne_g2_g3:=E2.ne_ D3;replace E2:=E2.gr D3.mod;replace I5:=I5.new D3;replace H5:=H5.new D3;have E3:=D3.blk;clear D3
 refine L.storeBox rfl rfl E3 rfl rfl tyG40 ?_
 intro w5 E3' C5
 replace h:=h.ms C5;replace k:=k.ms C5;replace hbd:=hbd.gr C5;replace C0:=C0.old1 C5 K3;replace E1:=E1.fr C5;replace E2:=E2.fr C5;replace I5:=I5.ms C5;replace H5:=H5.ms C5;clear C5;replace E3:=E3'; clear E3'
 refine L.z<|W.sr<|L.fA rfl tyF40_0<|L.lF rfl E3 rfl tyP4<|L.v (R1.not rfl) rfl<|L.k rfl ?_
 cases W9:(!decide (q.num<0))
 ·
  have hcc_:=W9
  refine L.o rfl<|L.o rfl<|L.o rfl<|L.o rfl<|L.pF rfl rfl<|L.fA rfl tyF40_0<|L.store rfl rfl E3 (show 0<3 by decide) rfl tyP4 ?_
  intro w6 E3' C6
  replace C0:=C0.old1 C6 K3;replace E2:=E2.fr C6;replace I5:=I5.ms C6;replace H5:=H5.ms C6;clear C6;replace E3:=E3'; clear E3'
  replace E3:Blk w6 g3 40 #[.bool _,.slice A5 (toL q.num.natAbs).length c5,.slice B5 (toL q.den).length e5]:=E3
  refine L.z<|W.sr<|L.v (R1.loadBox rfl E3 tyG40) rfl<|L.storeBox rfl rfl E2 rfl rfl tyG40 ?_
  intro w7 E2' C7
  replace C0:=C0.old1 C7 K2;replace I5:=I5.ms C7;replace H5:=H5.ms C7;clear C7;replace E2:=E2'; clear E2'
  refine L.z<|W.ret<|X.result1 rfl (.cell rfl (loadVar_blk E2 tyG40) .nil) ?_
  have hz:=RN.neg (M:=M) (I5.sub (by intro b hb; simp [hb])) (H5.sub (by intro b hb; simp [hb]))
  rw [W9] at hz
  exact ⟨hz,C0⟩
 have hcc_:=W9
 refine L.p rfl (R1.fieldAt rfl tyF40_1)<|L.p rfl (R1.loadFld rfl E3 rfl tyP38)<|L.p rfl (R1.lenU rfl (by assumption) Q38)<|L.p rfl ((R1.gt rfl rfl).asB (c:=decide (q.num.natAbs≠0)) (lenpos _))<|L.pT rfl rfl<|L.fA rfl tyF40_0<|L.store rfl rfl E3 (show 0<3 by decide) rfl tyP4 ?_
 intro w8 E3' C8
 replace C0:=C0.old1 C8 K3;replace E2:=E2.fr C8;replace I5:=I5.ms C8;replace H5:=H5.ms C8;clear C8;replace E3:=E3'; clear E3'
 replace E3:Blk w8 g3 40 #[.bool _,.slice A5 (toL q.num.natAbs).length c5,.slice B5 (toL q.den).length e5]:=E3
 refine L.z<|W.sr<|L.v (R1.loadBox rfl E3 tyG40) rfl<|L.storeBox rfl rfl E2 rfl rfl tyG40 ?_
 intro w9 E2' C9
 replace C0:=C0.old1 C9 K2;replace I5:=I5.ms C9;replace H5:=H5.ms C9;clear C9;replace E2:=E2'; clear E2'
 refine L.z<|W.ret<|X.result1 rfl (.cell rfl (loadVar_blk E2 tyG40) .nil) ?_
 have hz:=RN.neg (M:=M) (I5.sub (by intro b hb; simp [hb])) (H5.sub (by intro b hb; simp [hb]))
 rw [W9] at hz
 exact ⟨hz,C0⟩
end Go.Proofs.YthoooolflmbmbaaGreat
end
section
namespace Go.Proofs.YthoooolflmbmbaaGreat
open Go.RowKit
set_option linter.unusedVariables false
set_option linter.unusedSimpArgs false
set_option maxRecDepth 10000
theorem c_ref2_Add {M N8 N9 : List Nat} {w : World} {sa sb : Bool} {an ad bn bd : Value} {xa ya xb yb : List Nat} {qa qb : Rat} (hqa : rv sa (val xa) (val ya) = qa) (hqb : rv sb (val xb) (val yb) = qb) (ha : U32 N8 w an xa) (ka : U32 N8 w ad ya) (hb : U32 N9 w bn xb) (kb : U32 N9 w bd yb) (hbd : Bd M w) (l0 : xa.length ≤ 137438953472) (l1 : ya.length ≤ 137438953472) (l2 : xb.length ≤ 137438953472) (l3 : yb.length ≤ 137438953472) :
    Ret Tryz.prog 58 #[.agg #[.bool sa,an,ad],.agg #[.bool sb,bn,bd]] w (fun r w'=>RN M w' r (qa + qb)∧Mod [] w w'):=by
 have la1:=rv_len1 hqa ha.2;have la2:=rv_len2 hqa ka.2;have lb1:=rv_len1 hqb hb.2;have lb2:=rv_len2 hqb kb.2;have m1:=toL_len_mul la1 lb2;have m2:=toL_len_mul lb1 la2;have m3:=toL_len_mul la2 lb2
 refine Ret.of (vs:=[.agg #[.bool sa,an,ad],.agg #[.bool sb,bn,bd]]) (n:=71) Tryz.func58 rfl rfl rfl rfl ?_
 have C0:Mod [] w w:=Mod.refl _ _
 refine W.sr<|L.box rfl rfl ?_
 intro g2 w1 D2
 replace ha:=ha.new D2;replace ka:=ka.new D2;replace hb:=hb.new D2;replace kb:=kb.new D2;replace hbd:=hbd.new D2;replace C0:=C0.tn D2;have E2:=D2.blk;clear D2
 refine L.box rfl rfl ?_
 intro g3 w2 D3
 replace ha:=ha.new D3;replace ka:=ka.new D3;replace hb:=hb.new D3;replace kb:=kb.new D3;replace hbd:=hbd.new D3;replace C0:=C0.tn D3;replace E2:=E2.gr D3.mod;have E3:=D3.blk;clear D3
 refine L.alloc tyZ40 rfl ?_
 intro g4 w3 D4
 replace ha:=ha.new D4;replace ka:=ka.new D4;replace hb:=hb.new D4;replace kb:=kb.new D4;replace hbd:=hbd.new D4;have K4:=New.ge D4 C0.size;replace C0:=C0.tn D4;replace E2:=E2.gr D4.mod;replace E3:=E3.gr D4.mod;have E4:=D4.blk;clear D4
 refine L.z<|W.seq<|W.cut (ι:=Nat × Nat × Option Addr × Nat × Option Addr × Nat × Option Addr × Nat × Option Addr × Nat) (fun (x1,x2,A1,c1,B1,e1,A2,c2,B2,e2)=>[(4,.pointer (some ⟨g4,0,none⟩)),(5,.pointer (some ⟨x1,0,none⟩)),(6,.pointer (some ⟨x2,0,none⟩))]) (fun (x1,x2,A1,c1,B1,e1,A2,c2,B2,e2) w_=>Blk w_ g4 40 #[.bool false,.slice none 0 0,.slice none 0 0]∧Blk w_ x1 40 #[.bool (decide (qa.num<0)),.slice A1 (toL qa.num.natAbs).length c1,.slice B1 (toL qa.den).length e1]∧Blk w_ x2 40 #[.bool (decide (qb.num<0)),.slice A2 (toL qb.num.natAbs).length c2,.slice B2 (toL qb.den).length e2]∧U32 (x2 :: x1 :: g4 :: g3 :: g2 :: M) w_ (.slice A1 (toL qa.num.natAbs).length c1) (toL qa.num.natAbs)∧U32 (x2 :: x1 :: g4 :: g3 :: g2 :: M) w_ (.slice B1 (toL qa.den).length e1) (toL qa.den)∧U32 (x2 :: x1 :: g4 :: g3 :: g2 :: M) w_ (.slice A2 (toL qb.num.natAbs).length c2) (toL qb.num.natAbs)∧U32 (x2 :: x1 :: g4 :: g3 :: g2 :: M) w_ (.slice B2 (toL qb.den).length e2) (toL qb.den)∧Bd (x2 :: x1 :: g4 :: g3 :: g2 :: M) w_∧x1≠g4∧x2≠g4∧Mod [] w w_) ?_ ?_
 ·
  refine W.drawW (T:=[6,7]) rfl (by decide +kernel) (NoHang.join (NoHang.then NoHang.post)) (fun w4 C4=>?_)
  replace ha:=ha.gr C4;replace ka:=ka.gr C4;replace hb:=hb.gr C4;replace kb:=kb.gr C4;replace hbd:=hbd.gr C4;replace C0:=C0.trans C4;replace E2:=E2.gr C4;replace E3:=E3.gr C4;replace E4:=E4.gr C4
  have G1:Mod [] w4 w4:=Mod.refl _ _
  clear C4;have hb2_s:=E2;have hb3_s:=E3
  refine D.t 0 rfl (by kernel_rfl) (fun _ hS=>R1.loadBox rfl (hb2_s.gr hS) tyG40) G1<|D.t 2 rfl (by kernel_rfl) (fun _ hS=>R1.loadBox rfl (hb3_s.gr hS) tyG40) G1<|D.par2 1 3 4 5 rfl rfl rfl rfl (by decide +kernel) rfl rfl tyZ40 tyZ40 rfl rfl rfl G1 (F1:=fun wa v wb=>RN (List.range wa.heap.size) wb v qa) (F2:=fun wa v wb=>RN (List.range wa.heap.size) wb v qb) (fun wa hm=>c_ref2_Norm (M:=List.range wa.heap.size) hqa (ha.gr hm) (ka.gr hm) (range_bd _) (by omega) (by omega)) (fun wa hm=>c_ref2_Norm (M:=List.range wa.heap.size) hqb (hb.gr hm) (kb.gr hm) (range_bd _) (by omega) (by omega)) ?_
  intro v15 v17 g5 g6 wa1_ wb1_ wa2_ wb2_ w5 hP
  obtain ⟨A15,c15,B15,e15,rfl,I15,H15⟩:=hP.f1.par hP.n1 (hP.a1 hbd);obtain ⟨A17,c17,B17,e17,rfl,I17,H17⟩:=hP.f2.par hP.m3 (hP.a2 hbd);replace hb:=hb.par2 hP;replace hbd:=hbd.par2 hP;have K5:=Nat.le_trans C0.size hP.ge1;have K6:=Nat.le_trans C0.size hP.ge2;replace C0:=C0.trans (hP.mod.mono (by simp));have hne_g4_g5:=Nat.ne_of_lt (Nat.lt_of_lt_of_le (Blk.lt E4) hP.ge1);have hne_g4_g6:=Nat.ne_of_lt (Nat.lt_of_lt_of_le (Blk.lt E4) hP.ge2);replace E4:=E4.gr hP.mod;have hne_g5_g6:=hP.ne;have E5:=hP.blk1; have E6:=hP.blk2; clear hP
  refine D.one 6 rfl (by kernel_rfl) (fun hX=>?_)
  refine L.storeBox rfl rfl E5 rfl rfl tyG40 ?_
  intro w6 E5' C6
  replace hb:=hb.ms C6;replace hbd:=hbd.gr C6;replace C0:=C0.old1 C6 K5;replace E4:=E4.fr C6;replace E6:=E6.fr C6;replace I15:=I15.ms C6;replace H15:=H15.ms C6;replace I17:=I17.ms C6;replace H17:=H17.ms C6;clear C6;replace E5:=E5'; clear E5'
  refine L.nil (hX _ _ ⟨.inl rfl,?_⟩)
  refine D.one 7 rfl (by kernel_rfl) (fun hX=>?_)
  refine L.storeBox rfl rfl E6 rfl rfl tyG40 ?_
  intro w7 E6' C7
  replace hb:=hb.ms C7;replace hbd:=hbd.gr C7;replace C0:=C0.old1 C7 K6;replace E4:=E4.fr C7;replace I15:=I15.ms C7;replace H15:=H15.ms C7;replace I17:=I17.ms C7;replace H17:=H17.ms C7;replace E5:=E5.fr C7;clear C7;replace E6:=E6'; clear E6'
  refine L.nil (hX _ _ ⟨.inl rfl,?_⟩)
  refine D.done (by decide +kernel) ?_ _
  refine X.join (g5,g6,A15,c15,B15,e15,A17,c17,B17,e17) ?_ ?_
  · exact ⟨rfl,rfl,rfl,trivial⟩
  refine ⟨E4,E5,E6,(I15.sub (by intro b hb; simp only [List.mem_cons] at hb ⊢; rcases hb with h | h | h | h | h | h <;> simp [h])),(H15.sub (by intro b hb; simp only [List.mem_cons] at hb ⊢; rcases hb with h | h | h | h | h | h <;> simp [h])),(I17.sub (by intro b hb; simp only [List.mem_cons] at hb ⊢; rcases hb with h | h | h | h | h | h <;> simp [h])),(H17.sub (by intro b hb; simp only [List.mem_cons] at hb ⊢; rcases hb with h | h | h | h | h | h <;> simp [h])),(fun m hm=>hbd m (by simp only [List.mem_cons] at hm ⊢; rcases hm with h | h | h | h | h | h <;> simp [h])),(by first | exact (hne_g4_g5).symm | exact hne_g5_g4),(by first | exact (hne_g4_g6).symm | exact hne_g6_g4),C0⟩
 rintro ⟨x1,x2,A1,c1,B1,e1,A2,c2,B2,e2⟩ wj ⟨E4,hbx1,hbx2,I15,H15,I17,H17,hbd,hne_x1_g4,hne_x2_g4,C0⟩
 refine X.seq<|W.seq<|W.drawW (T:=[]) rfl (by decide +kernel) (NoHang.then NoHang.post) (fun w8 C8=>?_)
 replace E4:=E4.gr C8;replace hbx1:=hbx1.gr C8;replace hbx2:=hbx2.gr C8;replace I15:=I15.gr C8;replace H15:=H15.gr C8;replace I17:=I17.gr C8;replace H17:=H17.gr C8;replace hbd:=hbd.gr C8;replace C0:=C0.trans C8
 have G2:Mod [] w8 w8:=Mod.refl _ _
 clear C8;have hbx1_s:=hbx1;have hbx2_s:=hbx2
 refine D.t 0 rfl (by kernel_rfl) (fun _ hS=>R1.fieldAt rfl tyF40_1) G2<|D.t 1 rfl (by kernel_rfl) (fun _ hS=>R1.loadFld rfl (hbx1_s.gr hS) rfl tyP38) G2<|D.t 2 rfl (by kernel_rfl) (fun _ hS=>R1.fieldAt rfl tyF40_2) G2<|D.t 3 rfl (by kernel_rfl) (fun _ hS=>R1.loadFld rfl (hbx2_s.gr hS) rfl tyP38) G2<|D.t 5 rfl (by kernel_rfl) (fun _ hS=>R1.fieldAt rfl tyF40_1) G2<|D.t 6 rfl (by kernel_rfl) (fun _ hS=>R1.loadFld rfl (hbx2_s.gr hS) rfl tyP38) G2<|D.t 7 rfl (by kernel_rfl) (fun _ hS=>R1.fieldAt rfl tyF40_2) G2<|D.t 8 rfl (by kernel_rfl) (fun _ hS=>R1.loadFld rfl (hbx1_s.gr hS) rfl tyP38) G2<|D.one 4 rfl (by kernel_rfl) (fun hX=>?_)
 refine L.c rfl (c_r1_Mul I15 H17 hbd (by omega) (by omega)) ?_
 rintro v22 w9 ⟨h22,C9⟩
 replace E4:=E4.gr C9;replace hbx1:=hbx1.gr C9;replace hbx2:=hbx2.gr C9;replace H15:=H15.gr C9;replace I17:=I17.gr C9;replace H17:=H17.gr C9;replace hbd:=hbd.gr C9;replace C0:=C0.trans C9;replace G2:=G2.trans C9;clear C9
 rw [val_toL,val_toL] at h22
 refine L.nil (hX _ _ ⟨.inr G2,?_⟩)
 refine D.one 9 rfl (by kernel_rfl) (fun hX=>?_)
 refine L.c rfl (c_r1_Mul I17 H15 hbd (by omega) (by omega)) ?_
 rintro v27 w10 ⟨h27,C10⟩
 replace E4:=E4.gr C10;replace hbx1:=hbx1.gr C10;replace hbx2:=hbx2.gr C10;replace H15:=H15.gr C10;replace H17:=H17.gr C10;replace hbd:=hbd.gr C10;replace C0:=C0.trans C10;replace h22:=h22.gr C10;replace G2:=G2.trans C10;clear C10
 rw [val_toL,val_toL] at h27
 refine L.nil (hX _ _ ⟨.inr G2,?_⟩)
 refine D.t 10 rfl (by kernel_rfl) (fun _ hS=>R1.assign rfl) G2<|D.t 11 rfl (by kernel_rfl) (fun _ hS=>R1.assign rfl) G2<|D.done (by decide +kernel) ?_ _
 refine X.seq<|W.sr<|L.fA rfl tyF40_2<|L.lF rfl hbx1 rfl tyP38<|L.fA rfl tyF40_2<|L.lF rfl hbx2 rfl tyP38<|L.c rfl (c_r1_Mul H15 H17 hbd (by omega) (by omega)) ?_
 rintro v32 w11 ⟨h32,C11⟩
 replace E4:=E4.gr C11;replace hbx1:=hbx1.gr C11;replace hbx2:=hbx2.gr C11;replace hbd:=hbd.gr C11;replace C0:=C0.trans C11;replace h22:=h22.gr C11;replace h27:=h27.gr C11;clear C11
 rw [val_toL,val_toL] at h32
 refine L.b rfl<|L.z<|W.seq<|W.sr<|L.fA rfl tyF40_0<|L.lF rfl hbx1 rfl tyP4<|L.fA rfl tyF40_0<|L.lF rfl hbx2 rfl tyP4<|L.v (R1.eqB rfl rfl tyB4) rfl ?_
 refine L.z<|W.cond rfl ?_ ?_
 ·
  intro J37
  have hcc_:=J37
  have hsame:decide (qa.num<0)=decide (qb.num<0):=by simpa using J37
  have m4:=toL_len_add (c:=1099511627770) (Nat.le_trans m1 (by omega)) (Nat.le_trans m2 (by omega))
  refine W.seq<|W.drawW (T:=[7]) rfl (by decide +kernel) (NoHang.then (NoHang.then NoHang.post)) (fun w12 C12=>?_)
  replace E4:=E4.gr C12;replace hbx1:=hbx1.gr C12;replace hbd:=hbd.gr C12;replace C0:=C0.trans C12;replace h22:=h22.gr C12;replace h27:=h27.gr C12;replace h32:=h32.gr C12
  have G3:Mod [] w12 w12:=Mod.refl _ _
  clear C12;have hbx1_s:=hbx1
  refine D.t 0 rfl (by kernel_rfl) (fun _ hS=>R1.fieldAt rfl tyF40_0) G3<|D.t 1 rfl (by kernel_rfl) (fun _ hS=>R1.loadFld rfl (hbx1_s.gr hS) rfl tyP4) G3<|D.z 2 rfl (by kernel_rfl) rfl G3<|D.z 3 rfl (by kernel_rfl) rfl G3<|D.z 5 rfl (by kernel_rfl) rfl G3<|D.one 4 rfl (by kernel_rfl) (fun hX=>?_)
  refine L.c rfl (c_r1_Add h22 h27 hbd (by omega) (by omega)) ?_
  rintro v42 w13 ⟨h42,C13⟩
  replace E4:=E4.gr C13;replace hbd:=hbd.gr C13;replace C0:=C0.trans C13;replace h32:=h32.gr C13;replace G3:=G3.trans C13;clear C13
  rw [val_toL,val_toL] at h42
  refine L.nil (hX _ _ ⟨.inr G3,?_⟩)
  refine D.one 6 rfl (by kernel_rfl) (fun hX=>?_)
  refine L.c rfl (c_ref2_Of (q:=qa + qb) (by rw [val_toL,val_toL]; exact add_same hsame) h42 h32 hbd (by omega) (by omega)) ?_
  rintro _ w14 ⟨⟨A44,c44,B44,e44,rfl,I44,H44⟩,C14⟩
  replace E4:=E4.gr C14;replace C0:=C0.trans C14;replace G3:=G3.trans C14;clear C14
  refine L.nil (hX _ _ ⟨.inr G3,?_⟩)
  refine D.one 7 rfl (by kernel_rfl) (fun hX=>?_)
  refine L.storeBox rfl rfl E4 rfl rfl tyG40 ?_
  intro w15 E4' C15
  replace C0:=C0.old1 C15 K4;replace I44:=I44.ms C15;replace H44:=H44.ms C15;clear C15;replace E4:=E4'; clear E4'
  refine L.nil (hX _ _ ⟨.inl rfl,?_⟩)
  refine D.done (by decide +kernel) ?_ _
  refine X.seq<|W.ret<|X.thenRet<|X.result1 rfl (.cell rfl (loadVar_blk E4 tyG40) .nil) ?_
  exact ⟨RN.mk rfl (I44.sub (by intro b hb; simp [hb])) (H44.sub (by intro b hb; simp [hb])),C0⟩
 intro J37
 have hcc_:=J37
 have hdiff:decide (qa.num<0)≠decide (qb.num<0):=by simpa using J37
 refine W.skip<|X.seq<|W.seq<|W.sr<|L.k rfl<|L.k rfl<|L.c rfl (c_r1_Cmp h22 h27 hbd (by omega) (by omega)) ?_
 rintro _ w16 ⟨rfl,C16⟩
 replace E4:=E4.gr C16;replace hbx1:=hbx1.gr C16;replace hbx2:=hbx2.gr C16;replace hbd:=hbd.gr C16;replace C0:=C0.trans C16;replace h22:=h22.gr C16;replace h27:=h27.gr C16;replace h32:=h32.gr C16;clear C16
 refine L.v ((R1.ge rfl rfl).asB (c:=decide (qb.num.natAbs * qa.den≤qa.num.natAbs * qb.den)) (by rw [cmpI_ge0,val_toL,val_toL])) rfl<|L.z<|W.cond rfl ?_ ?_
 ·
  intro J48
  try simp only [bq,ne_eq] at J48
  have m5:=toL_len_mono (Nat.sub_le (qa.num.natAbs * qb.den) (qb.num.natAbs * qa.den))
  refine W.sr<|L.k rfl<|L.k rfl<|L.c rfl (c_r1_Sub h22 h27 hbd (by omega) (by omega) (by rw [val_toL,val_toL]; exact J48)) ?_
  rintro _ w17 ⟨v52,rfl,h52,C17⟩
  replace E4:=E4.gr C17;replace hbx1:=hbx1.gr C17;replace hbd:=hbd.gr C17;replace C0:=C0.trans C17;replace h32:=h32.gr C17;clear C17
  rw [val_toL,val_toL] at h52
  refine L.k rfl<|L.ex rfl rfl<|L.ex rfl rfl<|L.b rfl<|L.b rfl<|L.z<|W.sr<|L.fA rfl tyF40_0<|L.lF rfl hbx1 rfl tyP4 ?_
  refine L.k rfl<|L.k rfl<|L.c rfl (c_ref2_Of (q:=qa + qb) (by rw [val_toL,val_toL]; exact add_ge hdiff J48) h52 h32 hbd (by omega) (by omega)) ?_
  rintro _ w18 ⟨⟨A59,c59,B59,e59,rfl,I59,H59⟩,C18⟩
  replace E4:=E4.gr C18;replace C0:=C0.trans C18;clear C18
  refine L.storeBox rfl rfl E4 rfl rfl tyG40 ?_
  intro w19 E4' C19
  replace C0:=C0.old1 C19 K4;replace I59:=I59.ms C19;replace H59:=H59.ms C19;clear C19;replace E4:=E4'; clear E4'
  refine L.z<|W.ret<|X.thenRet<|X.result1 rfl (.cell rfl (loadVar_blk E4 tyG40) .nil) ?_
  exact ⟨RN.mk rfl (I59.sub (by intro b hb; simp [hb])) (H59.sub (by intro b hb; simp [hb])),C0⟩
 intro J48
 try simp only [bq,ne_eq] at J48
 have hle:qa.num.natAbs * qb.den≤qb.num.natAbs * qa.den:=by omega
 have m5:=toL_len_mono (Nat.sub_le (qb.num.natAbs * qa.den) (qa.num.natAbs * qb.den))
 refine W.skip<|X.seq<|W.sr<|L.k rfl<|L.k rfl<|L.c rfl (c_r1_Sub h27 h22 hbd (by omega) (by omega) (by rw [val_toL,val_toL]; exact hle)) ?_
 rintro _ w20 ⟨v63,rfl,h63,C20⟩
 replace E4:=E4.gr C20;replace hbx2:=hbx2.gr C20;replace hbd:=hbd.gr C20;replace C0:=C0.trans C20;replace h32:=h32.gr C20;clear C20
 rw [val_toL,val_toL] at h63
 refine L.k rfl<|L.ex rfl rfl<|L.ex rfl rfl<|L.b rfl<|L.b rfl<|L.z<|W.sr<|L.fA rfl tyF40_0<|L.lF rfl hbx2 rfl tyP4 ?_
 refine L.k rfl<|L.k rfl<|L.c rfl (c_ref2_Of (q:=qa + qb) (by rw [val_toL,val_toL]; exact add_lt hdiff hle) h63 h32 hbd (by omega) (by omega)) ?_
 rintro _ w21 ⟨⟨A70,c70,B70,e70,rfl,I70,H70⟩,C21⟩
 replace E4:=E4.gr C21;replace C0:=C0.trans C21;clear C21
 refine L.storeBox rfl rfl E4 rfl rfl tyG40 ?_
 intro w22 E4' C22
 replace C0:=C0.old1 C22 K4;replace I70:=I70.ms C22;replace H70:=H70.ms C22;clear C22;replace E4:=E4'; clear E4'
 refine L.z<|W.ret<|X.result1 rfl (.cell rfl (loadVar_blk E4 tyG40) .nil) ?_
 exact ⟨RN.mk rfl (I70.sub (by intro b hb; simp [hb])) (H70.sub (by intro b hb; simp [hb])),C0⟩
theorem c_ref2_Sub {M N8 N9 : List Nat} {w : World} {sa sb : Bool} {an ad bn bd : Value} {xa ya xb yb : List Nat} {qa qb : Rat} (hqa : rv sa (val xa) (val ya) = qa) (hqb : rv sb (val xb) (val yb) = qb) (ha : U32 N8 w an xa) (ka : U32 N8 w ad ya) (hb : U32 N9 w bn xb) (kb : U32 N9 w bd yb) (hbd : Bd M w) (l0 : xa.length ≤ 137438953400) (l1 : ya.length ≤ 137438953400) (l2 : xb.length ≤ 137438953400) (l3 : yb.length ≤ 137438953400) :
    Ret Tryz.prog 121 #[.agg #[.bool sa,an,ad],.agg #[.bool sb,bn,bd]] w (fun r w'=>RN M w' r (qa - qb)∧Mod [] w w'):=by
 have la1:=rv_len1 hqa ha.2;have la2:=rv_len2 hqa ka.2;have lb1:=rv_len1 hqb hb.2;have lb2:=rv_len2 hqb kb.2
 refine Ret.of (vs:=[.agg #[.bool sa,an,ad],.agg #[.bool sb,bn,bd]]) (n:=9) Tryz.func121 rfl rfl rfl rfl ?_
 have C0:Mod [] w w:=Mod.refl _ _
 refine W.sr<|L.box rfl rfl ?_
 intro g2 w1 D2
 replace ha:=ha.new D2;replace ka:=ka.new D2;replace hb:=hb.new D2;replace kb:=kb.new D2;replace hbd:=hbd.new D2;replace C0:=C0.tn D2;have E2:=D2.blk;clear D2
 refine L.box rfl rfl ?_
 intro g3 w2 D3
 replace ha:=ha.new D3;replace ka:=ka.new D3;replace hb:=hb.new D3;replace kb:=kb.new D3;replace hbd:=hbd.new D3;replace C0:=C0.tn D3;replace E2:=E2.gr D3.mod;have E3:=D3.blk;clear D3
 refine L.alloc tyZ40 rfl ?_
 intro g4 w3 D4
 replace ha:=ha.new D4;replace ka:=ka.new D4;replace hb:=hb.new D4;replace kb:=kb.new D4;replace hbd:=hbd.new D4;have K4:=New.ge D4 C0.size;replace C0:=C0.tn D4;replace E2:=E2.gr D4.mod;replace E3:=E3.gr D4.mod;have E4:=D4.blk;clear D4
 refine L.z<|W.seq<|W.drawW (T:=[4]) rfl (by decide +kernel) (NoHang.then NoHang.post) (fun w4 C4=>?_)
 replace ha:=ha.gr C4;replace ka:=ka.gr C4;replace hb:=hb.gr C4;replace kb:=kb.gr C4;replace hbd:=hbd.gr C4;replace C0:=C0.trans C4;replace E2:=E2.gr C4;replace E3:=E3.gr C4;replace E4:=E4.gr C4
 have G1:Mod [] w4 w4:=Mod.refl _ _
 clear C4;have hb2_s:=E2;have hb3_s:=E3
 refine D.t 0 rfl (by kernel_rfl) (fun _ hS=>R1.loadBox rfl (hb2_s.gr hS) tyG40) G1<|D.t 1 rfl (by kernel_rfl) (fun _ hS=>R1.loadBox rfl (hb3_s.gr hS) tyG40) G1<|D.one 2 rfl (by kernel_rfl) (fun hX=>?_)
 refine L.c rfl (c_ref2_Neg hqb hb kb hbd (by omega) (by omega)) ?_
 rintro _ w5 ⟨⟨A7,c7,B7,e7,rfl,I7,H7⟩,C5⟩
 replace ha:=ha.gr C5;replace ka:=ka.gr C5;replace hb:=hb.gr C5;replace hbd:=hbd.gr C5;replace C0:=C0.trans C5;replace E4:=E4.gr C5;replace G1:=G1.trans C5;clear C5
 have ln1:(toL (-qb).num.natAbs).length≤xb.length:=by rw [Rat.neg_num,Int.natAbs_neg]; exact lb1
 have ln2:(toL (-qb).den).length≤yb.length + 1:=by rw [Rat.neg_den]; exact lb2
 refine L.nil (hX _ _ ⟨.inr G1,?_⟩)
 refine D.one 3 rfl (by kernel_rfl) (fun hX=>?_)
 refine L.c rfl (c_ref2_Add (qb:=-qb) hqa (rv_toL _) ha ka I7 H7 hbd (by omega) (by omega) (by omega) (by omega)) ?_
 rintro _ w6 ⟨⟨A8,c8,B8,e8,rfl,I8,H8⟩,C6⟩
 replace hb:=hb.gr C6;replace C0:=C0.trans C6;replace E4:=E4.gr C6;replace G1:=G1.trans C6;clear C6
 refine L.nil (hX _ _ ⟨.inr G1,?_⟩)
 refine D.one 4 rfl (by kernel_rfl) (fun hX=>?_)
 refine L.storeBox rfl rfl E4 rfl rfl tyG40 ?_
 intro w7 E4' C7
 replace hb:=hb.ms C7;replace C0:=C0.old1 C7 K4;replace I8:=I8.ms C7;replace H8:=H8.ms C7;clear C7;replace E4:=E4'; clear E4'
 refine L.nil (hX _ _ ⟨.inl rfl,?_⟩)
 refine D.done (by decide +kernel) ?_ _
 refine X.seq<|W.ret<|X.result1 rfl (.cell rfl (loadVar_blk E4 tyG40) .nil) ?_
 exact ⟨by rw [Rat.sub_eq_add_neg]; exact RN.mk rfl (I8.sub (by intro b hb; simp [hb])) (H8.sub (by intro b hb; simp [hb])),C0⟩
theorem c_ref2_Mul {M N8 N9 : List Nat} {w : World} {sa sb : Bool} {an ad bn bd : Value} {xa ya xb yb : List Nat} {qa qb : Rat} (hqa : rv sa (val xa) (val ya) = qa) (hqb : rv sb (val xb) (val yb) = qb) (ha : U32 N8 w an xa) (ka : U32 N8 w ad ya) (hb : U32 N9 w bn xb) (kb : U32 N9 w bd yb) (hbd : Bd M w) (l0 : xa.length ≤ 137438953472) (l1 : ya.length ≤ 137438953472) (l2 : xb.length ≤ 137438953472) (l3 : yb.length ≤ 137438953472) :
    Ret Tryz.prog 59 #[.agg #[.bool sa,an,ad],.agg #[.bool sb,bn,bd]] w (fun r w'=>RN M w' r (qa * qb)∧Mod [] w w'):=by
 have la1:=rv_len1 hqa ha.2;have la2:=rv_len2 hqa ka.2;have lb1:=rv_len1 hqb hb.2;have lb2:=rv_len2 hqb kb.2;have m1:=toL_len_mul la1 lb1;have m3:=toL_len_mul la2 lb2
 refine Ret.of (vs:=[.agg #[.bool sa,an,ad],.agg #[.bool sb,bn,bd]]) (n:=27) Tryz.func59 rfl rfl rfl rfl ?_
 have C0:Mod [] w w:=Mod.refl _ _
 refine W.sr<|L.box rfl rfl ?_
 intro g2 w1 D2
 replace ha:=ha.new D2;replace ka:=ka.new D2;replace hb:=hb.new D2;replace kb:=kb.new D2;replace hbd:=hbd.new D2;replace C0:=C0.tn D2;have E2:=D2.blk;clear D2
 refine L.box rfl rfl ?_
 intro g3 w2 D3
 replace ha:=ha.new D3;replace ka:=ka.new D3;replace hb:=hb.new D3;replace kb:=kb.new D3;replace hbd:=hbd.new D3;replace C0:=C0.tn D3;replace E2:=E2.gr D3.mod;have E3:=D3.blk;clear D3
 refine L.alloc tyZ40 rfl ?_
 intro g4 w3 D4
 replace ha:=ha.new D4;replace ka:=ka.new D4;replace hb:=hb.new D4;replace kb:=kb.new D4;replace hbd:=hbd.new D4;have K4:=New.ge D4 C0.size;replace C0:=C0.tn D4;replace E2:=E2.gr D4.mod;replace E3:=E3.gr D4.mod;have E4:=D4.blk;clear D4
 refine L.z<|W.seq<|W.cut (ι:=Nat × Nat × Option Addr × Nat × Option Addr × Nat × Option Addr × Nat × Option Addr × Nat) (fun (x1,x2,A1,c1,B1,e1,A2,c2,B2,e2)=>[(4,.pointer (some ⟨g4,0,none⟩)),(5,.pointer (some ⟨x1,0,none⟩)),(6,.pointer (some ⟨x2,0,none⟩))]) (fun (x1,x2,A1,c1,B1,e1,A2,c2,B2,e2) w_=>Blk w_ g4 40 #[.bool false,.slice none 0 0,.slice none 0 0]∧Blk w_ x1 40 #[.bool (decide (qa.num<0)),.slice A1 (toL qa.num.natAbs).length c1,.slice B1 (toL qa.den).length e1]∧Blk w_ x2 40 #[.bool (decide (qb.num<0)),.slice A2 (toL qb.num.natAbs).length c2,.slice B2 (toL qb.den).length e2]∧U32 (x2 :: x1 :: g4 :: g3 :: g2 :: M) w_ (.slice A1 (toL qa.num.natAbs).length c1) (toL qa.num.natAbs)∧U32 (x2 :: x1 :: g4 :: g3 :: g2 :: M) w_ (.slice B1 (toL qa.den).length e1) (toL qa.den)∧U32 (x2 :: x1 :: g4 :: g3 :: g2 :: M) w_ (.slice A2 (toL qb.num.natAbs).length c2) (toL qb.num.natAbs)∧U32 (x2 :: x1 :: g4 :: g3 :: g2 :: M) w_ (.slice B2 (toL qb.den).length e2) (toL qb.den)∧Bd (x2 :: x1 :: g4 :: g3 :: g2 :: M) w_∧x1≠g4∧x2≠g4∧Mod [] w w_) ?_ ?_
 ·
  refine W.drawW (T:=[6,7]) rfl (by decide +kernel) (NoHang.join (NoHang.then NoHang.post)) (fun w4 C4=>?_)
  replace ha:=ha.gr C4;replace ka:=ka.gr C4;replace hb:=hb.gr C4;replace kb:=kb.gr C4;replace hbd:=hbd.gr C4;replace C0:=C0.trans C4;replace E2:=E2.gr C4;replace E3:=E3.gr C4;replace E4:=E4.gr C4
  have G1:Mod [] w4 w4:=Mod.refl _ _
  clear C4;have hb2_s:=E2;have hb3_s:=E3
  refine D.t 0 rfl (by kernel_rfl) (fun _ hS=>R1.loadBox rfl (hb2_s.gr hS) tyG40) G1<|D.t 2 rfl (by kernel_rfl) (fun _ hS=>R1.loadBox rfl (hb3_s.gr hS) tyG40) G1<|D.par2 1 3 4 5 rfl rfl rfl rfl (by decide +kernel) rfl rfl tyZ40 tyZ40 rfl rfl rfl G1 (F1:=fun wa v wb=>RN (List.range wa.heap.size) wb v qa) (F2:=fun wa v wb=>RN (List.range wa.heap.size) wb v qb) (fun wa hm=>c_ref2_Norm (M:=List.range wa.heap.size) hqa (ha.gr hm) (ka.gr hm) (range_bd _) (by omega) (by omega)) (fun wa hm=>c_ref2_Norm (M:=List.range wa.heap.size) hqb (hb.gr hm) (kb.gr hm) (range_bd _) (by omega) (by omega)) ?_
  intro v8 v10 g5 g6 wa1_ wb1_ wa2_ wb2_ w5 hP
  obtain ⟨A8,c8,B8,e8,rfl,I8,H8⟩:=hP.f1.par hP.n1 (hP.a1 hbd);obtain ⟨A10,c10,B10,e10,rfl,I10,H10⟩:=hP.f2.par hP.m3 (hP.a2 hbd);replace hb:=hb.par2 hP;replace hbd:=hbd.par2 hP;have K5:=Nat.le_trans C0.size hP.ge1;have K6:=Nat.le_trans C0.size hP.ge2;replace C0:=C0.trans (hP.mod.mono (by simp));have hne_g4_g5:=Nat.ne_of_lt (Nat.lt_of_lt_of_le (Blk.lt E4) hP.ge1);have hne_g4_g6:=Nat.ne_of_lt (Nat.lt_of_lt_of_le (Blk.lt E4) hP.ge2);replace E4:=E4.gr hP.mod;have hne_g5_g6:=hP.ne;have E5:=hP.blk1; have E6:=hP.blk2; clear hP
  refine D.one 6 rfl (by kernel_rfl) (fun hX=>?_)
  refine L.storeBox rfl rfl E5 rfl rfl tyG40 ?_
  intro w6 E5' C6
  replace hb:=hb.ms C6;replace hbd:=hbd.gr C6;replace C0:=C0.old1 C6 K5;replace E4:=E4.fr C6;replace E6:=E6.fr C6;replace I8:=I8.ms C6;replace H8:=H8.ms C6;replace I10:=I10.ms C6;replace H10:=H10.ms C6;clear C6;replace E5:=E5'; clear E5'
  refine L.nil (hX _ _ ⟨.inl rfl,?_⟩)
  refine D.one 7 rfl (by kernel_rfl) (fun hX=>?_)
  refine L.storeBox rfl rfl E6 rfl rfl tyG40 ?_
  intro w7 E6' C7
  replace hb:=hb.ms C7;replace hbd:=hbd.gr C7;replace C0:=C0.old1 C7 K6;replace E4:=E4.fr C7;replace I8:=I8.ms C7;replace H8:=H8.ms C7;replace I10:=I10.ms C7;replace H10:=H10.ms C7;replace E5:=E5.fr C7;clear C7;replace E6:=E6'; clear E6'
  refine L.nil (hX _ _ ⟨.inl rfl,?_⟩)
  refine D.done (by decide +kernel) ?_ _
  refine X.join (g5,g6,A8,c8,B8,e8,A10,c10,B10,e10) ?_ ?_
  · exact ⟨rfl,rfl,rfl,trivial⟩
  refine ⟨E4,E5,E6,(I8.sub (by intro b hb; simp only [List.mem_cons] at hb ⊢; rcases hb with h | h | h | h | h | h <;> simp [h])),(H8.sub (by intro b hb; simp only [List.mem_cons] at hb ⊢; rcases hb with h | h | h | h | h | h <;> simp [h])),(I10.sub (by intro b hb; simp only [List.mem_cons] at hb ⊢; rcases hb with h | h | h | h | h | h <;> simp [h])),(H10.sub (by intro b hb; simp only [List.mem_cons] at hb ⊢; rcases hb with h | h | h | h | h | h <;> simp [h])),(fun m hm=>hbd m (by simp only [List.mem_cons] at hm ⊢; rcases hm with h | h | h | h | h | h <;> simp [h])),(by first | exact (hne_g4_g5).symm | exact hne_g5_g4),(by first | exact (hne_g4_g6).symm | exact hne_g6_g4),C0⟩
 rintro ⟨x1,x2,A1,c1,B1,e1,A2,c2,B2,e2⟩ wj ⟨E4,hbx1,hbx2,I8,H8,I10,H10,hbd,hne_x1_g4,hne_x2_g4,C0⟩
 refine X.seq<|W.seq<|W.drawW (T:=[16]) rfl (by decide +kernel) (NoHang.then NoHang.post) (fun w8 C8=>?_)
 replace E4:=E4.gr C8;replace hbx1:=hbx1.gr C8;replace hbx2:=hbx2.gr C8;replace I8:=I8.gr C8;replace H8:=H8.gr C8;replace I10:=I10.gr C8;replace H10:=H10.gr C8;replace hbd:=hbd.gr C8;replace C0:=C0.trans C8
 have G2:Mod [] w8 w8:=Mod.refl _ _
 clear C8;have hbx1_s:=hbx1;have hbx2_s:=hbx2
 refine D.t 0 rfl (by kernel_rfl) (fun _ hS=>R1.fieldAt rfl tyF40_0) G2<|D.t 1 rfl (by kernel_rfl) (fun _ hS=>R1.loadFld rfl (hbx1_s.gr hS) rfl tyP4) G2<|D.t 2 rfl (by kernel_rfl) (fun _ hS=>R1.fieldAt rfl tyF40_0) G2<|D.t 3 rfl (by kernel_rfl) (fun _ hS=>R1.loadFld rfl (hbx2_s.gr hS) rfl tyP4) G2<|D.t 4 rfl (by kernel_rfl) (fun _ hS=>R1.neB rfl rfl tyB4) G2<|D.t 5 rfl (by kernel_rfl) (fun _ hS=>R1.fieldAt rfl tyF40_1) G2<|D.t 6 rfl (by kernel_rfl) (fun _ hS=>R1.loadFld rfl (hbx1_s.gr hS) rfl tyP38) G2<|D.t 7 rfl (by kernel_rfl) (fun _ hS=>R1.fieldAt rfl tyF40_1) G2<|D.t 8 rfl (by kernel_rfl) (fun _ hS=>R1.loadFld rfl (hbx2_s.gr hS) rfl tyP38) G2<|D.t 10 rfl (by kernel_rfl) (fun _ hS=>R1.fieldAt rfl tyF40_2) G2<|D.t 11 rfl (by kernel_rfl) (fun _ hS=>R1.loadFld rfl (hbx1_s.gr hS) rfl tyP38) G2 ?_
 refine D.t 12 rfl (by kernel_rfl) (fun _ hS=>R1.fieldAt rfl tyF40_2) G2<|D.t 13 rfl (by kernel_rfl) (fun _ hS=>R1.loadFld rfl (hbx2_s.gr hS) rfl tyP38) G2<|D.one 9 rfl (by kernel_rfl) (fun hX=>?_)
 refine L.c rfl (c_r1_Mul I8 I10 hbd (by omega) (by omega)) ?_
 rintro v20 w9 ⟨h20,C9⟩
 replace E4:=E4.gr C9;replace H8:=H8.gr C9;replace H10:=H10.gr C9;replace hbd:=hbd.gr C9;replace C0:=C0.trans C9;replace G2:=G2.trans C9;clear C9
 rw [val_toL,val_toL] at h20
 refine L.nil (hX _ _ ⟨.inr G2,?_⟩)
 refine D.one 14 rfl (by kernel_rfl) (fun hX=>?_)
 refine L.c rfl (c_r1_Mul H8 H10 hbd (by omega) (by omega)) ?_
 rintro v25 w10 ⟨h25,C10⟩
 replace E4:=E4.gr C10;replace hbd:=hbd.gr C10;replace C0:=C0.trans C10;replace h20:=h20.gr C10;replace G2:=G2.trans C10;clear C10
 rw [val_toL,val_toL] at h25
 refine L.nil (hX _ _ ⟨.inr G2,?_⟩)
 refine D.one 15 rfl (by kernel_rfl) (fun hX=>?_)
 refine L.c rfl (c_ref2_Of (q:=qa * qb) (by rw [val_toL,val_toL]; exact mul_num qa qb) h20 h25 hbd (by omega) (by omega)) ?_
 rintro _ w11 ⟨⟨A26,c26,B26,e26,rfl,I26,H26⟩,C11⟩
 replace E4:=E4.gr C11;replace C0:=C0.trans C11;replace G2:=G2.trans C11;clear C11
 refine L.nil (hX _ _ ⟨.inr G2,?_⟩)
 refine D.one 16 rfl (by kernel_rfl) (fun hX=>?_)
 refine L.storeBox rfl rfl E4 rfl rfl tyG40 ?_
 intro w12 E4' C12
 replace C0:=C0.old1 C12 K4;replace I26:=I26.ms C12;replace H26:=H26.ms C12;clear C12;replace E4:=E4'; clear E4'
 refine L.nil (hX _ _ ⟨.inl rfl,?_⟩)
 refine D.done (by decide +kernel) ?_ _
 refine X.seq<|W.ret<|X.result1 rfl (.cell rfl (loadVar_blk E4 tyG40) .nil) ?_
 exact ⟨RN.mk rfl (I26.sub (by intro b hb; simp [hb])) (H26.sub (by intro b hb; simp [hb])),C0⟩
theorem c_ref2_Div0 {M N8 N9 : List Nat} {w : World} {sa sb : Bool} {an ad bn bd : Value} {xa ya xb yb : List Nat} {qa qb : Rat} (hqa : rv sa (val xa) (val ya) = qa) (hqb : rv sb (val xb) (val yb) = qb) (ha : U32 N8 w an xa) (ka : U32 N8 w ad ya) (hb : U32 N9 w bn xb) (kb : U32 N9 w bd yb) (hbd : Bd M w) (l0 : xa.length ≤ 137438953472) (l1 : ya.length ≤ 137438953472) (l2 : xb.length ≤ 137438953472) (l3 : yb.length ≤ 137438953472) (h0 : qb = 0) :
    Ret Tryz.prog 92 #[.agg #[.bool sa,an,ad],.agg #[.bool sb,bn,bd]] w (fun r w'=>∃ v,r=.tuple #[v,.bool false]∧RN M w' v 0∧Mod [] w w'):=by
 have la1:=rv_len1 hqa ha.2;have la2:=rv_len2 hqa ka.2;have lb1:=rv_len1 hqb hb.2;have lb2:=rv_len2 hqb kb.2
 refine Ret.of (vs:=[.agg #[.bool sa,an,ad],.agg #[.bool sb,bn,bd]]) (n:=34) Tryz.func92 rfl rfl rfl rfl ?_
 have C0:Mod [] w w:=Mod.refl _ _
 refine W.sr<|L.box rfl rfl ?_
 intro g2 w1 D2
 replace ha:=ha.new D2;replace ka:=ka.new D2;replace hb:=hb.new D2;replace kb:=kb.new D2;replace hbd:=hbd.new D2;have K2:=New.ge D2 C0.size;replace C0:=C0.tn D2;have E2:=D2.blk;clear D2
 refine L.box rfl rfl ?_
 intro g3 w2 D3
 replace ha:=ha.new D3;replace ka:=ka.new D3;replace hb:=hb.new D3;replace kb:=kb.new D3;replace hbd:=hbd.new D3;have K3:=New.ge D3 C0.size;replace C0:=C0.tn D3;have hne_g2_g3:=E2.ne_ D3;replace E2:=E2.gr D3.mod;have E3:=D3.blk;clear D3
 refine L.alloc tyZ40 rfl ?_
 intro g4 w3 D4
 replace ha:=ha.new D4;replace ka:=ka.new D4;replace hb:=hb.new D4;replace kb:=kb.new D4;replace hbd:=hbd.new D4;have K4:=New.ge D4 C0.size;replace C0:=C0.tn D4;have hne_g2_g4:=E2.ne_ D4;replace E2:=E2.gr D4.mod;have hne_g3_g4:=E3.ne_ D4;replace E3:=E3.gr D4.mod;have E4:=D4.blk;clear D4
 refine L.b rfl<|L.z<|W.seq<|W.cut (ι:=Nat × Nat × Option Addr × Nat × Option Addr × Nat × Option Addr × Nat × Option Addr × Nat) (fun (x1,x2,A1,c1,B1,e1,A2,c2,B2,e2)=>[(4,.pointer (some ⟨g4,0,none⟩)),(6,.pointer (some ⟨x1,0,none⟩)),(7,.pointer (some ⟨x2,0,none⟩))]) (fun (x1,x2,A1,c1,B1,e1,A2,c2,B2,e2) w_=>Blk w_ g4 40 #[.bool false,.slice none 0 0,.slice none 0 0]∧Blk w_ x1 40 #[.bool (decide (qa.num<0)),.slice A1 (toL qa.num.natAbs).length c1,.slice B1 (toL qa.den).length e1]∧Blk w_ x2 40 #[.bool (decide (qb.num<0)),.slice A2 (toL qb.num.natAbs).length c2,.slice B2 (toL qb.den).length e2]∧U32 (x2 :: x1 :: g4 :: g3 :: g2 :: M) w_ (.slice A1 (toL qa.num.natAbs).length c1) (toL qa.num.natAbs)∧U32 (x2 :: x1 :: g4 :: g3 :: g2 :: M) w_ (.slice B1 (toL qa.den).length e1) (toL qa.den)∧U32 (x2 :: x1 :: g4 :: g3 :: g2 :: M) w_ (.slice A2 (toL qb.num.natAbs).length c2) (toL qb.num.natAbs)∧U32 (x2 :: x1 :: g4 :: g3 :: g2 :: M) w_ (.slice B2 (toL qb.den).length e2) (toL qb.den)∧Bd (x2 :: x1 :: g4 :: g3 :: g2 :: M) w_∧x1≠g4∧x2≠g4∧Mod [] w w_) ?_ ?_
 ·
  refine W.drawW (T:=[6,7]) rfl (by decide +kernel) (NoHang.join (NoHang.then NoHang.post)) (fun w4 C4=>?_)
  replace ha:=ha.gr C4;replace ka:=ka.gr C4;replace hb:=hb.gr C4;replace kb:=kb.gr C4;replace hbd:=hbd.gr C4;replace C0:=C0.trans C4;replace E2:=E2.gr C4;replace E3:=E3.gr C4;replace E4:=E4.gr C4
  have G1:Mod [] w4 w4:=Mod.refl _ _
  clear C4;have hb2_s:=E2;have hb3_s:=E3
  refine D.t 0 rfl (by kernel_rfl) (fun _ hS=>R1.loadBox rfl (hb2_s.gr hS) tyG40) G1<|D.t 2 rfl (by kernel_rfl) (fun _ hS=>R1.loadBox rfl (hb3_s.gr hS) tyG40) G1<|D.par2 1 3 4 5 rfl rfl rfl rfl (by decide +kernel) rfl rfl tyZ40 tyZ40 rfl rfl rfl G1 (F1:=fun wa v wb=>RN (List.range wa.heap.size) wb v qa) (F2:=fun wa v wb=>RN (List.range wa.heap.size) wb v qb) (fun wa hm=>c_ref2_Norm (M:=List.range wa.heap.size) hqa (ha.gr hm) (ka.gr hm) (range_bd _) (by omega) (by omega)) (fun wa hm=>c_ref2_Norm (M:=List.range wa.heap.size) hqb (hb.gr hm) (kb.gr hm) (range_bd _) (by omega) (by omega)) ?_
  intro v9 v11 g6 g7 wa1_ wb1_ wa2_ wb2_ w5 hP
  obtain ⟨A9,c9,B9,e9,rfl,I9,H9⟩:=hP.f1.par hP.n1 (hP.a1 hbd);obtain ⟨A11,c11,B11,e11,rfl,I11,H11⟩:=hP.f2.par hP.m3 (hP.a2 hbd);replace hb:=hb.par2 hP;replace hbd:=hbd.par2 hP;have K6:=Nat.le_trans C0.size hP.ge1;have K7:=Nat.le_trans C0.size hP.ge2;replace C0:=C0.trans (hP.mod.mono (by simp));have hne_g4_g6:=Nat.ne_of_lt (Nat.lt_of_lt_of_le (Blk.lt E4) hP.ge1);have hne_g4_g7:=Nat.ne_of_lt (Nat.lt_of_lt_of_le (Blk.lt E4) hP.ge2);replace E4:=E4.gr hP.mod;have hne_g6_g7:=hP.ne;have E6:=hP.blk1; have E7:=hP.blk2; clear hP
  refine D.one 6 rfl (by kernel_rfl) (fun hX=>?_)
  refine L.storeBox rfl rfl E6 rfl rfl tyG40 ?_
  intro w6 E6' C6
  replace hb:=hb.ms C6;replace hbd:=hbd.gr C6;replace C0:=C0.old1 C6 K6;replace E4:=E4.fr C6;replace E7:=E7.fr C6;replace I9:=I9.ms C6;replace H9:=H9.ms C6;replace I11:=I11.ms C6;replace H11:=H11.ms C6;clear C6;replace E6:=E6'; clear E6'
  refine L.nil (hX _ _ ⟨.inl rfl,?_⟩)
  refine D.one 7 rfl (by kernel_rfl) (fun hX=>?_)
  refine L.storeBox rfl rfl E7 rfl rfl tyG40 ?_
  intro w7 E7' C7
  replace hb:=hb.ms C7;replace hbd:=hbd.gr C7;replace C0:=C0.old1 C7 K7;replace E4:=E4.fr C7;replace I9:=I9.ms C7;replace H9:=H9.ms C7;replace I11:=I11.ms C7;replace H11:=H11.ms C7;replace E6:=E6.fr C7;clear C7;replace E7:=E7'; clear E7'
  refine L.nil (hX _ _ ⟨.inl rfl,?_⟩)
  refine D.done (by decide +kernel) ?_ _
  refine X.join (g6,g7,A9,c9,B9,e9,A11,c11,B11,e11) ?_ ?_
  · exact ⟨rfl,rfl,rfl,trivial⟩
  refine ⟨E4,E6,E7,(I9.sub (by intro b hb; simp only [List.mem_cons] at hb ⊢; rcases hb with h | h | h | h | h | h <;> simp [h])),(H9.sub (by intro b hb; simp only [List.mem_cons] at hb ⊢; rcases hb with h | h | h | h | h | h <;> simp [h])),(I11.sub (by intro b hb; simp only [List.mem_cons] at hb ⊢; rcases hb with h | h | h | h | h | h <;> simp [h])),(H11.sub (by intro b hb; simp only [List.mem_cons] at hb ⊢; rcases hb with h | h | h | h | h | h <;> simp [h])),(fun m hm=>hbd m (by simp only [List.mem_cons] at hm ⊢; rcases hm with h | h | h | h | h | h <;> simp [h])),(by first | exact (hne_g4_g6).symm | exact hne_g6_g4),(by first | exact (hne_g4_g7).symm | exact hne_g7_g4),C0⟩
 rintro ⟨x1,x2,A1,c1,B1,e1,A2,c2,B2,e2⟩ wj ⟨E4,hbx1,hbx2,I9,H9,I11,H11,hbd,hne_x1_g4,hne_x2_g4,C0⟩
 refine X.seq<|W.seq<|W.sr<|L.fA rfl tyF40_1<|L.lF rfl hbx2 rfl tyP38<|L.lU rfl (by assumption) Q38<|L.v ((R1.eq rfl rfl).asB (c:=true) (by rw [len0,decide_eq_true_eq,num_zero_iff]; exact h0)) rfl<|L.z<|W.condT rfl ?_
 refine W.sr<|L.v (R1.build rfl (built_Q)) rfl<|L.c rfl (c_ref2_Norm (N9:=[]) (xs:=[]) (ys:=[]) (q:=0) (rv_d0 _ _) U32.nil U32.nil hbd (by simp) (by simp)) ?_
 rintro _ w8 ⟨⟨A17,c17,B17,e17,rfl,I17,H17⟩,C8⟩
 replace E4:=E4.gr C8;replace C0:=C0.trans C8;clear C8
 refine L.storeBox rfl rfl E4 rfl rfl tyG40 ?_
 intro w9 E4' C9
 replace C0:=C0.old1 C9 K4;replace I17:=I17.ms C9;replace H17:=H17.ms C9;clear C9;replace E4:=E4'; clear E4'
 refine L.b rfl<|L.z<|W.ret<|X.thenRet<|X.result2 rfl (.cell rfl (loadVar_blk E4 tyG40) (.tmp rfl .nil)) ?_
 exact ⟨_,rfl,RN.mk rfl (I17.sub (by intro b hb; simp [hb])) (H17.sub (by intro b hb; simp [hb])),C0⟩
theorem c_ref2_Div1 {M N8 N9 : List Nat} {w : World} {sa sb : Bool} {an ad bn bd : Value} {xa ya xb yb : List Nat} {qa qb : Rat} (hqa : rv sa (val xa) (val ya) = qa) (hqb : rv sb (val xb) (val yb) = qb) (ha : U32 N8 w an xa) (ka : U32 N8 w ad ya) (hb : U32 N9 w bn xb) (kb : U32 N9 w bd yb) (hbd : Bd M w) (l0 : xa.length ≤ 137438953472) (l1 : ya.length ≤ 137438953472) (l2 : xb.length ≤ 137438953472) (l3 : yb.length ≤ 137438953472) (h0 : qb ≠ 0) :
    Ret Tryz.prog 92 #[.agg #[.bool sa,an,ad],.agg #[.bool sb,bn,bd]] w (fun r w'=>∃ v,r=.tuple #[v,.bool true]∧RN M w' v (qa / qb)∧Mod [] w w'):=by
 have la1:=rv_len1 hqa ha.2;have la2:=rv_len2 hqa ka.2;have lb1:=rv_len1 hqb hb.2;have lb2:=rv_len2 hqb kb.2;have m1:=toL_len_mul la1 lb2;have m3:=toL_len_mul la2 lb1
 refine Ret.of (vs:=[.agg #[.bool sa,an,ad],.agg #[.bool sb,bn,bd]]) (n:=34) Tryz.func92 rfl rfl rfl rfl ?_
 have C0:Mod [] w w:=Mod.refl _ _
 refine W.sr<|L.box rfl rfl ?_
 intro g2 w1 D2
 replace ha:=ha.new D2;replace ka:=ka.new D2;replace hb:=hb.new D2;replace kb:=kb.new D2;replace hbd:=hbd.new D2;have K2:=New.ge D2 C0.size;replace C0:=C0.tn D2;have E2:=D2.blk;clear D2
 refine L.box rfl rfl ?_
 intro g3 w2 D3
 replace ha:=ha.new D3;replace ka:=ka.new D3;replace hb:=hb.new D3;replace kb:=kb.new D3;replace hbd:=hbd.new D3;have K3:=New.ge D3 C0.size;replace C0:=C0.tn D3;have hne_g2_g3:=E2.ne_ D3;replace E2:=E2.gr D3.mod;have E3:=D3.blk;clear D3
 refine L.alloc tyZ40 rfl ?_
 intro g4 w3 D4
 replace ha:=ha.new D4;replace ka:=ka.new D4;replace hb:=hb.new D4;replace kb:=kb.new D4;replace hbd:=hbd.new D4;have K4:=New.ge D4 C0.size;replace C0:=C0.tn D4;have hne_g2_g4:=E2.ne_ D4;replace E2:=E2.gr D4.mod;have hne_g3_g4:=E3.ne_ D4;replace E3:=E3.gr D4.mod;have E4:=D4.blk;clear D4
 refine L.b rfl<|L.z<|W.seq<|W.cut (ι:=Nat × Nat × Option Addr × Nat × Option Addr × Nat × Option Addr × Nat × Option Addr × Nat) (fun (x1,x2,A1,c1,B1,e1,A2,c2,B2,e2)=>[(4,.pointer (some ⟨g4,0,none⟩)),(6,.pointer (some ⟨x1,0,none⟩)),(7,.pointer (some ⟨x2,0,none⟩))]) (fun (x1,x2,A1,c1,B1,e1,A2,c2,B2,e2) w_=>Blk w_ g4 40 #[.bool false,.slice none 0 0,.slice none 0 0]∧Blk w_ x1 40 #[.bool (decide (qa.num<0)),.slice A1 (toL qa.num.natAbs).length c1,.slice B1 (toL qa.den).length e1]∧Blk w_ x2 40 #[.bool (decide (qb.num<0)),.slice A2 (toL qb.num.natAbs).length c2,.slice B2 (toL qb.den).length e2]∧U32 (x2 :: x1 :: g4 :: g3 :: g2 :: M) w_ (.slice A1 (toL qa.num.natAbs).length c1) (toL qa.num.natAbs)∧U32 (x2 :: x1 :: g4 :: g3 :: g2 :: M) w_ (.slice B1 (toL qa.den).length e1) (toL qa.den)∧U32 (x2 :: x1 :: g4 :: g3 :: g2 :: M) w_ (.slice A2 (toL qb.num.natAbs).length c2) (toL qb.num.natAbs)∧U32 (x2 :: x1 :: g4 :: g3 :: g2 :: M) w_ (.slice B2 (toL qb.den).length e2) (toL qb.den)∧Bd (x2 :: x1 :: g4 :: g3 :: g2 :: M) w_∧x1≠g4∧x2≠g4∧Mod [] w w_) ?_ ?_
 ·
  refine W.drawW (T:=[6,7]) rfl (by decide +kernel) (NoHang.join (NoHang.then NoHang.post)) (fun w4 C4=>?_)
  replace ha:=ha.gr C4;replace ka:=ka.gr C4;replace hb:=hb.gr C4;replace kb:=kb.gr C4;replace hbd:=hbd.gr C4;replace C0:=C0.trans C4;replace E2:=E2.gr C4;replace E3:=E3.gr C4;replace E4:=E4.gr C4
  have G1:Mod [] w4 w4:=Mod.refl _ _
  clear C4;have hb2_s:=E2;have hb3_s:=E3
  refine D.t 0 rfl (by kernel_rfl) (fun _ hS=>R1.loadBox rfl (hb2_s.gr hS) tyG40) G1<|D.t 2 rfl (by kernel_rfl) (fun _ hS=>R1.loadBox rfl (hb3_s.gr hS) tyG40) G1<|D.par2 1 3 4 5 rfl rfl rfl rfl (by decide +kernel) rfl rfl tyZ40 tyZ40 rfl rfl rfl G1 (F1:=fun wa v wb=>RN (List.range wa.heap.size) wb v qa) (F2:=fun wa v wb=>RN (List.range wa.heap.size) wb v qb) (fun wa hm=>c_ref2_Norm (M:=List.range wa.heap.size) hqa (ha.gr hm) (ka.gr hm) (range_bd _) (by omega) (by omega)) (fun wa hm=>c_ref2_Norm (M:=List.range wa.heap.size) hqb (hb.gr hm) (kb.gr hm) (range_bd _) (by omega) (by omega)) ?_
  intro v9 v11 g6 g7 wa1_ wb1_ wa2_ wb2_ w5 hP
  obtain ⟨A9,c9,B9,e9,rfl,I9,H9⟩:=hP.f1.par hP.n1 (hP.a1 hbd);obtain ⟨A11,c11,B11,e11,rfl,I11,H11⟩:=hP.f2.par hP.m3 (hP.a2 hbd);replace hb:=hb.par2 hP;replace hbd:=hbd.par2 hP;have K6:=Nat.le_trans C0.size hP.ge1;have K7:=Nat.le_trans C0.size hP.ge2;replace C0:=C0.trans (hP.mod.mono (by simp));have hne_g4_g6:=Nat.ne_of_lt (Nat.lt_of_lt_of_le (Blk.lt E4) hP.ge1);have hne_g4_g7:=Nat.ne_of_lt (Nat.lt_of_lt_of_le (Blk.lt E4) hP.ge2);replace E4:=E4.gr hP.mod;have hne_g6_g7:=hP.ne;have E6:=hP.blk1; have E7:=hP.blk2; clear hP
  refine D.one 6 rfl (by kernel_rfl) (fun hX=>?_)
  refine L.storeBox rfl rfl E6 rfl rfl tyG40 ?_
  intro w6 E6' C6
  replace hb:=hb.ms C6;replace hbd:=hbd.gr C6;replace C0:=C0.old1 C6 K6;replace E4:=E4.fr C6;replace E7:=E7.fr C6;replace I9:=I9.ms C6;replace H9:=H9.ms C6;replace I11:=I11.ms C6;replace H11:=H11.ms C6;clear C6;replace E6:=E6'; clear E6'
  refine L.nil (hX _ _ ⟨.inl rfl,?_⟩)
  refine D.one 7 rfl (by kernel_rfl) (fun hX=>?_)
  refine L.storeBox rfl rfl E7 rfl rfl tyG40 ?_
  intro w7 E7' C7
  replace hb:=hb.ms C7;replace hbd:=hbd.gr C7;replace C0:=C0.old1 C7 K7;replace E4:=E4.fr C7;replace I9:=I9.ms C7;replace H9:=H9.ms C7;replace I11:=I11.ms C7;replace H11:=H11.ms C7;replace E6:=E6.fr C7;clear C7;replace E7:=E7'; clear E7'
  refine L.nil (hX _ _ ⟨.inl rfl,?_⟩)
  refine D.done (by decide +kernel) ?_ _
  refine X.join (g6,g7,A9,c9,B9,e9,A11,c11,B11,e11) ?_ ?_
  · exact ⟨rfl,rfl,rfl,trivial⟩
  refine ⟨E4,E6,E7,(I9.sub (by intro b hb; simp only [List.mem_cons] at hb ⊢; rcases hb with h | h | h | h | h | h <;> simp [h])),(H9.sub (by intro b hb; simp only [List.mem_cons] at hb ⊢; rcases hb with h | h | h | h | h | h <;> simp [h])),(I11.sub (by intro b hb; simp only [List.mem_cons] at hb ⊢; rcases hb with h | h | h | h | h | h <;> simp [h])),(H11.sub (by intro b hb; simp only [List.mem_cons] at hb ⊢; rcases hb with h | h | h | h | h | h <;> simp [h])),(fun m hm=>hbd m (by simp only [List.mem_cons] at hm ⊢; rcases hm with h | h | h | h | h | h <;> simp [h])),(by first | exact (hne_g4_g6).symm | exact hne_g6_g4),(by first | exact (hne_g4_g7).symm | exact hne_g7_g4),C0⟩
 rintro ⟨x1,x2,A1,c1,B1,e1,A2,c2,B2,e2⟩ wj ⟨E4,hbx1,hbx2,I9,H9,I11,H11,hbd,hne_x1_g4,hne_x2_g4,C0⟩
 refine X.seq<|W.seq<|W.sr<|L.fA rfl tyF40_1<|L.lF rfl hbx2 rfl tyP38<|L.lU rfl (by assumption) Q38<|L.v ((R1.eq rfl rfl).asB (c:=false) (by rw [len0,decide_eq_false_iff_not,num_zero_iff]; exact h0)) rfl<|L.z<|W.condF rfl ?_
 refine W.skip<|X.seq<|W.seq<|W.drawW (T:=[16,17]) rfl (by decide +kernel) (NoHang.then NoHang.post) (fun w8 C8=>?_)
 replace E4:=E4.gr C8;replace hbx1:=hbx1.gr C8;replace hbx2:=hbx2.gr C8;replace I9:=I9.gr C8;replace H9:=H9.gr C8;replace I11:=I11.gr C8;replace H11:=H11.gr C8;replace hbd:=hbd.gr C8;replace C0:=C0.trans C8
 have G2:Mod [] w8 w8:=Mod.refl _ _
 clear C8;have hbx1_s:=hbx1;have hbx2_s:=hbx2
 refine D.t 0 rfl (by kernel_rfl) (fun _ hS=>R1.fieldAt rfl tyF40_0) G2<|D.t 1 rfl (by kernel_rfl) (fun _ hS=>R1.loadFld rfl (hbx1_s.gr hS) rfl tyP4) G2<|D.t 2 rfl (by kernel_rfl) (fun _ hS=>R1.fieldAt rfl tyF40_0) G2<|D.t 3 rfl (by kernel_rfl) (fun _ hS=>R1.loadFld rfl (hbx2_s.gr hS) rfl tyP4) G2<|D.t 4 rfl (by kernel_rfl) (fun _ hS=>R1.neB rfl rfl tyB4) G2<|D.t 5 rfl (by kernel_rfl) (fun _ hS=>R1.fieldAt rfl tyF40_1) G2<|D.t 6 rfl (by kernel_rfl) (fun _ hS=>R1.loadFld rfl (hbx1_s.gr hS) rfl tyP38) G2<|D.t 7 rfl (by kernel_rfl) (fun _ hS=>R1.fieldAt rfl tyF40_2) G2<|D.t 8 rfl (by kernel_rfl) (fun _ hS=>R1.loadFld rfl (hbx2_s.gr hS) rfl tyP38) G2<|D.t 10 rfl (by kernel_rfl) (fun _ hS=>R1.fieldAt rfl tyF40_2) G2<|D.t 11 rfl (by kernel_rfl) (fun _ hS=>R1.loadFld rfl (hbx1_s.gr hS) rfl tyP38) G2 ?_
 refine D.t 12 rfl (by kernel_rfl) (fun _ hS=>R1.fieldAt rfl tyF40_1) G2<|D.t 13 rfl (by kernel_rfl) (fun _ hS=>R1.loadFld rfl (hbx2_s.gr hS) rfl tyP38) G2<|D.one 9 rfl (by kernel_rfl) (fun hX=>?_)
 refine L.c rfl (c_r1_Mul I9 H11 hbd (by omega) (by omega)) ?_
 rintro v27 w9 ⟨h27,C9⟩
 replace E4:=E4.gr C9;replace H9:=H9.gr C9;replace I11:=I11.gr C9;replace hbd:=hbd.gr C9;replace C0:=C0.trans C9;replace G2:=G2.trans C9;clear C9
 rw [val_toL,val_toL] at h27
 refine L.nil (hX _ _ ⟨.inr G2,?_⟩)
 refine D.one 14 rfl (by kernel_rfl) (fun hX=>?_)
 refine L.c rfl (c_r1_Mul H9 I11 hbd (by omega) (by omega)) ?_
 rintro v32 w10 ⟨h32,C10⟩
 replace E4:=E4.gr C10;replace hbd:=hbd.gr C10;replace C0:=C0.trans C10;replace h27:=h27.gr C10;replace G2:=G2.trans C10;clear C10
 rw [val_toL,val_toL] at h32
 refine L.nil (hX _ _ ⟨.inr G2,?_⟩)
 refine D.one 15 rfl (by kernel_rfl) (fun hX=>?_)
 refine L.c rfl (c_ref2_Of (q:=qa / qb) (by rw [val_toL,val_toL]; exact div_num h0) h27 h32 hbd (by omega) (by omega)) ?_
 rintro _ w11 ⟨⟨A33,c33,B33,e33,rfl,I33,H33⟩,C11⟩
 replace E4:=E4.gr C11;replace C0:=C0.trans C11;replace G2:=G2.trans C11;clear C11
 refine L.nil (hX _ _ ⟨.inr G2,?_⟩)
 refine D.one 16 rfl (by kernel_rfl) (fun hX=>?_)
 refine L.storeBox rfl rfl E4 rfl rfl tyG40 ?_
 intro w12 E4' C12
 replace C0:=C0.old1 C12 K4;replace I33:=I33.ms C12;replace H33:=H33.ms C12;clear C12;replace E4:=E4'; clear E4'
 refine L.nil (hX _ _ ⟨.inl rfl,?_⟩)
 refine D.one 17 rfl (by kernel_rfl) (fun hX=>?_)
 refine L.a rfl rfl (L.nil (hX _ _ ⟨.inl rfl,?_⟩))
 refine D.done (by decide +kernel) ?_ _
 refine X.seq<|W.ret<|X.result2 rfl (.cell rfl (loadVar_blk E4 tyG40) (.tmp rfl .nil)) ?_
 exact ⟨_,rfl,RN.mk rfl (I33.sub (by intro b hb; simp [hb])) (H33.sub (by intro b hb; simp [hb])),C0⟩
theorem c_ref2_Large {M N9 : List Nat} {w : World} {s : Bool} {vn vd : Value} {xs ys : List Nat} {q : Rat} (hq : rv s (val xs) (val ys) = q) (h : U32 N9 w vn xs) (k : U32 N9 w vd ys) (hbd : Bd M w) (hl1 : xs.length ≤ 1099511627776) (hl2 : ys.length ≤ 1099511627776) :
    Ret Tryz.prog 55 #[.agg #[.bool s,vn,vd]] w (fun r w'=>r=.bool (largeB q)∧Mod [] w w'):=by
 refine Ret.of (vs:=[.agg #[.bool s,vn,vd]]) (n:=16) Tryz.func55 rfl rfl rfl rfl ?_
 have C0:Mod [] w w:=Mod.refl _ _
 refine W.sr<|L.box rfl rfl ?_
 intro g1 w1 D1
 replace h:=h.new D1;replace k:=k.new D1;replace hbd:=hbd.new D1;have K1:=New.ge D1 C0.size;replace C0:=C0.tn D1;have E1:=D1.blk;clear D1
 refine L.b rfl<|L.z<|W.sr<|L.v (R1.loadBox rfl E1 tyG40) rfl<|L.c rfl (c_ref2_Norm hq h k hbd (by omega) (by omega)) ?_
 rintro _ w2 ⟨⟨A5,c5,B5,e5,rfl,I5,H5⟩,C2⟩
 replace h:=h.gr C2;replace k:=k.gr C2;replace hbd:=hbd.gr C2;replace C0:=C0.trans C2;replace E1:=E1.gr C2;clear C2
 refine L.alloc tyZ40 rfl ?_
 intro g3 w3 D3
 replace h:=h.new D3;replace k:=k.new D3;replace hbd:=hbd.new D3;have K3:=New.ge D3 C0.size;replace C0:=C0.tn D3;have hne_g1_g3:=E1.ne_ D3;replace E1:=E1.gr D3.mod;replace I5:=I5.new D3;replace H5:=H5.new D3;have E3:=D3.blk;clear D3
 refine L.storeBox rfl rfl E3 rfl rfl tyG40 ?_
 intro w4 E3' C4
 replace h:=h.ms C4;replace k:=k.ms C4;replace hbd:=hbd.gr C4;replace C0:=C0.old1 C4 K3;replace E1:=E1.fr C4;replace I5:=I5.ms C4;replace H5:=H5.ms C4;clear C4;replace E3:=E3'; clear E3'
 refine L.z<|W.sr<|L.fA rfl tyF40_1<|L.lF rfl E3 rfl tyP38<|L.lU rfl (by assumption) Q38<|L.v ((R1.gt rfl rfl).asB (c:=decide (16<(toL q.num.natAbs).length)) (by congr 1; apply propext; omega)) rfl<|L.k rfl ?_
 cases W10:decide (16<(toL q.num.natAbs).length)
 ·
  have hcc_:=W10
  refine L.p rfl (R1.fieldAt rfl tyF40_2)<|L.p rfl (R1.loadFld rfl E3 rfl tyP38)<|L.p rfl (R1.lenU rfl (by assumption) Q38)<|L.p rfl ((R1.gt rfl rfl).asB (c:=decide (16<(toL q.den).length)) (by congr 1; apply propext; omega))<|L.pF rfl rfl<|L.b rfl<|L.z<|W.ret<|X.result1 rfl (.tmp rfl .nil) ?_
  exact ⟨by unfold largeB; rw [W10]; rfl,C0⟩
 have hcc_:=W10
 refine L.o rfl<|L.o rfl<|L.o rfl<|L.o rfl<|L.pT rfl rfl<|L.b rfl<|L.z<|W.ret<|X.result1 rfl (.tmp rfl .nil) ?_
 exact ⟨by unfold largeB; rw [W10]; rfl,C0⟩
end Go.Proofs.YthoooolflmbmbaaGreat
end
