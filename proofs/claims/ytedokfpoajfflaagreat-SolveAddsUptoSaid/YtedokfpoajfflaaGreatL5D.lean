/- Walks: what the functions compute. -/
import Derived.Test.YtedokfpoajfflaaGreatL5Y
import Derived.Test.YtedokfpoajfflaaGreatRowd
namespace Go.Proofs.YtedokfpoajfflaaGreat
open Go.RowKit
set_option linter.unusedVariables false
set_option linter.unusedSimpArgs false
set_option maxRecDepth 10000
theorem fillK1 (v1:Int) (T1:Option Addr) (l1 t1:Nat) (s1:Bool) (A1:Option Addr) (n1 c1:Nat) (B1:Option Addr) (m1 d1:Nat):Instr.fill (fun i=>some (i * 5,5)) ((Array.range (1 * 5)).map ((Value.agg #[.int .i64 0,.slice none 0 0,.bool false,.slice none 0 0,.slice none 0 0]).cells[· % (Value.agg #[.int .i64 0,.slice none 0 0,.bool false,.slice none 0 0,.slice none 0 0]).cells.size]!)) [(0,.agg #[.int .i64 v1,.slice T1 l1 t1,.bool s1,.slice A1 n1 c1,.slice B1 m1 d1])]=some #[.int .i64 v1,.slice T1 l1 t1,.bool s1,.slice A1 n1 c1,.slice B1 m1 d1]:=by kernel_rfl
theorem fillQ1s (s:Bool) (A:Option Addr) (n c:Nat) (B:Option Addr) (m d:Nat):Instr.fill (fun i=>some (i * 3,3)) ((Array.range (1 * 3)).map ((Value.agg #[.bool false,.slice none 0 0,.slice none 0 0]).cells[· % (Value.agg #[.bool false,.slice none 0 0,.slice none 0 0]).cells.size]!)) [(0,.agg #[.bool s,.slice A n c,.slice B m d])]=some #[.bool s,.slice A n c,.slice B m d]:=by kernel_rfl
theorem c_r13_WalkL {M:List Nat} {w:World} {vl vo:Value} {cs:List CR} {os:List Int} {z0:Int} (hL:Lay rdC M w vl cs) (hO:Lay rdI M w vo os) (hbd:Bd M w) (hsm:∀ c∈cs,SmC 1099511627776 c):Ret Tryz.prog 10 #[vl,vo,.int .i64 z0] w (fun r w'=>Lay rdI [] w' r (walZ z0 cs os)∧Mod [] w w'):=(c_r13_Walk hL hO hbd hsm).mono fun r w' ⟨h1,h2⟩=>⟨Lay.of_Z h1 (by simp),h2⟩
set_option maxHeartbeats 4000000 in
theorem c_SolveAdds {w : World} {vl vv : Value} {cs : List CR} {val : List QR} {sr : Bool} {Ar Br : Option Addr} {cr dr : Nat} {xr yr : List Nat} {qr : Rat} {z0 : Int} (hL : Lay rdC [] w vl cs) (hv : Lay rdQ [] w vv val) (hqr : rv sr (Go.Proofs.YtedokfpoajfflaaGreat.val xr) (Go.Proofs.YtedokfpoajfflaaGreat.val yr) = qr) (hr : U32 [] w (.slice Ar xr.length cr) xr) (kr : U32 [] w (.slice Br yr.length dr) yr) (hb : szCs cs ≤ 4194304) (hbv : szQs val ≤ 4194304) (hbr : xr.length + yr.length ≤ 4194303) :
    Ret Tryz.prog 3 #[vl,vv,.int .i64 z0,.agg #[.bool sr,.slice Ar xr.length cr,.slice Br yr.length dr]] w (fun r w'=>r=.bool true∧Mod [] w w'):=by
 have hbd:Bd [] w:=fun m hm=>by cases hm
 obtain ⟨TL,tL,rfl⟩:=hL.form;obtain ⟨TV,tV,rfl⟩:=hv.form;have hmaxL:=hL.max; unfold maxLen at hmaxL;have hmaxV:=hv.max; unfold maxLen at hmaxV
 refine Ret.of (vs:=[.slice TL cs.length tL,.slice TV val.length tV,.int .i64 z0,.agg #[.bool sr,.slice Ar xr.length cr,.slice Br yr.length dr]]) (n:=155) Tryz.func3 rfl rfl rfl rfl ?_
 have hm0:Mod [] w w:=Mod.refl _ _
 refine W.seq<|W.region<|L.box rfl rfl ?_
 intro g7 w1 hN7
 replace hL:=hL.new hN7;replace hv:=hv.new hN7;replace hr:=hr.new hN7;replace kr:=kr.new hN7;replace hbd:=hbd.new hN7;replace hm0:=hm0.trans (hN7.mod.mono (by simp));have hb7:=hN7.blk;clear hN7
 refine L.a rfl rfl<|L.nil<|X.seq<|W.seq<|W.region<|L.m rfl rfl<|L.v (R1.lenLay rfl hv tyS23) rfl<|L.a rfl rfl<|L.nil<|X.seq<|W.seq ?_
 refine W.seq<|W.region<|L.m rfl rfl<|L.call rfl (c_heavy_pantographlaw15 hL hb) rfl ?_
 rintro _ w2 ⟨rfl,hm2⟩
 replace hL:=hL.gr hm2;replace hv:=hv.gr hm2;replace hr:=hr.gr hm2;replace kr:=kr.gr hm2;replace hbd:=hbd.gr hm2;replace hm0:=hm0.trans hm2;replace hb7:=Blk.gr hb7 hm2;clear hm2
 refine L.m rfl rfl ?_
 cases hgd25:(decide (150<szCs cs))
 ·
  have hcc_:=hgd25
  refine L.on rfl rfl rfl (R1.move rfl) rfl<|L.callOn rfl rfl rfl rfl (c_many_pantographlaw15 hv hbv) rfl ?_
  rintro _ w3 ⟨b27,rfl,hb27,hm3⟩
  replace hL:=hL.gr hm3;replace hv:=hv.gr hm3;replace hr:=hr.gr hm3;replace kr:=kr.gr hm3;replace hbd:=hbd.gr hm3;replace hm0:=hm0.trans hm3;replace hb7:=Blk.gr hb7 hm3;clear hm3
  refine L.v (R1.pickF rfl rfl) rfl<|L.m rfl rfl ?_
  cases hgd29:b27
  ·
   have hcc_:=hgd29
   refine L.on rfl rfl rfl (R1.loadBox rfl hb7 tyG26) rfl<|L.guardOn rfl rfl rfl<|L.buildSlice (cells:=[.bool sr,.slice Ar xr.length cr,.slice Br yr.length dr]) rfl tyS23 tyZ26 (fillQ1s _ _ _ _ _ _ _) (by decide) (by decide) rfl ?_
   intro g31 w4 hN31
   replace hL:=hL.new hN31;replace hv:=hv.new hN31;replace hr:=hr.new hN31;replace kr:=kr.new hN31;replace hbd:=hbd.new hN31;replace hm0:=hm0.trans (hN31.mod.mono (by simp));replace hb7:=Blk.gr hb7 hN31.mod;have hb31:=hN31.blk;clear hN31
   have hQ31:Lay rdQ [] w4 (.slice (some ⟨g31,0,none⟩) 1 1) [(⟨sr,xr,yr⟩:QR)]:=Lay.of_blk (css:=[[.bool sr,.slice Ar xr.length cr,.slice Br yr.length dr]]) hb31 (LayL.one _ (⟨sr,xr,yr⟩:QR) ⟨_,_,rfl,hr.sub (M':=[]) (fun b hb=>by cases hb),kr.sub (M':=[]) (fun b hb=>by cases hb)⟩) rfl rfl (by decide) (by simp)
   refine L.callOn rfl rfl rfl rfl (c_many_pantographlaw15 hQ31 (by simp [szQs,szQ]; omega)) rfl ?_
   rintro _ w5 ⟨b32,rfl,hb32,hm5⟩
   replace hL:=hL.gr hm5;replace hv:=hv.gr hm5;replace hr:=hr.gr hm5;replace kr:=kr.gr hm5;replace hbd:=hbd.gr hm5;replace hm0:=hm0.trans hm5;replace hb7:=Blk.gr hb7 hm5;clear hm5
   refine L.v (R1.pickF rfl rfl) rfl<|L.m rfl rfl ?_
   cases hgd34:b32
   ·
    have hcc_:=hgd34
    refine L.on rfl rfl rfl (R1.move rfl) rfl<|L.on rfl rfl rfl (R1.lenLay rfl hL tyS22) rfl<|L.on rfl rfl rfl ((R1.gt rfl rfl).asB (c:=(decide ((8:Int)<(cs.length:Int)))) (rfl)) rfl<|L.v (R1.pickF rfl rfl) rfl<|L.m rfl rfl ?_
    cases hgd39:(decide ((8:Int)<(cs.length:Int)))
    ·
     have hcc_:=hgd39
     refine L.on rfl rfl rfl (R1.move rfl) rfl<|L.on rfl rfl rfl ((R1.lt rfl rfl).asB (c:=(decide ((val.length:Int)<1))) (rfl)) rfl<|L.v (R1.pickF rfl rfl) rfl<|L.m rfl rfl ?_
     cases hgd43:(decide ((val.length:Int)<1))
     ·
      have hcc_:=hgd43
      refine L.on rfl rfl rfl (R1.move rfl) rfl<|L.on rfl rfl rfl ((R1.gt rfl rfl).asB (c:=(decide ((8:Int)<(val.length:Int)))) (rfl)) rfl<|L.v (R1.pickF rfl rfl) rfl<|L.m rfl rfl ?_
      cases hgd47:(decide ((8:Int)<(val.length:Int)))
      ·
       have hcc_:=hgd47
       refine L.on rfl rfl rfl (R1.move rfl) rfl<|L.on rfl rfl rfl ((R1.lt rfl rfl).asB (c:=(decide (z0<0))) (rfl)) rfl<|L.v (R1.pickF rfl rfl) rfl<|L.m rfl rfl ?_
       cases hgd51:(decide (z0<0))
       ·
        have hcc_:=hgd51
        refine L.on rfl rfl rfl (R1.move rfl) rfl<|L.on rfl rfl rfl (R1.move rfl) rfl<|L.on rfl rfl rfl ((R1.ge rfl rfl).asB (c:=(decide ((val.length:Int)≤z0))) (rfl)) rfl<|L.v (R1.pickF rfl rfl) rfl<|L.nil<|X.seq<|W.cond rfl ?_ ?_
        ·
         intro hc55
         have hcc_:=hc55
         refine W.seq<|W.region<|L.a rfl rfl<|L.nil<|X.seq<|W.ret<|X.thenRet<|X.result1 rfl (.tmp rfl .nil) ?_
         exact ⟨rfl,hm0⟩
        intro hc55
        have hcc_:=hc55;have hsm:=sm150 (by simpa using hgd25);obtain ⟨hsv,hvl⟩:=(by first | exact hb27 rfl | exact hb27 hgd29:(∀ q∈val,SmQ 3 q)∧val.length≤100);have hsv3:=hsv;replace hsv:=sm316 hsv
        have hcl:cs.length≤12:=by have h9:=of_decide_eq_false hgd39; omega
        have hsmL:∀ c∈cs,SmC 1099511627776 c:=fun c hc=>smC_up (hsm c hc) (by decide)
        obtain ⟨hq3,_⟩:=(by first | exact hb32 rfl | exact hb32 hgd34:(∀ q∈[(⟨sr,xr,yr⟩:QR)],SmQ 3 q)∧_)
        have hs3:xr.length≤3∧yr.length≤3:=hq3 _ (List.mem_singleton.2 rfl)
        have FR:Fit qr 4:=Fit.rv hqr hr.2 kr.2 hs3.1 hs3.2
        have h91:=of_decide_eq_false hgd39;have h92:=of_decide_eq_false hgd43;have h93:=of_decide_eq_false hgd47;have h94:=of_decide_eq_false hgd51;have h95:=of_decide_eq_false hc55
        obtain ⟨v,rfl⟩:∃ v:Nat,z0=(v:Int):=⟨z0.toNat,by omega⟩
        have hvl:v<val.length:=by omega
        have hcl8:cs.length≤8:=by omega
        clear h91 h92 h93 h94 h95
        refine W.skip<|X.seq<|W.seq<|W.region<|L.m rfl rfl<|L.m rfl rfl<|L.call rfl (c_none hL (by omega)) rfl ?_
        rintro v59 w6 ⟨hO,hm6⟩
        replace hL:=hL.gr hm6;replace hv:=hv.gr hm6;replace hr:=hr.gr hm6;replace kr:=kr.gr hm6;replace hbd:=hbd.gr hm6;replace hm0:=hm0.trans hm6;replace hb7:=Blk.gr hb7 hm6;clear hm6
        refine L.m rfl rfl<|L.v (R1.build (vs:=[v59,.slice TV val.length tV]) rfl (built_S9 (lay_form' hO) ⟨_,_,_,rfl⟩ built_S2)) rfl<|L.call rfl (c_Phase (hL.sub (M':=[]) (fun b hb=>by cases hb)) (hO.sub (M':=[]) (fun b hb=>by cases hb)) (hv.sub (M':=[]) (fun b hb=>by cases hb)) (hbd.sub (M':=[]) (fun b hb=>by cases hb)) hsm hsv hcl) rfl ?_
        rintro _ w7 ⟨a62,b62,rfl,hA,hB,hm7⟩
        replace hL:=hL.gr hm7;replace hv:=hv.gr hm7;replace hr:=hr.gr hm7;replace kr:=kr.gr hm7;replace hbd:=hbd.gr hm7;replace hm0:=hm0.trans hm7;replace hb7:=Blk.gr hb7 hm7;clear hm7
        refine L.m rfl rfl<|L.v (R1.extract rfl rfl) rfl<|L.v (R1.extract rfl rfl) rfl<|L.v (R1.extract rfl rfl) rfl<|L.alloc tyZ31 rfl ?_
        intro g10 w8 hN10
        replace hL:=hL.new hN10;replace hv:=hv.new hN10;replace hr:=hr.new hN10;replace kr:=kr.new hN10;replace hbd:=hbd.new hN10;have hge_g10:=New.ge hN10 hm0.size;replace hm0:=hm0.trans (hN10.mod.mono (by simp));have hne_g7_g10:=hb7.ne_ hN10;replace hb7:=Blk.gr hb7 hN10.mod;replace hA:=hA.new hN10;replace hB:=hB.new hN10;have hb10:=hN10.blk;clear hN10
        refine L.storeBox rfl rfl hb10 rfl (one_S (lay_form' hA) (lay_form' hB)) tyG31 ?_
        intro w9 hb10' hm9
        replace hL:=hL.mod hm9 (by simp);replace hv:=hv.mod hm9 (by simp);replace hr:=hr.mod hm9 (by simp);replace kr:=kr.mod hm9 (by simp);replace hbd:=hbd.gr hm9;replace hm0:=hm0.old1 hm9 hge_g10;replace hb7:=Blk.far hb7 hm9 (by first | exact hne_g7_g10 | exact (hne_g10_g7).symm);replace hA:=hA.mod hm9 (by simp);replace hB:=hB.mod hm9 (by simp);clear hm9;replace hb10:=hb10'; clear hb10'
        refine L.a rfl rfl<|L.a rfl rfl<|L.nil<|X.seq<|W.seq<|W.seq<|W.region<|L.m rfl rfl<|L.v ((R1.ne rfl rfl).asB (c:=(decide ((phZ cs (List.replicate cs.length (-1)) val).2.2≠0))) (rfl)) rfl<|L.nil<|X.seq ?_
        refine W.cond rfl ?_ ?_
        ·
         intro hc67
         try simp only [bq,ne_eq] at hc67
         refine W.seq<|W.region<|L.m rfl rfl<|L.m rfl rfl<|L.call rfl (c_none hL (by omega)) rfl ?_
         rintro v71 w10 ⟨hO3,hm10⟩
         replace hL:=hL.gr hm10;replace hv:=hv.gr hm10;replace hbd:=hbd.gr hm10;replace hm0:=hm0.trans hm10;clear hm10
         refine L.m rfl rfl<|L.v (R1.build (vs:=[v71,.slice TV val.length tV]) rfl (built_S9 (lay_form' hO3) ⟨_,_,_,rfl⟩ built_T2)) rfl<|L.call rfl (c_r15_Phase (hL.sub (M':=[]) (fun b hb=>by cases hb)) (hO3.sub (M':=[]) (fun b hb=>by cases hb)) (hv.sub (M':=[]) (fun b hb=>by cases hb)) (hbd.sub (M':=[]) (fun b hb=>by cases hb)) hsm hsv) rfl ?_
         rintro _ w11 ⟨a74,b74,rfl,hA3,hB3,hm11⟩
         replace hm0:=hm0.trans hm11;clear hm11
         refine L.m rfl rfl<|L.v (R1.extract rfl rfl) rfl<|L.v (R1.extract rfl rfl) rfl<|L.v (R1.extract rfl rfl) rfl<|L.alloc tyZ36 rfl ?_
         intro g13 w12 hN13
         have hge_g13:=New.ge hN13 hm0.size;replace hm0:=hm0.trans (hN13.mod.mono (by simp));replace hA3:=hA3.new hN13;replace hB3:=hB3.new hN13;have hb13:=hN13.blk;clear hN13
         refine L.storeBox rfl rfl hb13 rfl (one_S (lay_form' hA3) (lay_form' hB3)) tyG36 ?_
         intro w13 hb13' hm13
         replace hm0:=hm0.old1 hm13 hge_g13;clear hm13;replace hb13:=hb13'; clear hb13'
         refine L.a rfl rfl<|L.a rfl rfl<|L.nil<|X.seq<|W.seq<|W.region<|L.m rfl rfl<|L.m rfl rfl<|L.v ((R1.eq rfl rfl).asB (c:=true) (decide_eq_true rfl)) rfl<|L.m rfl rfl<|L.callOn rfl rfl rfl rfl (c_known15) rfl ?_
         rintro _ w14 ⟨rfl,hm14⟩
         replace hm0:=hm0.trans hm14;clear hm14
         refine L.v (R1.pickT rfl rfl) rfl<|L.a rfl rfl<|L.nil<|X.seq<|W.ret<|X.thenRet<|X.result1 rfl (.tmp rfl .nil) ?_
         exact ⟨rfl,hm0⟩
        intro hc67
        try simp only [bq,ne_eq] at hc67
        have hok:(phZ cs (List.replicate cs.length (-1)) val).2.2=0:=by simpa using hc67
        have hok6:=phZ_ok hok;have hrl:=phZ_len hok;have hsZ:=phZ_s16 cs (List.replicate cs.length (-1)) hv hsv3
        have hCh:ChB (val.length:Int) cs (phZ cs (List.replicate cs.length (-1)) val).1.1=true:=by rw [hok6.2.2.2.2.2]; exact chb_set hok6.2.2.1
        have hOl:(phZ cs (List.replicate cs.length (-1)) val).1.1.length=cs.length:=(ChoZ.of hCh).len
        refine W.skip<|X.seq<|W.seq<|W.region<|L.m rfl rfl<|L.v (R1.fieldAt rfl tyF31_0) rfl<|L.v (R1.loadFld rfl hb10 rfl tyP29) rfl<|L.m rfl rfl<|L.call rfl (c_r13_WalkL (hL.sub (M':=[]) (fun b hb=>by cases hb)) (hA.sub (M':=[]) (fun b hb=>by cases hb)) (hbd.sub (M':=[]) (fun b hb=>by cases hb)) hsmL) rfl ?_
        rintro v88 w15 ⟨hW,hm15⟩
        replace hL:=hL.gr hm15;replace hr:=hr.gr hm15;replace kr:=kr.gr hm15;replace hbd:=hbd.gr hm15;replace hm0:=hm0.trans hm15;replace hb7:=Blk.gr hb7 hm15;replace hA:=hA.gr hm15;replace hB:=hB.gr hm15;replace hb10:=Blk.gr hb10 hm15;clear hm15
        refine L.a rfl rfl<|L.nil<|X.seq<|W.seq<|W.seq<|W.region<|L.m rfl rfl<|L.v (R1.lenLay rfl hW tyS29) rfl<|L.m rfl rfl<|L.v ((R1.ne rfl rfl).asB (c:=false) (by rw [walZ_len hCh]; simp)) rfl<|L.nil ?_
        refine X.seq<|W.condF rfl<|W.skip<|X.seq<|W.seq<|W.cut (ι:=Nat × Nat × Option Addr × Nat × Option Addr × Nat) (fun (g17,g96,A98,c98,B98,e98)=>[(0,.slice TL cs.length tL),(2,.int .i64 ((v:Nat):Int)),(7,.pointer (some ⟨g7,0,none⟩)),(9,.int .i64 ((val.length:Nat):Int)),(10,.pointer (some ⟨g10,0,none⟩)),(16,v88),(17,.pointer (some ⟨g17,0,none⟩))]) (fun (g17,g96,A98,c98,B98,e98) w_=>Lay rdC [] w_ (.slice TL cs.length tL) cs∧U32 [] w_ (.slice Ar xr.length cr) xr∧U32 [] w_ (.slice Br yr.length dr) yr∧Lay rdI [] w_ a62 (phZ cs (List.replicate cs.length (-1)) val).1.1∧Lay rdQ [] w_ b62 (phZ cs (List.replicate cs.length (-1)) val).1.2∧Lay rdI [] w_ v88 (walZ (val.length:Int) cs (phZ cs (List.replicate cs.length (-1)) val).1.1)∧Blk w_ g7 26 #[.bool sr,.slice Ar xr.length cr,.slice Br yr.length dr]∧Blk w_ g10 31 #[a62,b62]∧Lay rdT [] w_ (.slice (some ⟨g96,0,none⟩) 1 1) (addC v qr).ts∧U32 [] w_ (.slice A98 (toL (-qr).num.natAbs).length c98) (toL (-qr).num.natAbs)∧U32 [] w_ (.slice B98 (toL (-qr).den).length e98) (toL (-qr).den)∧Blk w_ g17 47 #[.int .i64 0,.slice (some ⟨g96,0,none⟩) 1 1,.bool (decide ((-qr).num<0)),.slice A98 (toL (-qr).num.natAbs).length c98,.slice B98 (toL (-qr).den).length e98]∧Bd [] w_∧Mod [] w w_) ?_ ?_
        ·
         refine W.drawW (T:=[8]) rfl (by decide +kernel) (NoHang.join (NoHang.then NoHang.post)) (fun w16 hm16=>?_)
         replace hL:=hL.gr hm16;replace hr:=hr.gr hm16;replace kr:=kr.gr hm16;replace hbd:=hbd.gr hm16;replace hm0:=hm0.trans hm16;replace hb7:=Blk.gr hb7 hm16;replace hA:=hA.gr hm16;replace hB:=hB.gr hm16;replace hb10:=Blk.gr hb10 hm16;replace hW:=hW.gr hm16
         have hS1:Mod [] w16 w16:=Mod.refl _ _
         clear hm16;have hb7_s:=hb7
         refine D.m 0 rfl (by kernel_rfl) rfl hS1 rfl<|D.take 4 rfl (by kernel_rfl) (fun w_ hS=>(R1.loadBox rfl (Blk.gr hb7_s hS) tyG26)) hS1 rfl<|D.many (rs:=[1,7]) (by decide +kernel) rfl ?_
         intro i_ hi_
         simp only [List.mem_cons,List.not_mem_nil,or_false] at hi_
         rcases hi_ with rfl | rfl
         ·
          refine ⟨_,rfl,fun hX=>?_⟩
          refine L.call rfl (c_ref2_Int (n:=1) (by decide) (by decide) hbd) rfl ?_
          rintro _ w17 ⟨⟨A94,c94,B94,e94,rfl,hn94,hd94⟩,hm17⟩
          replace hL:=hL.gr hm17;replace hr:=hr.gr hm17;replace kr:=kr.gr hm17;replace hbd:=hbd.gr hm17;replace hm0:=hm0.trans hm17;replace hb7:=Blk.gr hb7 hm17;replace hA:=hA.gr hm17;replace hB:=hB.gr hm17;replace hb10:=Blk.gr hb10 hm17;replace hW:=hW.gr hm17;replace hS1:=hS1.trans hm17;clear hm17;have F94:=Fit.int (n:=1) (by decide) (by decide)
          refine L.nil (hX _ _ ⟨.inr hS1,?_⟩)
          refine D.take 2 rfl (by kernel_rfl) (fun w_ hS=>(R1.build (vs:=[.int .i64 ((v:Nat):Int),.agg #[.bool (decide ((((1:Int)):Rat).num<0)),.slice A94 (toL (((1:Int)):Rat).num.natAbs).length c94,.slice B94 (toL (((1:Int)):Rat).den).length e94]]) rfl (built_T01 _ _ _ _ _ _ _ _))) hS1 rfl<|D.many (rs:=[3,5,7]) (by decide +kernel) rfl ?_
          intro i_ hi_
          simp only [List.mem_cons,List.not_mem_nil,or_false] at hi_
          rcases hi_ with rfl | rfl | rfl
          ·
           refine ⟨_,rfl,fun hX=>?_⟩
           refine L.buildSlice (cells:=[.int .i64 ((v:Nat):Int),.bool (decide ((((1:Int)):Rat).num<0)),.slice A94 (toL (((1:Int)):Rat).num.natAbs).length c94,.slice B94 (toL (((1:Int)):Rat).den).length e94]) rfl tyS44 tyZ43 (fillN1 _ _ _ _ _ _ _ _) (by decide) (by decide) rfl ?_
           intro g96 w18 hN96
           replace hS1:=hS1.trans hN96.mod;replace hL:=hL.new hN96;replace hr:=hr.new hN96;replace kr:=kr.new hN96;replace hbd:=hbd.new hN96;replace hm0:=hm0.trans (hN96.mod.mono (by simp));replace hb7:=Blk.gr hb7 hN96.mod;replace hA:=hA.new hN96;replace hB:=hB.new hN96;replace hb10:=Blk.gr hb10 hN96.mod;replace hW:=hW.new hN96;replace hn94:=hn94.new hN96;replace hd94:=hd94.new hN96;have hb96:=hN96.blk;clear hN96
           refine L.nil (hX _ _ ⟨.inr hS1,?_⟩)
           first | (have hT96:Lay rdT [g17] w18 (.slice (some ⟨g96,0,none⟩) 1 1) (addC v qr).ts:=Lay.of_blk (css:=[[.int .i64 ((v:Nat):Int),.bool (decide ((((1:Int)):Rat).num<0)),.slice A94 (toL (((1:Int)):Rat).num.natAbs).length c94,.slice B94 (toL (((1:Int)):Rat).den).length e94]]) hb96 (LayL.one _ (⟨((v:Nat):Int),QR.nf (((1:Int)):Rat)⟩:TR) (rdT_mk (t:=⟨((v:Nat):Int),QR.nf (((1:Int)):Rat)⟩) (hn94.sub (by simp)) (hd94.sub (by simp)))) rfl rfl (by decide) (by simp only [List.mem_singleton]; exact Ne.symm hne_g17_g96)) | (have hT96:Lay rdT [] w18 (.slice (some ⟨g96,0,none⟩) 1 1) (addC v qr).ts:=Lay.of_blk (css:=[[.int .i64 ((v:Nat):Int),.bool (decide ((((1:Int)):Rat).num<0)),.slice A94 (toL (((1:Int)):Rat).num.natAbs).length c94,.slice B94 (toL (((1:Int)):Rat).den).length e94]]) hb96 (LayL.one _ (⟨((v:Nat):Int),QR.nf (((1:Int)):Rat)⟩:TR) (rdT_mk (t:=⟨((v:Nat):Int),QR.nf (((1:Int)):Rat)⟩) (hn94.sub (fun b hb=>by cases hb)) (hd94.sub (fun b hb=>by cases hb)))) rfl rfl (by decide) (by simp))
           refine D.many (rs:=[5,7]) (by decide +kernel) rfl ?_
           intro i_ hi_
           simp only [List.mem_cons,List.not_mem_nil,or_false] at hi_
           rcases hi_ with rfl | rfl
           ·
            refine ⟨_,rfl,fun hX=>?_⟩
            refine L.call rfl (c_ref2_Neg (q:=qr) hqr hr kr hbd (by omega) (by omega)) rfl ?_
            rintro _ w19 ⟨⟨A98,c98,B98,e98,rfl,hn98,hd98⟩,hm19⟩
            replace hL:=hL.gr hm19;replace hr:=hr.gr hm19;replace kr:=kr.gr hm19;replace hbd:=hbd.gr hm19;replace hm0:=hm0.trans hm19;replace hb7:=Blk.gr hb7 hm19;replace hA:=hA.gr hm19;replace hB:=hB.gr hm19;replace hb10:=Blk.gr hb10 hm19;replace hW:=hW.gr hm19;replace hT96:=hT96.gr hm19;replace hS1:=hS1.trans hm19;clear hm19;have F98:=Fit.neg FR
            refine L.nil (hX _ _ ⟨.inr hS1,?_⟩)
            refine D.take 6 rfl (by kernel_rfl) (fun w_ hS=>(R1.build (vs:=[.slice (some ⟨g96,0,none⟩) 1 1,.agg #[.bool (decide ((-qr).num<0)),.slice A98 (toL (-qr).num.natAbs).length c98,.slice B98 (toL (-qr).den).length e98]]) rfl (built_C12 _ _ _ _ _ _ _ _ _ _))) hS1 rfl<|D.one 7 rfl (by kernel_rfl) (fun hX=>?_)
            refine L.alloc tyZ47 rfl ?_
            intro g17 w20 hN17
            replace hS1:=hS1.trans hN17.mod;replace hL:=hL.new hN17;replace hr:=hr.new hN17;replace kr:=kr.new hN17;replace hbd:=hbd.new hN17;have hge_g17:=New.ge hN17 hm0.size;replace hm0:=hm0.trans (hN17.mod.mono (by simp));have hne_g7_g17:=hb7.ne_ hN17;replace hb7:=Blk.gr hb7 hN17.mod;replace hA:=hA.new hN17;replace hB:=hB.new hN17;have hne_g10_g17:=hb10.ne_ hN17;replace hb10:=Blk.gr hb10 hN17.mod;replace hW:=hW.new hN17;replace hT96:=hT96.new hN17;replace hn98:=hn98.new hN17;replace hd98:=hd98.new hN17;have hb17:=hN17.blk;clear hN17
            refine L.nil (hX _ _ ⟨.inr hS1,?_⟩)
            refine D.one 8 rfl (by kernel_rfl) (fun hX=>?_)
            refine L.storeBox rfl rfl hb17 rfl rfl tyG47 ?_
            intro w21 hb17' hm21
            replace hL:=hL.mod hm21 (by simp);replace hr:=hr.mod hm21 (by simp);replace kr:=kr.mod hm21 (by simp);replace hbd:=hbd.gr hm21;replace hm0:=hm0.old1 hm21 hge_g17;replace hb7:=Blk.far hb7 hm21 (by first | exact hne_g7_g17 | exact (hne_g17_g7).symm);replace hA:=hA.mod hm21 (by simp);replace hB:=hB.mod hm21 (by simp);replace hb10:=Blk.far hb10 hm21 (by first | exact hne_g10_g17 | exact (hne_g17_g10).symm);replace hW:=hW.mod hm21 (by simp);replace hT96:=hT96.mod hm21 (by simp);replace hn98:=hn98.mod hm21 (by simp);replace hd98:=hd98.mod hm21 (by simp);clear hm21;replace hb17:=hb17'; clear hb17'
            refine L.nil (hX _ _ ⟨.inl rfl,?_⟩)
            refine D.done (by decide +kernel) ?_ _
            refine X.join (g17,g96,A98,c98,B98,e98) ?_ ?_
            · exact ⟨rfl,rfl,rfl,rfl,rfl,rfl,rfl,trivial⟩
            exact ⟨hL.sub (fun b hb=>by cases hb),hr.sub (fun b hb=>by cases hb),kr.sub (fun b hb=>by cases hb),hA.sub (fun b hb=>by cases hb),hB.sub (fun b hb=>by cases hb),hW.sub (fun b hb=>by cases hb),hb7,hb10,hT96.sub (fun b hb=>by cases hb),hn98.sub (fun b hb=>by cases hb),hd98.sub (fun b hb=>by cases hb),hb17,hbd.sub (fun b hb=>by cases hb),hm0⟩
           refine ⟨_,rfl,fun hX=>?_⟩
           refine L.alloc tyZ47 rfl ?_
           intro g17 w22 hN17
           replace hS1:=hS1.trans hN17.mod;replace hL:=hL.new hN17;replace hr:=hr.new hN17;replace kr:=kr.new hN17;replace hbd:=hbd.new hN17;have hge_g17:=New.ge hN17 hm0.size;replace hm0:=hm0.trans (hN17.mod.mono (by simp));have hne_g7_g17:=hb7.ne_ hN17;replace hb7:=Blk.gr hb7 hN17.mod;replace hA:=hA.new hN17;replace hB:=hB.new hN17;have hne_g10_g17:=hb10.ne_ hN17;replace hb10:=Blk.gr hb10 hN17.mod;replace hW:=hW.new hN17;replace hT96:=hT96.new hN17;have hb17:=hN17.blk;clear hN17
           refine L.nil (hX _ _ ⟨.inr hS1,?_⟩)
           refine D.one 5 rfl (by kernel_rfl) (fun hX=>?_)
           refine L.call rfl (c_ref2_Neg (q:=qr) hqr hr kr hbd (by omega) (by omega)) rfl ?_
           rintro _ w23 ⟨⟨A98,c98,B98,e98,rfl,hn98,hd98⟩,hm23⟩
           replace hL:=hL.gr hm23;replace hr:=hr.gr hm23;replace kr:=kr.gr hm23;replace hbd:=hbd.gr hm23;replace hm0:=hm0.trans hm23;replace hb7:=Blk.gr hb7 hm23;replace hA:=hA.gr hm23;replace hB:=hB.gr hm23;replace hb10:=Blk.gr hb10 hm23;replace hW:=hW.gr hm23;replace hT96:=hT96.gr hm23;replace hb17:=Blk.gr hb17 hm23;replace hS1:=hS1.trans hm23;clear hm23;have F98:=Fit.neg FR
           refine L.nil (hX _ _ ⟨.inr hS1,?_⟩)
           refine D.take 6 rfl (by kernel_rfl) (fun w_ hS=>(R1.build (vs:=[.slice (some ⟨g96,0,none⟩) 1 1,.agg #[.bool (decide ((-qr).num<0)),.slice A98 (toL (-qr).num.natAbs).length c98,.slice B98 (toL (-qr).den).length e98]]) rfl (built_C12 _ _ _ _ _ _ _ _ _ _))) hS1 rfl<|D.one 8 rfl (by kernel_rfl) (fun hX=>?_)
           refine L.storeBox rfl rfl hb17 rfl rfl tyG47 ?_
           intro w24 hb17' hm24
           replace hL:=hL.mod hm24 (by simp);replace hr:=hr.mod hm24 (by simp);replace kr:=kr.mod hm24 (by simp);replace hbd:=hbd.gr hm24;replace hm0:=hm0.old1 hm24 hge_g17;replace hb7:=Blk.far hb7 hm24 (by first | exact hne_g7_g17 | exact (hne_g17_g7).symm);replace hA:=hA.mod hm24 (by simp);replace hB:=hB.mod hm24 (by simp);replace hb10:=Blk.far hb10 hm24 (by first | exact hne_g10_g17 | exact (hne_g17_g10).symm);replace hW:=hW.mod hm24 (by simp);replace hT96:=hT96.mod hm24 (by simp);replace hn98:=hn98.mod hm24 (by simp);replace hd98:=hd98.mod hm24 (by simp);clear hm24;replace hb17:=hb17'; clear hb17'
           refine L.nil (hX _ _ ⟨.inl rfl,?_⟩)
           refine D.done (by decide +kernel) ?_ _
           refine X.join (g17,g96,A98,c98,B98,e98) ?_ ?_
           · exact ⟨rfl,rfl,rfl,rfl,rfl,rfl,rfl,trivial⟩
           exact ⟨hL.sub (fun b hb=>by cases hb),hr.sub (fun b hb=>by cases hb),kr.sub (fun b hb=>by cases hb),hA.sub (fun b hb=>by cases hb),hB.sub (fun b hb=>by cases hb),hW.sub (fun b hb=>by cases hb),hb7,hb10,hT96.sub (fun b hb=>by cases hb),hn98.sub (fun b hb=>by cases hb),hd98.sub (fun b hb=>by cases hb),hb17,hbd.sub (fun b hb=>by cases hb),hm0⟩
          ·
           refine ⟨_,rfl,fun hX=>?_⟩
           refine L.call rfl (c_ref2_Neg (q:=qr) hqr hr kr hbd (by omega) (by omega)) rfl ?_
           rintro _ w25 ⟨⟨A98,c98,B98,e98,rfl,hn98,hd98⟩,hm25⟩
           replace hL:=hL.gr hm25;replace hr:=hr.gr hm25;replace kr:=kr.gr hm25;replace hbd:=hbd.gr hm25;replace hm0:=hm0.trans hm25;replace hb7:=Blk.gr hb7 hm25;replace hA:=hA.gr hm25;replace hB:=hB.gr hm25;replace hb10:=Blk.gr hb10 hm25;replace hW:=hW.gr hm25;replace hn94:=hn94.gr hm25;replace hd94:=hd94.gr hm25;replace hS1:=hS1.trans hm25;clear hm25;have F98:=Fit.neg FR
           refine L.nil (hX _ _ ⟨.inr hS1,?_⟩)
           refine D.many (rs:=[3,7]) (by decide +kernel) rfl ?_
           intro i_ hi_
           simp only [List.mem_cons,List.not_mem_nil,or_false] at hi_
           rcases hi_ with rfl | rfl
           ·
            refine ⟨_,rfl,fun hX=>?_⟩
            refine L.buildSlice (cells:=[.int .i64 ((v:Nat):Int),.bool (decide ((((1:Int)):Rat).num<0)),.slice A94 (toL (((1:Int)):Rat).num.natAbs).length c94,.slice B94 (toL (((1:Int)):Rat).den).length e94]) rfl tyS44 tyZ43 (fillN1 _ _ _ _ _ _ _ _) (by decide) (by decide) rfl ?_
            intro g96 w26 hN96
            replace hS1:=hS1.trans hN96.mod;replace hL:=hL.new hN96;replace hr:=hr.new hN96;replace kr:=kr.new hN96;replace hbd:=hbd.new hN96;replace hm0:=hm0.trans (hN96.mod.mono (by simp));replace hb7:=Blk.gr hb7 hN96.mod;replace hA:=hA.new hN96;replace hB:=hB.new hN96;replace hb10:=Blk.gr hb10 hN96.mod;replace hW:=hW.new hN96;replace hn94:=hn94.new hN96;replace hd94:=hd94.new hN96;replace hn98:=hn98.new hN96;replace hd98:=hd98.new hN96;have hb96:=hN96.blk;clear hN96
            refine L.nil (hX _ _ ⟨.inr hS1,?_⟩)
            first | (have hT96:Lay rdT [g17] w26 (.slice (some ⟨g96,0,none⟩) 1 1) (addC v qr).ts:=Lay.of_blk (css:=[[.int .i64 ((v:Nat):Int),.bool (decide ((((1:Int)):Rat).num<0)),.slice A94 (toL (((1:Int)):Rat).num.natAbs).length c94,.slice B94 (toL (((1:Int)):Rat).den).length e94]]) hb96 (LayL.one _ (⟨((v:Nat):Int),QR.nf (((1:Int)):Rat)⟩:TR) (rdT_mk (t:=⟨((v:Nat):Int),QR.nf (((1:Int)):Rat)⟩) (hn94.sub (by simp)) (hd94.sub (by simp)))) rfl rfl (by decide) (by simp only [List.mem_singleton]; exact Ne.symm hne_g17_g96)) | (have hT96:Lay rdT [] w26 (.slice (some ⟨g96,0,none⟩) 1 1) (addC v qr).ts:=Lay.of_blk (css:=[[.int .i64 ((v:Nat):Int),.bool (decide ((((1:Int)):Rat).num<0)),.slice A94 (toL (((1:Int)):Rat).num.natAbs).length c94,.slice B94 (toL (((1:Int)):Rat).den).length e94]]) hb96 (LayL.one _ (⟨((v:Nat):Int),QR.nf (((1:Int)):Rat)⟩:TR) (rdT_mk (t:=⟨((v:Nat):Int),QR.nf (((1:Int)):Rat)⟩) (hn94.sub (fun b hb=>by cases hb)) (hd94.sub (fun b hb=>by cases hb)))) rfl rfl (by decide) (by simp))
            refine D.take 6 rfl (by kernel_rfl) (fun w_ hS=>(R1.build (vs:=[.slice (some ⟨g96,0,none⟩) 1 1,.agg #[.bool (decide ((-qr).num<0)),.slice A98 (toL (-qr).num.natAbs).length c98,.slice B98 (toL (-qr).den).length e98]]) rfl (built_C12 _ _ _ _ _ _ _ _ _ _))) hS1 rfl<|D.one 7 rfl (by kernel_rfl) (fun hX=>?_)
            refine L.alloc tyZ47 rfl ?_
            intro g17 w27 hN17
            replace hS1:=hS1.trans hN17.mod;replace hL:=hL.new hN17;replace hr:=hr.new hN17;replace kr:=kr.new hN17;replace hbd:=hbd.new hN17;have hge_g17:=New.ge hN17 hm0.size;replace hm0:=hm0.trans (hN17.mod.mono (by simp));have hne_g7_g17:=hb7.ne_ hN17;replace hb7:=Blk.gr hb7 hN17.mod;replace hA:=hA.new hN17;replace hB:=hB.new hN17;have hne_g10_g17:=hb10.ne_ hN17;replace hb10:=Blk.gr hb10 hN17.mod;replace hW:=hW.new hN17;replace hn98:=hn98.new hN17;replace hd98:=hd98.new hN17;replace hT96:=hT96.new hN17;have hb17:=hN17.blk;clear hN17
            refine L.nil (hX _ _ ⟨.inr hS1,?_⟩)
            refine D.one 8 rfl (by kernel_rfl) (fun hX=>?_)
            refine L.storeBox rfl rfl hb17 rfl rfl tyG47 ?_
            intro w28 hb17' hm28
            replace hL:=hL.mod hm28 (by simp);replace hr:=hr.mod hm28 (by simp);replace kr:=kr.mod hm28 (by simp);replace hbd:=hbd.gr hm28;replace hm0:=hm0.old1 hm28 hge_g17;replace hb7:=Blk.far hb7 hm28 (by first | exact hne_g7_g17 | exact (hne_g17_g7).symm);replace hA:=hA.mod hm28 (by simp);replace hB:=hB.mod hm28 (by simp);replace hb10:=Blk.far hb10 hm28 (by first | exact hne_g10_g17 | exact (hne_g17_g10).symm);replace hW:=hW.mod hm28 (by simp);replace hn98:=hn98.mod hm28 (by simp);replace hd98:=hd98.mod hm28 (by simp);replace hT96:=hT96.mod hm28 (by simp);clear hm28;replace hb17:=hb17'; clear hb17'
            refine L.nil (hX _ _ ⟨.inl rfl,?_⟩)
            refine D.done (by decide +kernel) ?_ _
            refine X.join (g17,g96,A98,c98,B98,e98) ?_ ?_
            · exact ⟨rfl,rfl,rfl,rfl,rfl,rfl,rfl,trivial⟩
            exact ⟨hL.sub (fun b hb=>by cases hb),hr.sub (fun b hb=>by cases hb),kr.sub (fun b hb=>by cases hb),hA.sub (fun b hb=>by cases hb),hB.sub (fun b hb=>by cases hb),hW.sub (fun b hb=>by cases hb),hb7,hb10,hT96.sub (fun b hb=>by cases hb),hn98.sub (fun b hb=>by cases hb),hd98.sub (fun b hb=>by cases hb),hb17,hbd.sub (fun b hb=>by cases hb),hm0⟩
           refine ⟨_,rfl,fun hX=>?_⟩
           refine L.alloc tyZ47 rfl ?_
           intro g17 w29 hN17
           replace hS1:=hS1.trans hN17.mod;replace hL:=hL.new hN17;replace hr:=hr.new hN17;replace kr:=kr.new hN17;replace hbd:=hbd.new hN17;have hge_g17:=New.ge hN17 hm0.size;replace hm0:=hm0.trans (hN17.mod.mono (by simp));have hne_g7_g17:=hb7.ne_ hN17;replace hb7:=Blk.gr hb7 hN17.mod;replace hA:=hA.new hN17;replace hB:=hB.new hN17;have hne_g10_g17:=hb10.ne_ hN17;replace hb10:=Blk.gr hb10 hN17.mod;replace hW:=hW.new hN17;replace hn94:=hn94.new hN17;replace hd94:=hd94.new hN17;replace hn98:=hn98.new hN17;replace hd98:=hd98.new hN17;have hb17:=hN17.blk;clear hN17
           refine L.nil (hX _ _ ⟨.inr hS1,?_⟩)
           refine D.one 3 rfl (by kernel_rfl) (fun hX=>?_)
           refine L.buildSlice (cells:=[.int .i64 ((v:Nat):Int),.bool (decide ((((1:Int)):Rat).num<0)),.slice A94 (toL (((1:Int)):Rat).num.natAbs).length c94,.slice B94 (toL (((1:Int)):Rat).den).length e94]) rfl tyS44 tyZ43 (fillN1 _ _ _ _ _ _ _ _) (by decide) (by decide) rfl ?_
           intro g96 w30 hN96
           replace hS1:=hS1.trans hN96.mod;replace hL:=hL.new hN96;replace hr:=hr.new hN96;replace kr:=kr.new hN96;replace hbd:=hbd.new hN96;replace hm0:=hm0.trans (hN96.mod.mono (by simp));replace hb7:=Blk.gr hb7 hN96.mod;replace hA:=hA.new hN96;replace hB:=hB.new hN96;replace hb10:=Blk.gr hb10 hN96.mod;replace hW:=hW.new hN96;replace hn94:=hn94.new hN96;replace hd94:=hd94.new hN96;replace hn98:=hn98.new hN96;replace hd98:=hd98.new hN96;have hne_g17_g96:=hb17.ne_ hN96;replace hb17:=Blk.gr hb17 hN96.mod;have hb96:=hN96.blk;clear hN96
           refine L.nil (hX _ _ ⟨.inr hS1,?_⟩)
           first | (have hT96:Lay rdT [g17] w30 (.slice (some ⟨g96,0,none⟩) 1 1) (addC v qr).ts:=Lay.of_blk (css:=[[.int .i64 ((v:Nat):Int),.bool (decide ((((1:Int)):Rat).num<0)),.slice A94 (toL (((1:Int)):Rat).num.natAbs).length c94,.slice B94 (toL (((1:Int)):Rat).den).length e94]]) hb96 (LayL.one _ (⟨((v:Nat):Int),QR.nf (((1:Int)):Rat)⟩:TR) (rdT_mk (t:=⟨((v:Nat):Int),QR.nf (((1:Int)):Rat)⟩) (hn94.sub (by simp)) (hd94.sub (by simp)))) rfl rfl (by decide) (by simp only [List.mem_singleton]; exact Ne.symm hne_g17_g96)) | (have hT96:Lay rdT [] w30 (.slice (some ⟨g96,0,none⟩) 1 1) (addC v qr).ts:=Lay.of_blk (css:=[[.int .i64 ((v:Nat):Int),.bool (decide ((((1:Int)):Rat).num<0)),.slice A94 (toL (((1:Int)):Rat).num.natAbs).length c94,.slice B94 (toL (((1:Int)):Rat).den).length e94]]) hb96 (LayL.one _ (⟨((v:Nat):Int),QR.nf (((1:Int)):Rat)⟩:TR) (rdT_mk (t:=⟨((v:Nat):Int),QR.nf (((1:Int)):Rat)⟩) (hn94.sub (fun b hb=>by cases hb)) (hd94.sub (fun b hb=>by cases hb)))) rfl rfl (by decide) (by simp))
           refine D.take 6 rfl (by kernel_rfl) (fun w_ hS=>(R1.build (vs:=[.slice (some ⟨g96,0,none⟩) 1 1,.agg #[.bool (decide ((-qr).num<0)),.slice A98 (toL (-qr).num.natAbs).length c98,.slice B98 (toL (-qr).den).length e98]]) rfl (built_C12 _ _ _ _ _ _ _ _ _ _))) hS1 rfl<|D.one 8 rfl (by kernel_rfl) (fun hX=>?_)
           refine L.storeBox rfl rfl hb17 rfl rfl tyG47 ?_
           intro w31 hb17' hm31
           replace hL:=hL.mod hm31 (by simp);replace hr:=hr.mod hm31 (by simp);replace kr:=kr.mod hm31 (by simp);replace hbd:=hbd.gr hm31;replace hm0:=hm0.old1 hm31 hge_g17;replace hb7:=Blk.far hb7 hm31 (by first | exact hne_g7_g17 | exact (hne_g17_g7).symm);replace hA:=hA.mod hm31 (by simp);replace hB:=hB.mod hm31 (by simp);replace hb10:=Blk.far hb10 hm31 (by first | exact hne_g10_g17 | exact (hne_g17_g10).symm);replace hW:=hW.mod hm31 (by simp);replace hn98:=hn98.mod hm31 (by simp);replace hd98:=hd98.mod hm31 (by simp);replace hT96:=hT96.mod hm31 (by simp);clear hm31;replace hb17:=hb17'; clear hb17'
           refine L.nil (hX _ _ ⟨.inl rfl,?_⟩)
           refine D.done (by decide +kernel) ?_ _
           refine X.join (g17,g96,A98,c98,B98,e98) ?_ ?_
           · exact ⟨rfl,rfl,rfl,rfl,rfl,rfl,rfl,trivial⟩
           exact ⟨hL.sub (fun b hb=>by cases hb),hr.sub (fun b hb=>by cases hb),kr.sub (fun b hb=>by cases hb),hA.sub (fun b hb=>by cases hb),hB.sub (fun b hb=>by cases hb),hW.sub (fun b hb=>by cases hb),hb7,hb10,hT96.sub (fun b hb=>by cases hb),hn98.sub (fun b hb=>by cases hb),hd98.sub (fun b hb=>by cases hb),hb17,hbd.sub (fun b hb=>by cases hb),hm0⟩
          refine ⟨_,rfl,fun hX=>?_⟩
          refine L.alloc tyZ47 rfl ?_
          intro g17 w32 hN17
          replace hS1:=hS1.trans hN17.mod;replace hL:=hL.new hN17;replace hr:=hr.new hN17;replace kr:=kr.new hN17;replace hbd:=hbd.new hN17;have hge_g17:=New.ge hN17 hm0.size;replace hm0:=hm0.trans (hN17.mod.mono (by simp));have hne_g7_g17:=hb7.ne_ hN17;replace hb7:=Blk.gr hb7 hN17.mod;replace hA:=hA.new hN17;replace hB:=hB.new hN17;have hne_g10_g17:=hb10.ne_ hN17;replace hb10:=Blk.gr hb10 hN17.mod;replace hW:=hW.new hN17;replace hn94:=hn94.new hN17;replace hd94:=hd94.new hN17;have hb17:=hN17.blk;clear hN17
          refine L.nil (hX _ _ ⟨.inr hS1,?_⟩)
          refine D.many (rs:=[3,5]) (by decide +kernel) rfl ?_
          intro i_ hi_
          simp only [List.mem_cons,List.not_mem_nil,or_false] at hi_
          rcases hi_ with rfl | rfl
          ·
           refine ⟨_,rfl,fun hX=>?_⟩
           refine L.buildSlice (cells:=[.int .i64 ((v:Nat):Int),.bool (decide ((((1:Int)):Rat).num<0)),.slice A94 (toL (((1:Int)):Rat).num.natAbs).length c94,.slice B94 (toL (((1:Int)):Rat).den).length e94]) rfl tyS44 tyZ43 (fillN1 _ _ _ _ _ _ _ _) (by decide) (by decide) rfl ?_
           intro g96 w33 hN96
           replace hS1:=hS1.trans hN96.mod;replace hL:=hL.new hN96;replace hr:=hr.new hN96;replace kr:=kr.new hN96;replace hbd:=hbd.new hN96;replace hm0:=hm0.trans (hN96.mod.mono (by simp));replace hb7:=Blk.gr hb7 hN96.mod;replace hA:=hA.new hN96;replace hB:=hB.new hN96;replace hb10:=Blk.gr hb10 hN96.mod;replace hW:=hW.new hN96;replace hn94:=hn94.new hN96;replace hd94:=hd94.new hN96;have hne_g17_g96:=hb17.ne_ hN96;replace hb17:=Blk.gr hb17 hN96.mod;have hb96:=hN96.blk;clear hN96
           refine L.nil (hX _ _ ⟨.inr hS1,?_⟩)
           first | (have hT96:Lay rdT [g17] w33 (.slice (some ⟨g96,0,none⟩) 1 1) (addC v qr).ts:=Lay.of_blk (css:=[[.int .i64 ((v:Nat):Int),.bool (decide ((((1:Int)):Rat).num<0)),.slice A94 (toL (((1:Int)):Rat).num.natAbs).length c94,.slice B94 (toL (((1:Int)):Rat).den).length e94]]) hb96 (LayL.one _ (⟨((v:Nat):Int),QR.nf (((1:Int)):Rat)⟩:TR) (rdT_mk (t:=⟨((v:Nat):Int),QR.nf (((1:Int)):Rat)⟩) (hn94.sub (by simp)) (hd94.sub (by simp)))) rfl rfl (by decide) (by simp only [List.mem_singleton]; exact Ne.symm hne_g17_g96)) | (have hT96:Lay rdT [] w33 (.slice (some ⟨g96,0,none⟩) 1 1) (addC v qr).ts:=Lay.of_blk (css:=[[.int .i64 ((v:Nat):Int),.bool (decide ((((1:Int)):Rat).num<0)),.slice A94 (toL (((1:Int)):Rat).num.natAbs).length c94,.slice B94 (toL (((1:Int)):Rat).den).length e94]]) hb96 (LayL.one _ (⟨((v:Nat):Int),QR.nf (((1:Int)):Rat)⟩:TR) (rdT_mk (t:=⟨((v:Nat):Int),QR.nf (((1:Int)):Rat)⟩) (hn94.sub (fun b hb=>by cases hb)) (hd94.sub (fun b hb=>by cases hb)))) rfl rfl (by decide) (by simp))
           refine D.one 5 rfl (by kernel_rfl) (fun hX=>?_)
           refine L.call rfl (c_ref2_Neg (q:=qr) hqr hr kr hbd (by omega) (by omega)) rfl ?_
           rintro _ w34 ⟨⟨A98,c98,B98,e98,rfl,hn98,hd98⟩,hm34⟩
           replace hL:=hL.gr hm34;replace hr:=hr.gr hm34;replace kr:=kr.gr hm34;replace hbd:=hbd.gr hm34;replace hm0:=hm0.trans hm34;replace hb7:=Blk.gr hb7 hm34;replace hA:=hA.gr hm34;replace hB:=hB.gr hm34;replace hb10:=Blk.gr hb10 hm34;replace hW:=hW.gr hm34;replace hb17:=Blk.gr hb17 hm34;replace hT96:=hT96.gr hm34;replace hS1:=hS1.trans hm34;clear hm34;have F98:=Fit.neg FR
           refine L.nil (hX _ _ ⟨.inr hS1,?_⟩)
           refine D.take 6 rfl (by kernel_rfl) (fun w_ hS=>(R1.build (vs:=[.slice (some ⟨g96,0,none⟩) 1 1,.agg #[.bool (decide ((-qr).num<0)),.slice A98 (toL (-qr).num.natAbs).length c98,.slice B98 (toL (-qr).den).length e98]]) rfl (built_C12 _ _ _ _ _ _ _ _ _ _))) hS1 rfl<|D.one 8 rfl (by kernel_rfl) (fun hX=>?_)
           refine L.storeBox rfl rfl hb17 rfl rfl tyG47 ?_
           intro w35 hb17' hm35
           replace hL:=hL.mod hm35 (by simp);replace hr:=hr.mod hm35 (by simp);replace kr:=kr.mod hm35 (by simp);replace hbd:=hbd.gr hm35;replace hm0:=hm0.old1 hm35 hge_g17;replace hb7:=Blk.far hb7 hm35 (by first | exact hne_g7_g17 | exact (hne_g17_g7).symm);replace hA:=hA.mod hm35 (by simp);replace hB:=hB.mod hm35 (by simp);replace hb10:=Blk.far hb10 hm35 (by first | exact hne_g10_g17 | exact (hne_g17_g10).symm);replace hW:=hW.mod hm35 (by simp);replace hT96:=hT96.mod hm35 (by simp);replace hn98:=hn98.mod hm35 (by simp);replace hd98:=hd98.mod hm35 (by simp);clear hm35;replace hb17:=hb17'; clear hb17'
           refine L.nil (hX _ _ ⟨.inl rfl,?_⟩)
           refine D.done (by decide +kernel) ?_ _
           refine X.join (g17,g96,A98,c98,B98,e98) ?_ ?_
           · exact ⟨rfl,rfl,rfl,rfl,rfl,rfl,rfl,trivial⟩
           exact ⟨hL.sub (fun b hb=>by cases hb),hr.sub (fun b hb=>by cases hb),kr.sub (fun b hb=>by cases hb),hA.sub (fun b hb=>by cases hb),hB.sub (fun b hb=>by cases hb),hW.sub (fun b hb=>by cases hb),hb7,hb10,hT96.sub (fun b hb=>by cases hb),hn98.sub (fun b hb=>by cases hb),hd98.sub (fun b hb=>by cases hb),hb17,hbd.sub (fun b hb=>by cases hb),hm0⟩
          refine ⟨_,rfl,fun hX=>?_⟩
          refine L.call rfl (c_ref2_Neg (q:=qr) hqr hr kr hbd (by omega) (by omega)) rfl ?_
          rintro _ w36 ⟨⟨A98,c98,B98,e98,rfl,hn98,hd98⟩,hm36⟩
          replace hL:=hL.gr hm36;replace hr:=hr.gr hm36;replace kr:=kr.gr hm36;replace hbd:=hbd.gr hm36;replace hm0:=hm0.trans hm36;replace hb7:=Blk.gr hb7 hm36;replace hA:=hA.gr hm36;replace hB:=hB.gr hm36;replace hb10:=Blk.gr hb10 hm36;replace hW:=hW.gr hm36;replace hn94:=hn94.gr hm36;replace hd94:=hd94.gr hm36;replace hb17:=Blk.gr hb17 hm36;replace hS1:=hS1.trans hm36;clear hm36;have F98:=Fit.neg FR
          refine L.nil (hX _ _ ⟨.inr hS1,?_⟩)
          refine D.one 3 rfl (by kernel_rfl) (fun hX=>?_)
          refine L.buildSlice (cells:=[.int .i64 ((v:Nat):Int),.bool (decide ((((1:Int)):Rat).num<0)),.slice A94 (toL (((1:Int)):Rat).num.natAbs).length c94,.slice B94 (toL (((1:Int)):Rat).den).length e94]) rfl tyS44 tyZ43 (fillN1 _ _ _ _ _ _ _ _) (by decide) (by decide) rfl ?_
          intro g96 w37 hN96
          replace hS1:=hS1.trans hN96.mod;replace hL:=hL.new hN96;replace hr:=hr.new hN96;replace kr:=kr.new hN96;replace hbd:=hbd.new hN96;replace hm0:=hm0.trans (hN96.mod.mono (by simp));replace hb7:=Blk.gr hb7 hN96.mod;replace hA:=hA.new hN96;replace hB:=hB.new hN96;replace hb10:=Blk.gr hb10 hN96.mod;replace hW:=hW.new hN96;replace hn94:=hn94.new hN96;replace hd94:=hd94.new hN96;have hne_g17_g96:=hb17.ne_ hN96;replace hb17:=Blk.gr hb17 hN96.mod;replace hn98:=hn98.new hN96;replace hd98:=hd98.new hN96;have hb96:=hN96.blk;clear hN96
          refine L.nil (hX _ _ ⟨.inr hS1,?_⟩)
          first | (have hT96:Lay rdT [g17] w37 (.slice (some ⟨g96,0,none⟩) 1 1) (addC v qr).ts:=Lay.of_blk (css:=[[.int .i64 ((v:Nat):Int),.bool (decide ((((1:Int)):Rat).num<0)),.slice A94 (toL (((1:Int)):Rat).num.natAbs).length c94,.slice B94 (toL (((1:Int)):Rat).den).length e94]]) hb96 (LayL.one _ (⟨((v:Nat):Int),QR.nf (((1:Int)):Rat)⟩:TR) (rdT_mk (t:=⟨((v:Nat):Int),QR.nf (((1:Int)):Rat)⟩) (hn94.sub (by simp)) (hd94.sub (by simp)))) rfl rfl (by decide) (by simp only [List.mem_singleton]; exact Ne.symm hne_g17_g96)) | (have hT96:Lay rdT [] w37 (.slice (some ⟨g96,0,none⟩) 1 1) (addC v qr).ts:=Lay.of_blk (css:=[[.int .i64 ((v:Nat):Int),.bool (decide ((((1:Int)):Rat).num<0)),.slice A94 (toL (((1:Int)):Rat).num.natAbs).length c94,.slice B94 (toL (((1:Int)):Rat).den).length e94]]) hb96 (LayL.one _ (⟨((v:Nat):Int),QR.nf (((1:Int)):Rat)⟩:TR) (rdT_mk (t:=⟨((v:Nat):Int),QR.nf (((1:Int)):Rat)⟩) (hn94.sub (fun b hb=>by cases hb)) (hd94.sub (fun b hb=>by cases hb)))) rfl rfl (by decide) (by simp))
          refine D.take 6 rfl (by kernel_rfl) (fun w_ hS=>(R1.build (vs:=[.slice (some ⟨g96,0,none⟩) 1 1,.agg #[.bool (decide ((-qr).num<0)),.slice A98 (toL (-qr).num.natAbs).length c98,.slice B98 (toL (-qr).den).length e98]]) rfl (built_C12 _ _ _ _ _ _ _ _ _ _))) hS1 rfl<|D.one 8 rfl (by kernel_rfl) (fun hX=>?_)
          refine L.storeBox rfl rfl hb17 rfl rfl tyG47 ?_
          intro w38 hb17' hm38
          replace hL:=hL.mod hm38 (by simp);replace hr:=hr.mod hm38 (by simp);replace kr:=kr.mod hm38 (by simp);replace hbd:=hbd.gr hm38;replace hm0:=hm0.old1 hm38 hge_g17;replace hb7:=Blk.far hb7 hm38 (by first | exact hne_g7_g17 | exact (hne_g17_g7).symm);replace hA:=hA.mod hm38 (by simp);replace hB:=hB.mod hm38 (by simp);replace hb10:=Blk.far hb10 hm38 (by first | exact hne_g10_g17 | exact (hne_g17_g10).symm);replace hW:=hW.mod hm38 (by simp);replace hn98:=hn98.mod hm38 (by simp);replace hd98:=hd98.mod hm38 (by simp);replace hT96:=hT96.mod hm38 (by simp);clear hm38;replace hb17:=hb17'; clear hb17'
          refine L.nil (hX _ _ ⟨.inl rfl,?_⟩)
          refine D.done (by decide +kernel) ?_ _
          refine X.join (g17,g96,A98,c98,B98,e98) ?_ ?_
          · exact ⟨rfl,rfl,rfl,rfl,rfl,rfl,rfl,trivial⟩
          exact ⟨hL.sub (fun b hb=>by cases hb),hr.sub (fun b hb=>by cases hb),kr.sub (fun b hb=>by cases hb),hA.sub (fun b hb=>by cases hb),hB.sub (fun b hb=>by cases hb),hW.sub (fun b hb=>by cases hb),hb7,hb10,hT96.sub (fun b hb=>by cases hb),hn98.sub (fun b hb=>by cases hb),hd98.sub (fun b hb=>by cases hb),hb17,hbd.sub (fun b hb=>by cases hb),hm0⟩
         refine ⟨_,rfl,fun hX=>?_⟩
         refine L.alloc tyZ47 rfl ?_
         intro g17 w39 hN17
         replace hS1:=hS1.trans hN17.mod;replace hL:=hL.new hN17;replace hr:=hr.new hN17;replace kr:=kr.new hN17;replace hbd:=hbd.new hN17;have hge_g17:=New.ge hN17 hm0.size;replace hm0:=hm0.trans (hN17.mod.mono (by simp));have hne_g7_g17:=hb7.ne_ hN17;replace hb7:=Blk.gr hb7 hN17.mod;replace hA:=hA.new hN17;replace hB:=hB.new hN17;have hne_g10_g17:=hb10.ne_ hN17;replace hb10:=Blk.gr hb10 hN17.mod;replace hW:=hW.new hN17;have hb17:=hN17.blk;clear hN17
         refine L.nil (hX _ _ ⟨.inr hS1,?_⟩)
         refine D.one 1 rfl (by kernel_rfl) (fun hX=>?_)
         refine L.call rfl (c_ref2_Int (n:=1) (by decide) (by decide) hbd) rfl ?_
         rintro _ w40 ⟨⟨A94,c94,B94,e94,rfl,hn94,hd94⟩,hm40⟩
         replace hL:=hL.gr hm40;replace hr:=hr.gr hm40;replace kr:=kr.gr hm40;replace hbd:=hbd.gr hm40;replace hm0:=hm0.trans hm40;replace hb7:=Blk.gr hb7 hm40;replace hA:=hA.gr hm40;replace hB:=hB.gr hm40;replace hb10:=Blk.gr hb10 hm40;replace hW:=hW.gr hm40;replace hb17:=Blk.gr hb17 hm40;replace hS1:=hS1.trans hm40;clear hm40;have F94:=Fit.int (n:=1) (by decide) (by decide)
         refine L.nil (hX _ _ ⟨.inr hS1,?_⟩)
         refine D.take 2 rfl (by kernel_rfl) (fun w_ hS=>(R1.build (vs:=[.int .i64 ((v:Nat):Int),.agg #[.bool (decide ((((1:Int)):Rat).num<0)),.slice A94 (toL (((1:Int)):Rat).num.natAbs).length c94,.slice B94 (toL (((1:Int)):Rat).den).length e94]]) rfl (built_T01 _ _ _ _ _ _ _ _))) hS1 rfl<|D.many (rs:=[3,5]) (by decide +kernel) rfl ?_
         intro i_ hi_
         simp only [List.mem_cons,List.not_mem_nil,or_false] at hi_
         rcases hi_ with rfl | rfl
         ·
          refine ⟨_,rfl,fun hX=>?_⟩
          refine L.buildSlice (cells:=[.int .i64 ((v:Nat):Int),.bool (decide ((((1:Int)):Rat).num<0)),.slice A94 (toL (((1:Int)):Rat).num.natAbs).length c94,.slice B94 (toL (((1:Int)):Rat).den).length e94]) rfl tyS44 tyZ43 (fillN1 _ _ _ _ _ _ _ _) (by decide) (by decide) rfl ?_
          intro g96 w41 hN96
          replace hS1:=hS1.trans hN96.mod;replace hL:=hL.new hN96;replace hr:=hr.new hN96;replace kr:=kr.new hN96;replace hbd:=hbd.new hN96;replace hm0:=hm0.trans (hN96.mod.mono (by simp));replace hb7:=Blk.gr hb7 hN96.mod;replace hA:=hA.new hN96;replace hB:=hB.new hN96;replace hb10:=Blk.gr hb10 hN96.mod;replace hW:=hW.new hN96;have hne_g17_g96:=hb17.ne_ hN96;replace hb17:=Blk.gr hb17 hN96.mod;replace hn94:=hn94.new hN96;replace hd94:=hd94.new hN96;have hb96:=hN96.blk;clear hN96
          refine L.nil (hX _ _ ⟨.inr hS1,?_⟩)
          first | (have hT96:Lay rdT [g17] w41 (.slice (some ⟨g96,0,none⟩) 1 1) (addC v qr).ts:=Lay.of_blk (css:=[[.int .i64 ((v:Nat):Int),.bool (decide ((((1:Int)):Rat).num<0)),.slice A94 (toL (((1:Int)):Rat).num.natAbs).length c94,.slice B94 (toL (((1:Int)):Rat).den).length e94]]) hb96 (LayL.one _ (⟨((v:Nat):Int),QR.nf (((1:Int)):Rat)⟩:TR) (rdT_mk (t:=⟨((v:Nat):Int),QR.nf (((1:Int)):Rat)⟩) (hn94.sub (by simp)) (hd94.sub (by simp)))) rfl rfl (by decide) (by simp only [List.mem_singleton]; exact Ne.symm hne_g17_g96)) | (have hT96:Lay rdT [] w41 (.slice (some ⟨g96,0,none⟩) 1 1) (addC v qr).ts:=Lay.of_blk (css:=[[.int .i64 ((v:Nat):Int),.bool (decide ((((1:Int)):Rat).num<0)),.slice A94 (toL (((1:Int)):Rat).num.natAbs).length c94,.slice B94 (toL (((1:Int)):Rat).den).length e94]]) hb96 (LayL.one _ (⟨((v:Nat):Int),QR.nf (((1:Int)):Rat)⟩:TR) (rdT_mk (t:=⟨((v:Nat):Int),QR.nf (((1:Int)):Rat)⟩) (hn94.sub (fun b hb=>by cases hb)) (hd94.sub (fun b hb=>by cases hb)))) rfl rfl (by decide) (by simp))
          refine D.one 5 rfl (by kernel_rfl) (fun hX=>?_)
          refine L.call rfl (c_ref2_Neg (q:=qr) hqr hr kr hbd (by omega) (by omega)) rfl ?_
          rintro _ w42 ⟨⟨A98,c98,B98,e98,rfl,hn98,hd98⟩,hm42⟩
          replace hL:=hL.gr hm42;replace hr:=hr.gr hm42;replace kr:=kr.gr hm42;replace hbd:=hbd.gr hm42;replace hm0:=hm0.trans hm42;replace hb7:=Blk.gr hb7 hm42;replace hA:=hA.gr hm42;replace hB:=hB.gr hm42;replace hb10:=Blk.gr hb10 hm42;replace hW:=hW.gr hm42;replace hb17:=Blk.gr hb17 hm42;replace hT96:=hT96.gr hm42;replace hS1:=hS1.trans hm42;clear hm42;have F98:=Fit.neg FR
          refine L.nil (hX _ _ ⟨.inr hS1,?_⟩)
          refine D.take 6 rfl (by kernel_rfl) (fun w_ hS=>(R1.build (vs:=[.slice (some ⟨g96,0,none⟩) 1 1,.agg #[.bool (decide ((-qr).num<0)),.slice A98 (toL (-qr).num.natAbs).length c98,.slice B98 (toL (-qr).den).length e98]]) rfl (built_C12 _ _ _ _ _ _ _ _ _ _))) hS1 rfl<|D.one 8 rfl (by kernel_rfl) (fun hX=>?_)
          refine L.storeBox rfl rfl hb17 rfl rfl tyG47 ?_
          intro w43 hb17' hm43
          replace hL:=hL.mod hm43 (by simp);replace hr:=hr.mod hm43 (by simp);replace kr:=kr.mod hm43 (by simp);replace hbd:=hbd.gr hm43;replace hm0:=hm0.old1 hm43 hge_g17;replace hb7:=Blk.far hb7 hm43 (by first | exact hne_g7_g17 | exact (hne_g17_g7).symm);replace hA:=hA.mod hm43 (by simp);replace hB:=hB.mod hm43 (by simp);replace hb10:=Blk.far hb10 hm43 (by first | exact hne_g10_g17 | exact (hne_g17_g10).symm);replace hW:=hW.mod hm43 (by simp);replace hT96:=hT96.mod hm43 (by simp);replace hn98:=hn98.mod hm43 (by simp);replace hd98:=hd98.mod hm43 (by simp);clear hm43;replace hb17:=hb17'; clear hb17'
          refine L.nil (hX _ _ ⟨.inl rfl,?_⟩)
          refine D.done (by decide +kernel) ?_ _
          refine X.join (g17,g96,A98,c98,B98,e98) ?_ ?_
          · exact ⟨rfl,rfl,rfl,rfl,rfl,rfl,rfl,trivial⟩
          exact ⟨hL.sub (fun b hb=>by cases hb),hr.sub (fun b hb=>by cases hb),kr.sub (fun b hb=>by cases hb),hA.sub (fun b hb=>by cases hb),hB.sub (fun b hb=>by cases hb),hW.sub (fun b hb=>by cases hb),hb7,hb10,hT96.sub (fun b hb=>by cases hb),hn98.sub (fun b hb=>by cases hb),hd98.sub (fun b hb=>by cases hb),hb17,hbd.sub (fun b hb=>by cases hb),hm0⟩
         refine ⟨_,rfl,fun hX=>?_⟩
         refine L.call rfl (c_ref2_Neg (q:=qr) hqr hr kr hbd (by omega) (by omega)) rfl ?_
         rintro _ w44 ⟨⟨A98,c98,B98,e98,rfl,hn98,hd98⟩,hm44⟩
         replace hL:=hL.gr hm44;replace hr:=hr.gr hm44;replace kr:=kr.gr hm44;replace hbd:=hbd.gr hm44;replace hm0:=hm0.trans hm44;replace hb7:=Blk.gr hb7 hm44;replace hA:=hA.gr hm44;replace hB:=hB.gr hm44;replace hb10:=Blk.gr hb10 hm44;replace hW:=hW.gr hm44;replace hb17:=Blk.gr hb17 hm44;replace hn94:=hn94.gr hm44;replace hd94:=hd94.gr hm44;replace hS1:=hS1.trans hm44;clear hm44;have F98:=Fit.neg FR
         refine L.nil (hX _ _ ⟨.inr hS1,?_⟩)
         refine D.one 3 rfl (by kernel_rfl) (fun hX=>?_)
         refine L.buildSlice (cells:=[.int .i64 ((v:Nat):Int),.bool (decide ((((1:Int)):Rat).num<0)),.slice A94 (toL (((1:Int)):Rat).num.natAbs).length c94,.slice B94 (toL (((1:Int)):Rat).den).length e94]) rfl tyS44 tyZ43 (fillN1 _ _ _ _ _ _ _ _) (by decide) (by decide) rfl ?_
         intro g96 w45 hN96
         replace hS1:=hS1.trans hN96.mod;replace hL:=hL.new hN96;replace hr:=hr.new hN96;replace kr:=kr.new hN96;replace hbd:=hbd.new hN96;replace hm0:=hm0.trans (hN96.mod.mono (by simp));replace hb7:=Blk.gr hb7 hN96.mod;replace hA:=hA.new hN96;replace hB:=hB.new hN96;replace hb10:=Blk.gr hb10 hN96.mod;replace hW:=hW.new hN96;have hne_g17_g96:=hb17.ne_ hN96;replace hb17:=Blk.gr hb17 hN96.mod;replace hn94:=hn94.new hN96;replace hd94:=hd94.new hN96;replace hn98:=hn98.new hN96;replace hd98:=hd98.new hN96;have hb96:=hN96.blk;clear hN96
         refine L.nil (hX _ _ ⟨.inr hS1,?_⟩)
         first | (have hT96:Lay rdT [g17] w45 (.slice (some ⟨g96,0,none⟩) 1 1) (addC v qr).ts:=Lay.of_blk (css:=[[.int .i64 ((v:Nat):Int),.bool (decide ((((1:Int)):Rat).num<0)),.slice A94 (toL (((1:Int)):Rat).num.natAbs).length c94,.slice B94 (toL (((1:Int)):Rat).den).length e94]]) hb96 (LayL.one _ (⟨((v:Nat):Int),QR.nf (((1:Int)):Rat)⟩:TR) (rdT_mk (t:=⟨((v:Nat):Int),QR.nf (((1:Int)):Rat)⟩) (hn94.sub (by simp)) (hd94.sub (by simp)))) rfl rfl (by decide) (by simp only [List.mem_singleton]; exact Ne.symm hne_g17_g96)) | (have hT96:Lay rdT [] w45 (.slice (some ⟨g96,0,none⟩) 1 1) (addC v qr).ts:=Lay.of_blk (css:=[[.int .i64 ((v:Nat):Int),.bool (decide ((((1:Int)):Rat).num<0)),.slice A94 (toL (((1:Int)):Rat).num.natAbs).length c94,.slice B94 (toL (((1:Int)):Rat).den).length e94]]) hb96 (LayL.one _ (⟨((v:Nat):Int),QR.nf (((1:Int)):Rat)⟩:TR) (rdT_mk (t:=⟨((v:Nat):Int),QR.nf (((1:Int)):Rat)⟩) (hn94.sub (fun b hb=>by cases hb)) (hd94.sub (fun b hb=>by cases hb)))) rfl rfl (by decide) (by simp))
         refine D.take 6 rfl (by kernel_rfl) (fun w_ hS=>(R1.build (vs:=[.slice (some ⟨g96,0,none⟩) 1 1,.agg #[.bool (decide ((-qr).num<0)),.slice A98 (toL (-qr).num.natAbs).length c98,.slice B98 (toL (-qr).den).length e98]]) rfl (built_C12 _ _ _ _ _ _ _ _ _ _))) hS1 rfl<|D.one 8 rfl (by kernel_rfl) (fun hX=>?_)
         refine L.storeBox rfl rfl hb17 rfl rfl tyG47 ?_
         intro w46 hb17' hm46
         replace hL:=hL.mod hm46 (by simp);replace hr:=hr.mod hm46 (by simp);replace kr:=kr.mod hm46 (by simp);replace hbd:=hbd.gr hm46;replace hm0:=hm0.old1 hm46 hge_g17;replace hb7:=Blk.far hb7 hm46 (by first | exact hne_g7_g17 | exact (hne_g17_g7).symm);replace hA:=hA.mod hm46 (by simp);replace hB:=hB.mod hm46 (by simp);replace hb10:=Blk.far hb10 hm46 (by first | exact hne_g10_g17 | exact (hne_g17_g10).symm);replace hW:=hW.mod hm46 (by simp);replace hn98:=hn98.mod hm46 (by simp);replace hd98:=hd98.mod hm46 (by simp);replace hT96:=hT96.mod hm46 (by simp);clear hm46;replace hb17:=hb17'; clear hb17'
         refine L.nil (hX _ _ ⟨.inl rfl,?_⟩)
         refine D.done (by decide +kernel) ?_ _
         refine X.join (g17,g96,A98,c98,B98,e98) ?_ ?_
         · exact ⟨rfl,rfl,rfl,rfl,rfl,rfl,rfl,trivial⟩
         exact ⟨hL.sub (fun b hb=>by cases hb),hr.sub (fun b hb=>by cases hb),kr.sub (fun b hb=>by cases hb),hA.sub (fun b hb=>by cases hb),hB.sub (fun b hb=>by cases hb),hW.sub (fun b hb=>by cases hb),hb7,hb10,hT96.sub (fun b hb=>by cases hb),hn98.sub (fun b hb=>by cases hb),hd98.sub (fun b hb=>by cases hb),hb17,hbd.sub (fun b hb=>by cases hb),hm0⟩
        rintro ⟨g17,g96,A98,c98,B98,e98⟩ wj ⟨hL,hr,kr,hA,hB,hW,hb7,hb10,hT96,hn98,hd98,hb17,hbd,hm0⟩
        refine X.seq<|W.seq<|W.drawW (T:=[17,18,19,21,22,23]) rfl (by decide +kernel) (NoHang.then NoHang.post) (fun w47 hm47=>?_)
        replace hL:=hL.gr hm47;replace hr:=hr.gr hm47;replace kr:=kr.gr hm47;replace hA:=hA.gr hm47;replace hB:=hB.gr hm47;replace hW:=hW.gr hm47;replace hb7:=Blk.gr hb7 hm47;replace hb10:=Blk.gr hb10 hm47;replace hT96:=hT96.gr hm47;replace hn98:=hn98.gr hm47;replace hd98:=hd98.gr hm47;replace hb17:=Blk.gr hb17 hm47;replace hbd:=hbd.gr hm47;replace hm0:=hm0.trans hm47
        have hS2:Mod [] w47 w47:=Mod.refl _ _
        clear hm47;have hb7_s:=hb7;have hb10_s:=hb10;have hb17_s:=hb17
        refine D.m 1 rfl (by kernel_rfl) rfl hS2 rfl<|D.take 3 rfl (by kernel_rfl) (fun w_ hS=>(R1.loadBox rfl (Blk.gr hb17_s hS) tyG47)) hS2 rfl<|D.take 7 rfl (by kernel_rfl) (fun w_ hS=>(R1.fieldAt rfl tyF31_0)) hS2 rfl<|D.take 8 rfl (by kernel_rfl) (fun w_ hS=>(R1.loadFld rfl (Blk.gr hb10_s hS) rfl tyP29)) hS2 rfl<|D.take 12 rfl (by kernel_rfl) (fun w_ hS=>(R1.fieldAt rfl tyF31_1)) hS2 rfl<|D.take 13 rfl (by kernel_rfl) (fun w_ hS=>(R1.loadFld rfl (Blk.gr hb10_s hS) rfl tyP23)) hS2 rfl ?_
        have hL9:=hL;obtain ⟨dss,hs2,hl2⟩:=hL9;have hrow:=Lay.rowI hA
        have hol9:(phZ cs (List.replicate cs.length (-1)) val).1.1.length≤12:=by rw [hOl]; omega
        refine D.rows (I:=[0,2,4,5,6,9,10,11,20]) (sl:=slA) (emb:=embA) (row:=(rowA 47 3 31 cs.length (phZ cs (List.replicate cs.length (-1)) val).1.1.length dss.flatten [.int .i64 0,.slice (some ⟨g96,0,none⟩) 1 1,.bool (decide ((-qr).num<0)),.slice A98 (toL (-qr).num.natAbs).length c98,.slice B98 (toL (-qr).den).length e98] (intsZ (phZ cs (List.replicate cs.length (-1)) val).1.1))) (cons:=consA) (last:=11) 9 20 (by kernel_rfl) rfl (by decide) (by decide) (by kernel_rfl) (fun i_ hi_=>?_) hS2 ?_
        · simp only [List.mem_cons,List.not_mem_nil,or_false] at hi_
          rcases hi_ with rfl | rfl | rfl | rfl | rfl | rfl | rfl | rfl | rfl
          · refine ⟨_,rfl,?_⟩
            refine RowStep.build (len:=0) (cells:=#[]) (fun _=>trivial) ?_ ?_
            · intro g9 w8 w9 hN9 hB9
              exact ⟨rfl,.inr ⟨_,0,#[],rfl,New.ge hN9 hB9,hN9.blk,Nat.le_refl _,by decide,rfl,rfl⟩⟩
            intro Q9 e8 w8 hI9 K9
            exact L.buildEmpty tyS22 rfl K9
          · refine ⟨_,rfl,?_⟩
            refine RowStep.app (a:=0) (m:=cs.length) (news:=dss.flatten) ⟨by decide,rfl⟩ (fun _=>trivial) rfl rfl (Nat.zero_add _).symm rfl ?_
            intro Q9 e8 w8 v8 hI9 hS9 hs9 hx9 ho9 K9
            exact L.append hx9 (hI9 102 _ rfl) ho9 (hs2.gr (by decide) hS9) (LayL.ones hl2) tyS22 tyZ47 (by simp only [rowA]; omega) (by simp only [rowA]; unfold maxLen; omega) hS9.size rfl K9
          · refine ⟨_,rfl,?_⟩
            refine RowStep.build (len:=1) (cells:=[.int .i64 0,.slice (some ⟨g96,0,none⟩) 1 1,.bool (decide ((-qr).num<0)),.slice A98 (toL (-qr).num.natAbs).length c98,.slice B98 (toL (-qr).den).length e98].toArray) (fun _=>trivial) ?_ ?_
            · intro g9 w8 w9 hN9 hB9
              exact own_lit hN9.blk (New.ge hN9 hB9) rfl
            intro Q9 e8 w8 hI9 K9
            exact L.buildSlice (vs:=[.agg #[.int .i64 0,.slice (some ⟨g96,0,none⟩) 1 1,.bool (decide ((-qr).num<0)),.slice A98 (toL (-qr).num.natAbs).length c98,.slice B98 (toL (-qr).den).length e98]]) (cells:=[.int .i64 0,.slice (some ⟨g96,0,none⟩) 1 1,.bool (decide ((-qr).num<0)),.slice A98 (toL (-qr).num.natAbs).length c98,.slice B98 (toL (-qr).den).length e98]) (evl_inc hI9 rfl) tyS22 tyZ47 (fillK1 _ _ _ _ _ _ _ _ _ _ _) (by decide) (by decide) rfl K9
          · refine ⟨_,rfl,?_⟩
            refine RowStep.app (a:=2) (m:=1) (news:=[.int .i64 0,.slice (some ⟨g96,0,none⟩) 1 1,.bool (decide ((-qr).num<0)),.slice A98 (toL (-qr).num.natAbs).length c98,.slice B98 (toL (-qr).den).length e98]) ⟨by decide,rfl⟩ (fun _=>trivial) rfl rfl rfl rfl ?_
            intro Q9 e8 w8 v8 hI9 hS9 hs9 hx9 ho9 K9
            obtain ⟨u9,hy9,hz9⟩:=hs9 4 ⟨by decide,rfl⟩
            have hz8:Sl [] w8 5 u9 1 [.int .i64 0,.slice (some ⟨g96,0,none⟩) 1 1,.bool (decide ((-qr).num<0)),.slice A98 (toL (-qr).num.natAbs).length c98,.slice B98 (toL (-qr).den).length e98]:=Sl.of_own (M:=[]) hz9 (fun g h8 h7=>by cases h7)
            exact L.append hx9 hy9 ho9 hz8 (by intro c hc; simp only [List.mem_cons,List.not_mem_nil,or_false] at hc; rcases hc with rfl | rfl | rfl | rfl | rfl <;> rfl) tyS22 tyZ47 (by simp only [rowA]; omega) (by simp only [rowA]; unfold maxLen; omega) hS9.size rfl K9
          · refine ⟨_,rfl,?_⟩
            refine RowStep.build (len:=0) (cells:=#[]) (fun _=>trivial) ?_ ?_
            · intro g9 w8 w9 hN9 hB9
              exact ⟨rfl,.inr ⟨_,0,#[],rfl,New.ge hN9 hB9,hN9.blk,Nat.le_refl _,by decide,rfl,rfl⟩⟩
            intro Q9 e8 w8 hI9 K9
            exact L.buildEmpty tyS29 rfl K9
          · refine ⟨_,rfl,?_⟩
            refine RowStep.app (a:=6) (m:=(phZ cs (List.replicate cs.length (-1)) val).1.1.length) (news:=(intsZ (phZ cs (List.replicate cs.length (-1)) val).1.1)) ⟨by decide,rfl⟩ (fun _=>trivial) rfl rfl (Nat.zero_add _).symm rfl ?_
            intro Q9 e8 w8 v8 hI9 hS9 hs9 hx9 ho9 K9
            exact L.append hx9 (hI9 109 _ rfl) ho9 (hrow.gr (by decide) hS9) (intsZ_one _) tyS29 tyZ3 (by simp only [rowA]; omega) (by simp only [rowA]; unfold maxLen; omega) hS9.size rfl K9
          · refine ⟨_,rfl,?_⟩
            refine RowStep.build (len:=1) (cells:=[.int .i64 (-1)].toArray) (fun _=>trivial) ?_ ?_
            · intro g9 w8 w9 hN9 hB9
              exact own_lit hN9.blk (New.ge hN9 hB9) rfl
            intro Q9 e8 w8 hI9 K9
            exact L.build1 rfl rfl tyS29 tyZ3 rfl K9
          · refine ⟨_,rfl,?_⟩
            refine RowStep.app (a:=9) (m:=1) (news:=[.int .i64 (-1)]) ⟨by decide,rfl⟩ (fun _=>trivial) rfl rfl rfl rfl ?_
            intro Q9 e8 w8 v8 hI9 hS9 hs9 hx9 ho9 K9
            obtain ⟨u9,hy9,hz9⟩:=hs9 10 ⟨by decide,rfl⟩
            have hz8:Sl [] w8 1 u9 1 [.int .i64 (-1)]:=Sl.of_own (M:=[]) hz9 (fun g h8 h7=>by cases h7)
            exact L.append hx9 hy9 ho9 hz8 (by simp [Value.oneCell']) tyS29 tyZ3 (by simp only [rowA]; omega) (by simp only [rowA]; unfold maxLen; omega) hS9.size rfl K9
          refine ⟨_,rfl,?_⟩
          refine RowStep.build (len:=1) (cells:=[.slice none 0 0,.slice none 0 0].toArray) (by intro g; exact ⟨g,rfl⟩) ?_ ?_
          · intro g9 w8 w9 hN9 hB9
            exact own_lit hN9.blk (New.ge hN9 hB9) rfl
          intro Q9 e8 w8 hI9 K9
          exact L.alloc tyZ31 rfl K9
        intro b9 e9 w48 hI9 hm9 hv9
        obtain ⟨vals9,hv9,haw9⟩:=hv9;obtain ⟨hk5,ho5,_⟩:=hv9 5 ⟨by decide,.inr (by decide),by decide⟩;obtain ⟨hk11,ho11,_⟩:=hv9 11 ⟨by decide,.inr (by decide),by decide⟩
        cases b9
        ·
         clear hv9 haw9
         generalize vals9 5=v106 at hk5 ho5
         generalize vals9 11=v112 at hk11 ho11
         refine D.inc (Inc.put (d:=112) hk11 (Inc.put (d:=106) hk5 hI9)) ?_
         clear hk5 hk11 hI9
         have hM:Lay rdC [] w48 v106 (cs ++ [addC v qr]):=Lay.of_own (css:=dss ++ [[.int .i64 0,.slice (some ⟨g96,0,none⟩) 1 1,.bool (decide ((-qr).num<0)),.slice A98 (toL (-qr).num.natAbs).length c98,.slice B98 (toL (-qr).den).length e98]]) (own_congr ho5 (by simp [rowA]) (by simp [rowA])) ((LayL.gr hl2 hm9).append (LayL.one _ (addC v qr) (rdC_mk (c:=addC v qr) (Lay.gr hT96 hm9) (U32.gr hn98 hm9) (U32.gr hd98 hm9)))) (by simp)
         have hN:Lay rdI [] w48 v112 ((phZ cs (List.replicate cs.length (-1)) val).1.1 ++ [-1]):=Lay.of_Z (own_congr (k':=(phZ cs (List.replicate cs.length (-1)) val).1.1.length + 1) ho11 rfl (by simp [rowA,intsZ])) (by simp)
         clear ho5 ho11 hs2 hl2 hrow;replace hr:=hr.gr hm9;replace kr:=kr.gr hm9;replace hB:=hB.gr hm9;replace hW:=hW.gr hm9;replace hb7:=Blk.gr hb7 hm9;replace hbd:=hbd.gr hm9;replace hm0:=hm0.trans hm9;replace hS2:=hS2.trans hm9;clear hm9
         refine D.take 14 rfl (by kernel_rfl) (fun w_ hS=>(R1.build (vs:=[v112,b62]) rfl (built_S9 (lay_form' hN) (lay_form' hB) built_S2))) hS2 rfl<|D.many (rs:=[15,20]) (by decide +kernel) rfl ?_
         intro i_ hi_
         simp only [List.mem_cons,List.not_mem_nil,or_false] at hi_
         rcases hi_ with rfl | rfl
         ·
          refine ⟨_,rfl,fun hX=>?_⟩
          have hsZ2:=phZ_s17 (cs ++ [addC v qr]) ((phZ cs (List.replicate cs.length (-1)) val).1.1 ++ [-1]) hB hsZ
          refine L.call rfl (c_Phase (M:=[]) (hM.sub (M':=[]) (by intro b hb; first | (cases hb; done) | (simp only [List.mem_cons,List.not_mem_nil,or_false] at hb ⊢; simp [hb]))) (hN.sub (M':=[]) (by intro b hb; first | (cases hb; done) | (simp only [List.mem_cons,List.not_mem_nil,or_false] at hb ⊢; simp [hb]))) (hB.sub (M':=[]) (by intro b hb; first | (cases hb; done) | (simp only [List.mem_cons,List.not_mem_nil,or_false] at hb ⊢; simp [hb]))) (hbd.sub (M':=[]) (by intro b hb; first | (cases hb; done) | (simp only [List.mem_cons,List.not_mem_nil,or_false] at hb ⊢; simp [hb]))) (add_sm hsm FR) hsZ (by simp; omega)) rfl ?_
          rintro _ w49 ⟨a116,b116,rfl,hA2,hB2,hm49⟩
          replace hr:=hr.gr hm49;replace kr:=kr.gr hm49;replace hW:=hW.gr hm49;replace hb7:=Blk.gr hb7 hm49;replace hbd:=hbd.gr hm49;replace hm0:=hm0.trans hm49;replace hS2:=hS2.trans hm49;clear hm49
          refine L.nil (hX _ _ ⟨.inr hS2,?_⟩)
          refine D.m 16 rfl (by kernel_rfl) rfl hS2 rfl<|D.takeW 17 rfl (by kernel_rfl) rfl (fun w_=>(R1.extract rfl rfl)) rfl<|D.takeW 18 rfl (by kernel_rfl) rfl (fun w_=>(R1.extract rfl rfl)) rfl<|D.takeW 19 rfl (by kernel_rfl) rfl (fun w_=>(R1.extract rfl rfl)) rfl<|D.one 20 rfl (by kernel_rfl) (fun hX=>?_)
          refine L.alloc tyZ31 rfl ?_
          intro g18 w50 hN18
          replace hS2:=hS2.trans hN18.mod;replace hr:=hr.new hN18;replace kr:=kr.new hN18;replace hW:=hW.new hN18;have hne_g7_g18:=hb7.ne_ hN18;replace hb7:=Blk.gr hb7 hN18.mod;replace hbd:=hbd.new hN18;have hge_g18:=New.ge hN18 hm0.size;replace hm0:=hm0.trans (hN18.mod.mono (by simp));replace hA2:=hA2.new hN18;replace hB2:=hB2.new hN18;have hb18:=hN18.blk;clear hN18
          refine L.nil (hX _ _ ⟨.inr hS2,?_⟩)
          refine D.one 21 rfl (by kernel_rfl) (fun hX=>?_)
          refine L.storeBox rfl rfl hb18 rfl (one_S (lay_form' hA2) (lay_form' hB2)) tyG31 ?_
          intro w51 hb18' hm51
          replace hr:=hr.mod hm51 (by simp);replace kr:=kr.mod hm51 (by simp);replace hW:=hW.mod hm51 (by simp);replace hb7:=Blk.far hb7 hm51 (by first | exact hne_g7_g18 | exact (hne_g18_g7).symm);replace hbd:=hbd.gr hm51;replace hm0:=hm0.old1 hm51 hge_g18;replace hB2:=hB2.mod hm51 (by simp);clear hm51;replace hb18:=hb18'; clear hb18'
          refine L.nil (hX _ _ ⟨.inl rfl,?_⟩)
          refine D.one 22 rfl (by kernel_rfl) (fun hX=>?_)
          refine L.a rfl rfl (L.nil (hX _ _ ⟨.inl rfl,?_⟩))
          refine D.one 23 rfl (by kernel_rfl) (fun hX=>?_)
          refine L.a rfl rfl (L.nil (hX _ _ ⟨.inl rfl,?_⟩))
          refine D.done (by decide +kernel) ?_ _
          refine X.seq<|W.seq<|W.seq<|W.region<|L.m rfl rfl<|L.m rfl rfl<|L.v (R1.atLay (j:=v) rfl rfl hW tyS29 rfl (by rw [walZ_len hCh]; exact hvl)) rfl<|L.v (R1.loadLI rfl hW tyP3 (by rw [walZ_len hCh]; exact hvl) (walZ_get hCh _)) rfl<|L.v ((R1.eq rfl rfl).asB (c:=(decide (strZ val.length cs (phZ cs (List.replicate cs.length (-1)) val).1.1 v=0))) (rfl)) rfl<|L.nil<|X.seq ?_
          refine W.cond rfl ?_ ?_
          ·
           intro hc124
           try simp only [bq,ne_eq] at hc124
           refine W.seq<|W.region<|L.m rfl rfl<|L.v ((R1.eq rfl rfl).asB (c:=true) (decide_eq_true (adds_forced hok (by omega) hvl hc124))) rfl<|L.m rfl rfl<|L.callOn rfl rfl rfl rfl (c_known15) rfl ?_
           rintro _ w52 ⟨rfl,hm52⟩
           replace hm0:=hm0.trans hm52;clear hm52
           refine L.v (R1.pickT rfl rfl) rfl<|L.a rfl rfl<|L.nil<|X.seq<|W.ret<|X.thenRet<|X.result1 rfl (.tmp rfl .nil) ?_
           exact ⟨rfl,hm0⟩
          intro hc124
          try simp only [bq,ne_eq] at hc124
          have hah:=adds_holds (qv:=qr) hok (by omega) hvl hc124
          refine W.skip<|X.seq<|W.seq<|W.drawW (T:=[]) rfl (by decide +kernel) (NoHang.then NoHang.post) (fun w53 hm53=>?_)
          replace hr:=hr.gr hm53;replace kr:=kr.gr hm53;replace hb7:=Blk.gr hb7 hm53;replace hbd:=hbd.gr hm53;replace hm0:=hm0.trans hm53;replace hB2:=hB2.gr hm53;replace hb18:=Blk.gr hb18 hm53
          have hS3:Mod [] w53 w53:=Mod.refl _ _
          clear hm53;have kr_s:=kr;have hb7_s:=hb7;have hB2_s:=hB2;have hb18_s:=hb18
          refine D.m 0 rfl (by kernel_rfl) rfl hS3 rfl<|D.take 1 rfl (by kernel_rfl) (fun w_ hS=>((R1.eq rfl rfl).asB (c:=(decide ((phZ (cs ++ [addC v qr]) ((phZ cs (List.replicate cs.length (-1)) val).1.1 ++ [-1]) (phZ cs (List.replicate cs.length (-1)) val).1.2).2.2=8))) (rfl))) hS3 rfl<|D.m 2 rfl (by kernel_rfl) rfl hS3 rfl ?_
          cases hgd132:(decide ((phZ (cs ++ [addC v qr]) ((phZ cs (List.replicate cs.length (-1)) val).1.1 ++ [-1]) (phZ cs (List.replicate cs.length (-1)) val).1.2).2.2=8))
          ·
           try simp only [bq,ne_eq] at hgd132
           refine D.takeOn 3 rfl rfl rfl rfl (by kernel_rfl) (fun w_ hS=>(R1.move rfl)) hS3 rfl<|D.takeOn 4 rfl rfl rfl rfl (by kernel_rfl) (fun w_ hS=>((R1.eq rfl rfl).asB (c:=true) (decide_eq_true (hah.resolve_left hgd132).1))) hS3 rfl<|D.takeOn 5 rfl rfl rfl rfl (by kernel_rfl) (fun w_ hS=>(R1.move rfl)) hS3 rfl<|D.takeOn 6 rfl rfl rfl rfl (by kernel_rfl) (fun w_ hS=>(R1.fieldAt rfl tyF31_1)) hS3 rfl<|D.takeOn 7 rfl rfl rfl rfl (by kernel_rfl) (fun w_ hS=>(R1.loadFld rfl (Blk.gr hb18_s hS) rfl tyP23)) hS3 rfl<|D.takeOn 8 rfl rfl rfl rfl (by kernel_rfl) (fun w_ hS=>(R1.lenLay rfl (Lay.gr hB2_s hS) tyS23)) hS3 rfl<|D.takeOn 9 rfl rfl rfl rfl (by kernel_rfl) (fun w_ hS=>(R1.move rfl)) hS3 rfl<|D.takeOn 10 rfl rfl rfl rfl (by kernel_rfl) (fun w_ hS=>((R1.eq rfl rfl).asB (c:=true) (decide_eq_true (by rw [(hah.resolve_left hgd132).2.1])))) hS3 rfl<|D.takeOn 11 rfl rfl rfl rfl (by kernel_rfl) (fun w_ hS=>(R1.pickT rfl rfl)) hS3 rfl<|D.takeOn 12 rfl rfl rfl rfl (by kernel_rfl) (fun w_ hS=>(R1.move rfl)) hS3 rfl<|D.takeOn 13 rfl rfl rfl rfl (by kernel_rfl) (fun w_ hS=>(R1.fieldAt rfl tyF31_1)) hS3 rfl ?_
           refine D.takeOn 14 rfl rfl rfl rfl (by kernel_rfl) (fun w_ hS=>(R1.loadFld rfl (Blk.gr hb18_s hS) rfl tyP23)) hS3 rfl<|D.takeOn 15 rfl rfl rfl rfl (by kernel_rfl) (fun w_ hS=>(R1.move rfl)) hS3 rfl<|D.takeOn 16 rfl rfl rfl rfl (by kernel_rfl) (fun w_ hS=>(R1.atLay (j:=v) rfl rfl (Lay.gr hB2_s hS) tyS23 rfl (by rw [(hah.resolve_left hgd132).2.1]; exact hvl))) hS3 rfl ?_
           obtain ⟨z147,cs147,hz147,hE147,vn147,vd147,rfl,hn147,hd147⟩:=Lay.elemQ hB2_s (j:=v) (by rw [(hah.resolve_left hgd132).2.1]; exact hvl);obtain ⟨A147,c147,rfl⟩:=hn147.form;obtain ⟨B147,e147,rfl⟩:=hd147.form;replace hn147:=hn147.gr hS3;replace hd147:=hd147.gr hS3
           refine D.takeOn 17 rfl rfl rfl rfl (by kernel_rfl) (fun w_ hS=>(R1.loadE rfl (SlE.gr hE147 hS) tyG26)) hS3 rfl<|D.takeOn 18 rfl rfl rfl rfl (by kernel_rfl) (fun w_ hS=>(R1.loadBox rfl (Blk.gr hb7_s hS) tyG26)) hS3 rfl<|D.one 19 rfl (by kernel_rfl) (fun hX=>?_)
           refine L.callOn rfl rfl rfl rfl ((c_ref2_Same (qa:=(QR.val z147)) (qb:=qr) rfl hqr hn147 hd147 hr kr hbd (Nat.le_trans (hsZ2 _ (List.mem_of_getElem? hz147)).1 (by decide)) (Nat.le_trans (hsZ2 _ (List.mem_of_getElem? hz147)).2 (by decide)) (by omega) (by omega)).mono (R':=fun r w'=>r=.bool true∧Mod [] w53 w') (fun r w' h9=>⟨h9.1.trans (congrArg Value.bool (decide_eq_true ((hah.resolve_left hgd132).2.2 _ hz147))),h9.2⟩)) rfl ?_
           rintro _ w54 ⟨rfl,hm54⟩
           replace hm0:=hm0.trans hm54;replace hS3:=hS3.trans hm54;clear hm54
           refine L.nil (hX _ _ ⟨.inr hS3,?_⟩)
           refine D.takeOn 20 rfl rfl rfl rfl (by kernel_rfl) (fun w_ hS=>(R1.pickT rfl rfl)) hS3 rfl<|D.take 21 rfl (by kernel_rfl) (fun w_ hS=>(R1.pickF rfl rfl)) hS3 rfl<|D.m 22 rfl (by kernel_rfl) rfl hS3 rfl<|D.one 23 rfl (by kernel_rfl) (fun hX=>?_)
           refine L.callOn rfl rfl rfl rfl (c_known15) rfl ?_
           rintro _ w55 ⟨rfl,hm55⟩
           replace hm0:=hm0.trans hm55;replace hS3:=hS3.trans hm55;clear hm55
           refine L.nil (hX _ _ ⟨.inr hS3,?_⟩)
           refine D.take 24 rfl (by kernel_rfl) (fun w_ hS=>(R1.pickT rfl rfl)) hS3 rfl<|D.take 25 rfl (by kernel_rfl) (fun w_ hS=>(R1.assign rfl)) hS3 rfl<|D.done (by decide +kernel) ?_ _
           refine X.seq<|W.ret<|X.result1 rfl (.tmp rfl .nil) ?_
           exact ⟨rfl,hm0⟩
          try simp only [bq,ne_eq] at hgd132
          refine D.off 3 rfl rfl rfl rfl rfl (by kernel_rfl) hS3 rfl<|D.off 4 rfl rfl rfl rfl rfl (by kernel_rfl) hS3 rfl<|D.off 5 rfl rfl rfl rfl rfl (by kernel_rfl) hS3 rfl<|D.offU 6 rfl rfl rfl rfl (by kernel_rfl) hS3 rfl<|D.offU 7 rfl rfl rfl rfl (by kernel_rfl) hS3 rfl<|D.offU 8 rfl rfl rfl rfl (by kernel_rfl) hS3 rfl<|D.offU 9 rfl rfl rfl rfl (by kernel_rfl) hS3 rfl<|D.offU 10 rfl rfl rfl rfl (by kernel_rfl) hS3 rfl<|D.off 11 rfl rfl rfl rfl rfl (by kernel_rfl) hS3 rfl<|D.off 12 rfl rfl rfl rfl rfl (by kernel_rfl) hS3 rfl<|D.offU 13 rfl rfl rfl rfl (by kernel_rfl) hS3 rfl ?_
          refine D.offU 14 rfl rfl rfl rfl (by kernel_rfl) hS3 rfl<|D.offU 15 rfl rfl rfl rfl (by kernel_rfl) hS3 rfl<|D.offU 16 rfl rfl rfl rfl (by kernel_rfl) hS3 rfl<|D.offU 17 rfl rfl rfl rfl (by kernel_rfl) hS3 rfl<|D.offU 18 rfl rfl rfl rfl (by kernel_rfl) hS3 rfl<|D.offU 19 rfl rfl rfl rfl (by kernel_rfl) hS3 rfl<|D.off 20 rfl rfl rfl rfl rfl (by kernel_rfl) hS3 rfl<|D.take 21 rfl (by kernel_rfl) (fun w_ hS=>(R1.pickT rfl rfl)) hS3 rfl<|D.m 22 rfl (by kernel_rfl) rfl hS3 rfl<|D.one 23 rfl (by kernel_rfl) (fun hX=>?_)
          refine L.callOn rfl rfl rfl rfl (c_known15) rfl ?_
          rintro _ w56 ⟨rfl,hm56⟩
          replace hm0:=hm0.trans hm56;replace hS3:=hS3.trans hm56;clear hm56
          refine L.nil (hX _ _ ⟨.inr hS3,?_⟩)
          refine D.take 24 rfl (by kernel_rfl) (fun w_ hS=>(R1.pickT rfl rfl)) hS3 rfl<|D.take 25 rfl (by kernel_rfl) (fun w_ hS=>(R1.assign rfl)) hS3 rfl<|D.done (by decide +kernel) ?_ _
          refine X.seq<|W.ret<|X.result1 rfl (.tmp rfl .nil) ?_
          exact ⟨rfl,hm0⟩
         refine ⟨_,rfl,fun hX=>?_⟩
         refine L.alloc tyZ31 rfl ?_
         intro g18 w57 hN18
         replace hS2:=hS2.trans hN18.mod;replace hr:=hr.new hN18;replace kr:=kr.new hN18;replace hB:=hB.new hN18;replace hW:=hW.new hN18;have hne_g7_g18:=hb7.ne_ hN18;replace hb7:=Blk.gr hb7 hN18.mod;replace hbd:=hbd.new hN18;have hge_g18:=New.ge hN18 hm0.size;replace hm0:=hm0.trans (hN18.mod.mono (by simp));replace hM:=hM.new hN18;replace hN:=hN.new hN18;have hb18:=hN18.blk;clear hN18
         refine L.nil (hX _ _ ⟨.inr hS2,?_⟩)
         refine D.one 15 rfl (by kernel_rfl) (fun hX=>?_)
         have hsZ2:=phZ_s17 (cs ++ [addC v qr]) ((phZ cs (List.replicate cs.length (-1)) val).1.1 ++ [-1]) hB hsZ
         refine L.call rfl (c_Phase (M:=[g18]) (hM.sub (M':=[g18]) (by intro b hb; first | (cases hb; done) | (simp only [List.mem_cons,List.not_mem_nil,or_false] at hb ⊢; simp [hb]))) (hN.sub (M':=[g18]) (by intro b hb; first | (cases hb; done) | (simp only [List.mem_cons,List.not_mem_nil,or_false] at hb ⊢; simp [hb]))) (hB.sub (M':=[g18]) (by intro b hb; first | (cases hb; done) | (simp only [List.mem_cons,List.not_mem_nil,or_false] at hb ⊢; simp [hb]))) (hbd.sub (M':=[g18]) (by intro b hb; first | (cases hb; done) | (simp only [List.mem_cons,List.not_mem_nil,or_false] at hb ⊢; simp [hb]))) (add_sm hsm FR) hsZ (by simp; omega)) rfl ?_
         rintro _ w58 ⟨a116,b116,rfl,hA2,hB2,hm58⟩
         replace hr:=hr.gr hm58;replace kr:=kr.gr hm58;replace hW:=hW.gr hm58;replace hb7:=Blk.gr hb7 hm58;replace hbd:=hbd.gr hm58;replace hm0:=hm0.trans hm58;replace hb18:=Blk.gr hb18 hm58;replace hS2:=hS2.trans hm58;clear hm58
         refine L.nil (hX _ _ ⟨.inr hS2,?_⟩)
         refine D.m 16 rfl (by kernel_rfl) rfl hS2 rfl<|D.takeW 17 rfl (by kernel_rfl) rfl (fun w_=>(R1.extract rfl rfl)) rfl<|D.takeW 18 rfl (by kernel_rfl) rfl (fun w_=>(R1.extract rfl rfl)) rfl<|D.takeW 19 rfl (by kernel_rfl) rfl (fun w_=>(R1.extract rfl rfl)) rfl<|D.one 21 rfl (by kernel_rfl) (fun hX=>?_)
         refine L.storeBox rfl rfl hb18 rfl (one_S (lay_form' hA2) (lay_form' hB2)) tyG31 ?_
         intro w59 hb18' hm59
         replace hr:=hr.mod hm59 (by simp);replace kr:=kr.mod hm59 (by simp);replace hW:=hW.mod hm59 (by simp);replace hb7:=Blk.far hb7 hm59 (by first | exact hne_g7_g18 | exact (hne_g18_g7).symm);replace hbd:=hbd.gr hm59;replace hm0:=hm0.old1 hm59 hge_g18;replace hB2:=hB2.mod hm59 (by simp);clear hm59;replace hb18:=hb18'; clear hb18'
         refine L.nil (hX _ _ ⟨.inl rfl,?_⟩)
         refine D.one 22 rfl (by kernel_rfl) (fun hX=>?_)
         refine L.a rfl rfl (L.nil (hX _ _ ⟨.inl rfl,?_⟩))
         refine D.one 23 rfl (by kernel_rfl) (fun hX=>?_)
         refine L.a rfl rfl (L.nil (hX _ _ ⟨.inl rfl,?_⟩))
         refine D.done (by decide +kernel) ?_ _
         refine X.seq<|W.seq<|W.seq<|W.region<|L.m rfl rfl<|L.m rfl rfl<|L.v (R1.atLay (j:=v) rfl rfl hW tyS29 rfl (by rw [walZ_len hCh]; exact hvl)) rfl<|L.v (R1.loadLI rfl hW tyP3 (by rw [walZ_len hCh]; exact hvl) (walZ_get hCh _)) rfl<|L.v ((R1.eq rfl rfl).asB (c:=(decide (strZ val.length cs (phZ cs (List.replicate cs.length (-1)) val).1.1 v=0))) (rfl)) rfl<|L.nil<|X.seq ?_
         refine W.cond rfl ?_ ?_
         ·
          intro hc124
          try simp only [bq,ne_eq] at hc124
          refine W.seq<|W.region<|L.m rfl rfl<|L.v ((R1.eq rfl rfl).asB (c:=true) (decide_eq_true (adds_forced hok (by omega) hvl hc124))) rfl<|L.m rfl rfl<|L.callOn rfl rfl rfl rfl (c_known15) rfl ?_
          rintro _ w60 ⟨rfl,hm60⟩
          replace hm0:=hm0.trans hm60;clear hm60
          refine L.v (R1.pickT rfl rfl) rfl<|L.a rfl rfl<|L.nil<|X.seq<|W.ret<|X.thenRet<|X.result1 rfl (.tmp rfl .nil) ?_
          exact ⟨rfl,hm0⟩
         intro hc124
         try simp only [bq,ne_eq] at hc124
         have hah:=adds_holds (qv:=qr) hok (by omega) hvl hc124
         refine W.skip<|X.seq<|W.seq<|W.drawW (T:=[]) rfl (by decide +kernel) (NoHang.then NoHang.post) (fun w61 hm61=>?_)
         replace hr:=hr.gr hm61;replace kr:=kr.gr hm61;replace hb7:=Blk.gr hb7 hm61;replace hbd:=hbd.gr hm61;replace hm0:=hm0.trans hm61;replace hB2:=hB2.gr hm61;replace hb18:=Blk.gr hb18 hm61
         have hS4:Mod [] w61 w61:=Mod.refl _ _
         clear hm61;have kr_s:=kr;have hb7_s:=hb7;have hB2_s:=hB2;have hb18_s:=hb18
         refine D.m 0 rfl (by kernel_rfl) rfl hS4 rfl<|D.take 1 rfl (by kernel_rfl) (fun w_ hS=>((R1.eq rfl rfl).asB (c:=(decide ((phZ (cs ++ [addC v qr]) ((phZ cs (List.replicate cs.length (-1)) val).1.1 ++ [-1]) (phZ cs (List.replicate cs.length (-1)) val).1.2).2.2=8))) (rfl))) hS4 rfl<|D.m 2 rfl (by kernel_rfl) rfl hS4 rfl ?_
         cases hgd132:(decide ((phZ (cs ++ [addC v qr]) ((phZ cs (List.replicate cs.length (-1)) val).1.1 ++ [-1]) (phZ cs (List.replicate cs.length (-1)) val).1.2).2.2=8))
         ·
          try simp only [bq,ne_eq] at hgd132
          refine D.takeOn 3 rfl rfl rfl rfl (by kernel_rfl) (fun w_ hS=>(R1.move rfl)) hS4 rfl<|D.takeOn 4 rfl rfl rfl rfl (by kernel_rfl) (fun w_ hS=>((R1.eq rfl rfl).asB (c:=true) (decide_eq_true (hah.resolve_left hgd132).1))) hS4 rfl<|D.takeOn 5 rfl rfl rfl rfl (by kernel_rfl) (fun w_ hS=>(R1.move rfl)) hS4 rfl<|D.takeOn 6 rfl rfl rfl rfl (by kernel_rfl) (fun w_ hS=>(R1.fieldAt rfl tyF31_1)) hS4 rfl<|D.takeOn 7 rfl rfl rfl rfl (by kernel_rfl) (fun w_ hS=>(R1.loadFld rfl (Blk.gr hb18_s hS) rfl tyP23)) hS4 rfl<|D.takeOn 8 rfl rfl rfl rfl (by kernel_rfl) (fun w_ hS=>(R1.lenLay rfl (Lay.gr hB2_s hS) tyS23)) hS4 rfl<|D.takeOn 9 rfl rfl rfl rfl (by kernel_rfl) (fun w_ hS=>(R1.move rfl)) hS4 rfl<|D.takeOn 10 rfl rfl rfl rfl (by kernel_rfl) (fun w_ hS=>((R1.eq rfl rfl).asB (c:=true) (decide_eq_true (by rw [(hah.resolve_left hgd132).2.1])))) hS4 rfl<|D.takeOn 11 rfl rfl rfl rfl (by kernel_rfl) (fun w_ hS=>(R1.pickT rfl rfl)) hS4 rfl<|D.takeOn 12 rfl rfl rfl rfl (by kernel_rfl) (fun w_ hS=>(R1.move rfl)) hS4 rfl<|D.takeOn 13 rfl rfl rfl rfl (by kernel_rfl) (fun w_ hS=>(R1.fieldAt rfl tyF31_1)) hS4 rfl ?_
          refine D.takeOn 14 rfl rfl rfl rfl (by kernel_rfl) (fun w_ hS=>(R1.loadFld rfl (Blk.gr hb18_s hS) rfl tyP23)) hS4 rfl<|D.takeOn 15 rfl rfl rfl rfl (by kernel_rfl) (fun w_ hS=>(R1.move rfl)) hS4 rfl<|D.takeOn 16 rfl rfl rfl rfl (by kernel_rfl) (fun w_ hS=>(R1.atLay (j:=v) rfl rfl (Lay.gr hB2_s hS) tyS23 rfl (by rw [(hah.resolve_left hgd132).2.1]; exact hvl))) hS4 rfl ?_
          obtain ⟨z147,cs147,hz147,hE147,vn147,vd147,rfl,hn147,hd147⟩:=Lay.elemQ hB2_s (j:=v) (by rw [(hah.resolve_left hgd132).2.1]; exact hvl);obtain ⟨A147,c147,rfl⟩:=hn147.form;obtain ⟨B147,e147,rfl⟩:=hd147.form;replace hn147:=hn147.gr hS4;replace hd147:=hd147.gr hS4
          refine D.takeOn 17 rfl rfl rfl rfl (by kernel_rfl) (fun w_ hS=>(R1.loadE rfl (SlE.gr hE147 hS) tyG26)) hS4 rfl<|D.takeOn 18 rfl rfl rfl rfl (by kernel_rfl) (fun w_ hS=>(R1.loadBox rfl (Blk.gr hb7_s hS) tyG26)) hS4 rfl<|D.one 19 rfl (by kernel_rfl) (fun hX=>?_)
          refine L.callOn rfl rfl rfl rfl ((c_ref2_Same (qa:=(QR.val z147)) (qb:=qr) rfl hqr hn147 hd147 hr kr hbd (Nat.le_trans (hsZ2 _ (List.mem_of_getElem? hz147)).1 (by decide)) (Nat.le_trans (hsZ2 _ (List.mem_of_getElem? hz147)).2 (by decide)) (by omega) (by omega)).mono (R':=fun r w'=>r=.bool true∧Mod [] w61 w') (fun r w' h9=>⟨h9.1.trans (congrArg Value.bool (decide_eq_true ((hah.resolve_left hgd132).2.2 _ hz147))),h9.2⟩)) rfl ?_
          rintro _ w62 ⟨rfl,hm62⟩
          replace hm0:=hm0.trans hm62;replace hS4:=hS4.trans hm62;clear hm62
          refine L.nil (hX _ _ ⟨.inr hS4,?_⟩)
          refine D.takeOn 20 rfl rfl rfl rfl (by kernel_rfl) (fun w_ hS=>(R1.pickT rfl rfl)) hS4 rfl<|D.take 21 rfl (by kernel_rfl) (fun w_ hS=>(R1.pickF rfl rfl)) hS4 rfl<|D.m 22 rfl (by kernel_rfl) rfl hS4 rfl<|D.one 23 rfl (by kernel_rfl) (fun hX=>?_)
          refine L.callOn rfl rfl rfl rfl (c_known15) rfl ?_
          rintro _ w63 ⟨rfl,hm63⟩
          replace hm0:=hm0.trans hm63;replace hS4:=hS4.trans hm63;clear hm63
          refine L.nil (hX _ _ ⟨.inr hS4,?_⟩)
          refine D.take 24 rfl (by kernel_rfl) (fun w_ hS=>(R1.pickT rfl rfl)) hS4 rfl<|D.take 25 rfl (by kernel_rfl) (fun w_ hS=>(R1.assign rfl)) hS4 rfl<|D.done (by decide +kernel) ?_ _
          refine X.seq<|W.ret<|X.result1 rfl (.tmp rfl .nil) ?_
          exact ⟨rfl,hm0⟩
         try simp only [bq,ne_eq] at hgd132
         refine D.off 3 rfl rfl rfl rfl rfl (by kernel_rfl) hS4 rfl<|D.off 4 rfl rfl rfl rfl rfl (by kernel_rfl) hS4 rfl<|D.off 5 rfl rfl rfl rfl rfl (by kernel_rfl) hS4 rfl<|D.offU 6 rfl rfl rfl rfl (by kernel_rfl) hS4 rfl<|D.offU 7 rfl rfl rfl rfl (by kernel_rfl) hS4 rfl<|D.offU 8 rfl rfl rfl rfl (by kernel_rfl) hS4 rfl<|D.offU 9 rfl rfl rfl rfl (by kernel_rfl) hS4 rfl<|D.offU 10 rfl rfl rfl rfl (by kernel_rfl) hS4 rfl<|D.off 11 rfl rfl rfl rfl rfl (by kernel_rfl) hS4 rfl<|D.off 12 rfl rfl rfl rfl rfl (by kernel_rfl) hS4 rfl<|D.offU 13 rfl rfl rfl rfl (by kernel_rfl) hS4 rfl ?_
         refine D.offU 14 rfl rfl rfl rfl (by kernel_rfl) hS4 rfl<|D.offU 15 rfl rfl rfl rfl (by kernel_rfl) hS4 rfl<|D.offU 16 rfl rfl rfl rfl (by kernel_rfl) hS4 rfl<|D.offU 17 rfl rfl rfl rfl (by kernel_rfl) hS4 rfl<|D.offU 18 rfl rfl rfl rfl (by kernel_rfl) hS4 rfl<|D.offU 19 rfl rfl rfl rfl (by kernel_rfl) hS4 rfl<|D.off 20 rfl rfl rfl rfl rfl (by kernel_rfl) hS4 rfl<|D.take 21 rfl (by kernel_rfl) (fun w_ hS=>(R1.pickT rfl rfl)) hS4 rfl<|D.m 22 rfl (by kernel_rfl) rfl hS4 rfl<|D.one 23 rfl (by kernel_rfl) (fun hX=>?_)
         refine L.callOn rfl rfl rfl rfl (c_known15) rfl ?_
         rintro _ w64 ⟨rfl,hm64⟩
         replace hm0:=hm0.trans hm64;replace hS4:=hS4.trans hm64;clear hm64
         refine L.nil (hX _ _ ⟨.inr hS4,?_⟩)
         refine D.take 24 rfl (by kernel_rfl) (fun w_ hS=>(R1.pickT rfl rfl)) hS4 rfl<|D.take 25 rfl (by kernel_rfl) (fun w_ hS=>(R1.assign rfl)) hS4 rfl<|D.done (by decide +kernel) ?_ _
         refine X.seq<|W.ret<|X.result1 rfl (.tmp rfl .nil) ?_
         exact ⟨rfl,hm0⟩
        obtain ⟨hk20,ho20,g18,hg20⟩:=hv9 20 ⟨by decide,.inl rfl,by decide⟩;have ha5:=haw9 5 20 ⟨by decide,.inl rfl,by decide⟩ ⟨by decide,.inl rfl,by decide⟩ (by decide);have ha11:=haw9 11 20 ⟨by decide,.inl rfl,by decide⟩ ⟨by decide,.inl rfl,by decide⟩ (by decide)
        rw [hg20] at hk20 ho20 ha5 ha11
        have hb18:Blk w48 g18 31 #[.slice none 0 0,.slice none 0 0]:=own_box ho20
        have hgs_g18:=(own_ge ho20 g18 rfl).1;have hge_g18:=Nat.le_trans hm0.size hgs_g18;have hlt9:=(own_ge ho20 g18 rfl).2;clear hg20 ho20;clear hv9 haw9
        generalize vals9 5=v106 at hk5 ho5 ha5
        generalize vals9 11=v112 at hk11 ho11 ha11
        refine D.inc (Inc.put (d:=18) (v:=.pointer (some ⟨g18,0,none⟩)) hk20 (Inc.put (d:=112) hk11 (Inc.put (d:=106) hk5 hI9))) ?_
        clear hk5 hk11 hI9 hk20
        have hM:Lay rdC [g18] w48 v106 (cs ++ [addC v qr]):=Lay.of_own (css:=dss ++ [[.int .i64 0,.slice (some ⟨g96,0,none⟩) 1 1,.bool (decide ((-qr).num<0)),.slice A98 (toL (-qr).num.natAbs).length c98,.slice B98 (toL (-qr).den).length e98]]) (own_congr ho5 (by simp [rowA]) (by simp [rowA])) ((LayL.gr (hl2.more hgs_g18) hm9).append (LayL.one _ (addC v qr) (rdC_mk (c:=addC v qr) (Lay.gr (hT96.more hgs_g18) hm9) (U32.gr (hn98.more hgs_g18) hm9) (U32.gr (hd98.more hgs_g18) hm9)))) (fun g h8 h7=>ha5 g18 (by rw [List.mem_singleton.1 h7] at h8; exact h8) rfl)
        have hN:Lay rdI [g18] w48 v112 ((phZ cs (List.replicate cs.length (-1)) val).1.1 ++ [-1]):=Lay.of_Z (own_congr (k':=(phZ cs (List.replicate cs.length (-1)) val).1.1.length + 1) ho11 rfl (by simp [rowA,intsZ])) (fun g h8 h7=>ha11 g18 (by rw [List.mem_singleton.1 h7] at h8; exact h8) rfl)
        clear ho5 ho11 hs2 hl2 hrow;replace hr:=hr.more hgs_g18;replace kr:=kr.more hgs_g18;replace hB:=hB.more hgs_g18;replace hW:=hW.more hgs_g18;have hne_g7_g18:=Nat.ne_of_lt (Nat.lt_of_lt_of_le (Blk.lt hb7) hgs_g18);replace hr:=hr.gr hm9;replace kr:=kr.gr hm9;replace hB:=hB.gr hm9;replace hW:=hW.gr hm9;replace hb7:=Blk.gr hb7 hm9;replace hm0:=hm0.trans hm9;replace hbd:=Bd.box hbd hm9 hlt9;replace hS2:=hS2.trans hm9;clear hm9
        refine D.take 14 rfl (by kernel_rfl) (fun w_ hS=>(R1.build (vs:=[v112,b62]) rfl (built_S9 (lay_form' hN) (lay_form' hB) built_S2))) hS2 rfl<|D.one 15 rfl (by kernel_rfl) (fun hX=>?_)
        have hsZ2:=phZ_s17 (cs ++ [addC v qr]) ((phZ cs (List.replicate cs.length (-1)) val).1.1 ++ [-1]) hB hsZ
        refine L.call rfl (c_Phase (M:=[g18]) (hM.sub (M':=[g18]) (by intro b hb; first | (cases hb; done) | (simp only [List.mem_cons,List.not_mem_nil,or_false] at hb ⊢; simp [hb]))) (hN.sub (M':=[g18]) (by intro b hb; first | (cases hb; done) | (simp only [List.mem_cons,List.not_mem_nil,or_false] at hb ⊢; simp [hb]))) (hB.sub (M':=[g18]) (by intro b hb; first | (cases hb; done) | (simp only [List.mem_cons,List.not_mem_nil,or_false] at hb ⊢; simp [hb]))) (hbd.sub (M':=[g18]) (by intro b hb; first | (cases hb; done) | (simp only [List.mem_cons,List.not_mem_nil,or_false] at hb ⊢; simp [hb]))) (add_sm hsm FR) hsZ (by simp; omega)) rfl ?_
        rintro _ w65 ⟨a116,b116,rfl,hA2,hB2,hm65⟩
        replace hr:=hr.gr hm65;replace kr:=kr.gr hm65;replace hW:=hW.gr hm65;replace hb7:=Blk.gr hb7 hm65;replace hm0:=hm0.trans hm65;replace hbd:=hbd.gr hm65;replace hb18:=Blk.gr hb18 hm65;replace hS2:=hS2.trans hm65;clear hm65
        refine L.nil (hX _ _ ⟨.inr hS2,?_⟩)
        refine D.m 16 rfl (by kernel_rfl) rfl hS2 rfl<|D.takeW 17 rfl (by kernel_rfl) rfl (fun w_=>(R1.extract rfl rfl)) rfl<|D.takeW 18 rfl (by kernel_rfl) rfl (fun w_=>(R1.extract rfl rfl)) rfl<|D.takeW 19 rfl (by kernel_rfl) rfl (fun w_=>(R1.extract rfl rfl)) rfl<|D.one 21 rfl (by kernel_rfl) (fun hX=>?_)
        refine L.storeBox rfl rfl hb18 rfl (one_S (lay_form' hA2) (lay_form' hB2)) tyG31 ?_
        intro w66 hb18' hm66
        replace hr:=hr.mod hm66 (by simp);replace kr:=kr.mod hm66 (by simp);replace hW:=hW.mod hm66 (by simp);replace hb7:=Blk.far hb7 hm66 (by first | exact hne_g7_g18 | exact (hne_g18_g7).symm);replace hm0:=hm0.old1 hm66 hge_g18;replace hbd:=hbd.gr hm66;replace hB2:=hB2.mod hm66 (by simp);clear hm66;replace hb18:=hb18'; clear hb18'
        refine L.nil (hX _ _ ⟨.inl rfl,?_⟩)
        refine D.one 22 rfl (by kernel_rfl) (fun hX=>?_)
        refine L.a rfl rfl (L.nil (hX _ _ ⟨.inl rfl,?_⟩))
        refine D.one 23 rfl (by kernel_rfl) (fun hX=>?_)
        refine L.a rfl rfl (L.nil (hX _ _ ⟨.inl rfl,?_⟩))
        refine D.done (by decide +kernel) ?_ _
        refine X.seq<|W.seq<|W.seq<|W.region<|L.m rfl rfl<|L.m rfl rfl<|L.v (R1.atLay (j:=v) rfl rfl hW tyS29 rfl (by rw [walZ_len hCh]; exact hvl)) rfl<|L.v (R1.loadLI rfl hW tyP3 (by rw [walZ_len hCh]; exact hvl) (walZ_get hCh _)) rfl<|L.v ((R1.eq rfl rfl).asB (c:=(decide (strZ val.length cs (phZ cs (List.replicate cs.length (-1)) val).1.1 v=0))) (rfl)) rfl<|L.nil<|X.seq ?_
        refine W.cond rfl ?_ ?_
        ·
         intro hc124
         try simp only [bq,ne_eq] at hc124
         refine W.seq<|W.region<|L.m rfl rfl<|L.v ((R1.eq rfl rfl).asB (c:=true) (decide_eq_true (adds_forced hok (by omega) hvl hc124))) rfl<|L.m rfl rfl<|L.callOn rfl rfl rfl rfl (c_known15) rfl ?_
         rintro _ w67 ⟨rfl,hm67⟩
         replace hm0:=hm0.trans hm67;clear hm67
         refine L.v (R1.pickT rfl rfl) rfl<|L.a rfl rfl<|L.nil<|X.seq<|W.ret<|X.thenRet<|X.result1 rfl (.tmp rfl .nil) ?_
         exact ⟨rfl,hm0⟩
        intro hc124
        try simp only [bq,ne_eq] at hc124
        have hah:=adds_holds (qv:=qr) hok (by omega) hvl hc124
        refine W.skip<|X.seq<|W.seq<|W.drawW (T:=[]) rfl (by decide +kernel) (NoHang.then NoHang.post) (fun w68 hm68=>?_)
        replace hr:=hr.gr hm68;replace kr:=kr.gr hm68;replace hb7:=Blk.gr hb7 hm68;replace hm0:=hm0.trans hm68;replace hbd:=hbd.gr hm68;replace hB2:=hB2.gr hm68;replace hb18:=Blk.gr hb18 hm68
        have hS5:Mod [] w68 w68:=Mod.refl _ _
        clear hm68;have kr_s:=kr;have hb7_s:=hb7;have hB2_s:=hB2;have hb18_s:=hb18
        refine D.m 0 rfl (by kernel_rfl) rfl hS5 rfl<|D.take 1 rfl (by kernel_rfl) (fun w_ hS=>((R1.eq rfl rfl).asB (c:=(decide ((phZ (cs ++ [addC v qr]) ((phZ cs (List.replicate cs.length (-1)) val).1.1 ++ [-1]) (phZ cs (List.replicate cs.length (-1)) val).1.2).2.2=8))) (rfl))) hS5 rfl<|D.m 2 rfl (by kernel_rfl) rfl hS5 rfl ?_
        cases hgd132:(decide ((phZ (cs ++ [addC v qr]) ((phZ cs (List.replicate cs.length (-1)) val).1.1 ++ [-1]) (phZ cs (List.replicate cs.length (-1)) val).1.2).2.2=8))
        ·
         try simp only [bq,ne_eq] at hgd132
         refine D.takeOn 3 rfl rfl rfl rfl (by kernel_rfl) (fun w_ hS=>(R1.move rfl)) hS5 rfl<|D.takeOn 4 rfl rfl rfl rfl (by kernel_rfl) (fun w_ hS=>((R1.eq rfl rfl).asB (c:=true) (decide_eq_true (hah.resolve_left hgd132).1))) hS5 rfl<|D.takeOn 5 rfl rfl rfl rfl (by kernel_rfl) (fun w_ hS=>(R1.move rfl)) hS5 rfl<|D.takeOn 6 rfl rfl rfl rfl (by kernel_rfl) (fun w_ hS=>(R1.fieldAt rfl tyF31_1)) hS5 rfl<|D.takeOn 7 rfl rfl rfl rfl (by kernel_rfl) (fun w_ hS=>(R1.loadFld rfl (Blk.gr hb18_s hS) rfl tyP23)) hS5 rfl<|D.takeOn 8 rfl rfl rfl rfl (by kernel_rfl) (fun w_ hS=>(R1.lenLay rfl (Lay.gr hB2_s hS) tyS23)) hS5 rfl<|D.takeOn 9 rfl rfl rfl rfl (by kernel_rfl) (fun w_ hS=>(R1.move rfl)) hS5 rfl<|D.takeOn 10 rfl rfl rfl rfl (by kernel_rfl) (fun w_ hS=>((R1.eq rfl rfl).asB (c:=true) (decide_eq_true (by rw [(hah.resolve_left hgd132).2.1])))) hS5 rfl<|D.takeOn 11 rfl rfl rfl rfl (by kernel_rfl) (fun w_ hS=>(R1.pickT rfl rfl)) hS5 rfl<|D.takeOn 12 rfl rfl rfl rfl (by kernel_rfl) (fun w_ hS=>(R1.move rfl)) hS5 rfl<|D.takeOn 13 rfl rfl rfl rfl (by kernel_rfl) (fun w_ hS=>(R1.fieldAt rfl tyF31_1)) hS5 rfl ?_
         refine D.takeOn 14 rfl rfl rfl rfl (by kernel_rfl) (fun w_ hS=>(R1.loadFld rfl (Blk.gr hb18_s hS) rfl tyP23)) hS5 rfl<|D.takeOn 15 rfl rfl rfl rfl (by kernel_rfl) (fun w_ hS=>(R1.move rfl)) hS5 rfl<|D.takeOn 16 rfl rfl rfl rfl (by kernel_rfl) (fun w_ hS=>(R1.atLay (j:=v) rfl rfl (Lay.gr hB2_s hS) tyS23 rfl (by rw [(hah.resolve_left hgd132).2.1]; exact hvl))) hS5 rfl ?_
         obtain ⟨z147,cs147,hz147,hE147,vn147,vd147,rfl,hn147,hd147⟩:=Lay.elemQ hB2_s (j:=v) (by rw [(hah.resolve_left hgd132).2.1]; exact hvl);obtain ⟨A147,c147,rfl⟩:=hn147.form;obtain ⟨B147,e147,rfl⟩:=hd147.form;replace hn147:=hn147.gr hS5;replace hd147:=hd147.gr hS5
         refine D.takeOn 17 rfl rfl rfl rfl (by kernel_rfl) (fun w_ hS=>(R1.loadE rfl (SlE.gr hE147 hS) tyG26)) hS5 rfl<|D.takeOn 18 rfl rfl rfl rfl (by kernel_rfl) (fun w_ hS=>(R1.loadBox rfl (Blk.gr hb7_s hS) tyG26)) hS5 rfl<|D.one 19 rfl (by kernel_rfl) (fun hX=>?_)
         refine L.callOn rfl rfl rfl rfl ((c_ref2_Same (qa:=(QR.val z147)) (qb:=qr) rfl hqr hn147 hd147 hr kr hbd (Nat.le_trans (hsZ2 _ (List.mem_of_getElem? hz147)).1 (by decide)) (Nat.le_trans (hsZ2 _ (List.mem_of_getElem? hz147)).2 (by decide)) (by omega) (by omega)).mono (R':=fun r w'=>r=.bool true∧Mod [] w68 w') (fun r w' h9=>⟨h9.1.trans (congrArg Value.bool (decide_eq_true ((hah.resolve_left hgd132).2.2 _ hz147))),h9.2⟩)) rfl ?_
         rintro _ w69 ⟨rfl,hm69⟩
         replace hm0:=hm0.trans hm69;replace hS5:=hS5.trans hm69;clear hm69
         refine L.nil (hX _ _ ⟨.inr hS5,?_⟩)
         refine D.takeOn 20 rfl rfl rfl rfl (by kernel_rfl) (fun w_ hS=>(R1.pickT rfl rfl)) hS5 rfl<|D.take 21 rfl (by kernel_rfl) (fun w_ hS=>(R1.pickF rfl rfl)) hS5 rfl<|D.m 22 rfl (by kernel_rfl) rfl hS5 rfl<|D.one 23 rfl (by kernel_rfl) (fun hX=>?_)
         refine L.callOn rfl rfl rfl rfl (c_known15) rfl ?_
         rintro _ w70 ⟨rfl,hm70⟩
         replace hm0:=hm0.trans hm70;replace hS5:=hS5.trans hm70;clear hm70
         refine L.nil (hX _ _ ⟨.inr hS5,?_⟩)
         refine D.take 24 rfl (by kernel_rfl) (fun w_ hS=>(R1.pickT rfl rfl)) hS5 rfl<|D.take 25 rfl (by kernel_rfl) (fun w_ hS=>(R1.assign rfl)) hS5 rfl<|D.done (by decide +kernel) ?_ _
         refine X.seq<|W.ret<|X.result1 rfl (.tmp rfl .nil) ?_
         exact ⟨rfl,hm0⟩
        try simp only [bq,ne_eq] at hgd132
        refine D.off 3 rfl rfl rfl rfl rfl (by kernel_rfl) hS5 rfl<|D.off 4 rfl rfl rfl rfl rfl (by kernel_rfl) hS5 rfl<|D.off 5 rfl rfl rfl rfl rfl (by kernel_rfl) hS5 rfl<|D.offU 6 rfl rfl rfl rfl (by kernel_rfl) hS5 rfl<|D.offU 7 rfl rfl rfl rfl (by kernel_rfl) hS5 rfl<|D.offU 8 rfl rfl rfl rfl (by kernel_rfl) hS5 rfl<|D.offU 9 rfl rfl rfl rfl (by kernel_rfl) hS5 rfl<|D.offU 10 rfl rfl rfl rfl (by kernel_rfl) hS5 rfl<|D.off 11 rfl rfl rfl rfl rfl (by kernel_rfl) hS5 rfl<|D.off 12 rfl rfl rfl rfl rfl (by kernel_rfl) hS5 rfl<|D.offU 13 rfl rfl rfl rfl (by kernel_rfl) hS5 rfl ?_
        refine D.offU 14 rfl rfl rfl rfl (by kernel_rfl) hS5 rfl<|D.offU 15 rfl rfl rfl rfl (by kernel_rfl) hS5 rfl<|D.offU 16 rfl rfl rfl rfl (by kernel_rfl) hS5 rfl<|D.offU 17 rfl rfl rfl rfl (by kernel_rfl) hS5 rfl<|D.offU 18 rfl rfl rfl rfl (by kernel_rfl) hS5 rfl<|D.offU 19 rfl rfl rfl rfl (by kernel_rfl) hS5 rfl<|D.off 20 rfl rfl rfl rfl rfl (by kernel_rfl) hS5 rfl<|D.take 21 rfl (by kernel_rfl) (fun w_ hS=>(R1.pickT rfl rfl)) hS5 rfl<|D.m 22 rfl (by kernel_rfl) rfl hS5 rfl<|D.one 23 rfl (by kernel_rfl) (fun hX=>?_)
        refine L.callOn rfl rfl rfl rfl (c_known15) rfl ?_
        rintro _ w71 ⟨rfl,hm71⟩
        replace hm0:=hm0.trans hm71;replace hS5:=hS5.trans hm71;clear hm71
        refine L.nil (hX _ _ ⟨.inr hS5,?_⟩)
        refine D.take 24 rfl (by kernel_rfl) (fun w_ hS=>(R1.pickT rfl rfl)) hS5 rfl<|D.take 25 rfl (by kernel_rfl) (fun w_ hS=>(R1.assign rfl)) hS5 rfl<|D.done (by decide +kernel) ?_ _
        refine X.seq<|W.ret<|X.result1 rfl (.tmp rfl .nil) ?_
        exact ⟨rfl,hm0⟩
       have hcc_:=hgd51
       refine L.off rfl rfl rfl rfl rfl<|L.off rfl rfl rfl rfl rfl<|L.off rfl rfl rfl rfl rfl<|L.v (R1.pickT rfl rfl) rfl<|L.nil<|X.seq<|W.condT rfl<|W.seq<|W.region<|L.a rfl rfl<|L.nil ?_
       refine X.seq<|W.ret<|X.thenRet<|X.result1 rfl (.tmp rfl .nil) ?_
       exact ⟨rfl,hm0⟩
      have hcc_:=hgd47
      refine L.off rfl rfl rfl rfl rfl<|L.off rfl rfl rfl rfl rfl<|L.v (R1.pickT rfl rfl) rfl<|L.m rfl rfl<|L.off rfl rfl rfl rfl rfl<|L.off rfl rfl rfl rfl rfl<|L.off rfl rfl rfl rfl rfl<|L.v (R1.pickT rfl rfl) rfl<|L.nil<|X.seq<|W.condT rfl ?_
      refine W.seq<|W.region<|L.a rfl rfl<|L.nil<|X.seq<|W.ret<|X.thenRet<|X.result1 rfl (.tmp rfl .nil) ?_
      exact ⟨rfl,hm0⟩
     have hcc_:=hgd43
     refine L.off rfl rfl rfl rfl rfl<|L.off rfl rfl rfl rfl rfl<|L.v (R1.pickT rfl rfl) rfl<|L.m rfl rfl<|L.off rfl rfl rfl rfl rfl<|L.off rfl rfl rfl rfl rfl<|L.v (R1.pickT rfl rfl) rfl<|L.m rfl rfl<|L.off rfl rfl rfl rfl rfl<|L.off rfl rfl rfl rfl rfl<|L.off rfl rfl rfl rfl rfl ?_
     refine L.v (R1.pickT rfl rfl) rfl<|L.nil<|X.seq<|W.condT rfl<|W.seq<|W.region<|L.a rfl rfl<|L.nil<|X.seq<|W.ret<|X.thenRet ?_
     refine X.result1 rfl (.tmp rfl .nil) ?_
     exact ⟨rfl,hm0⟩
    have hcc_:=hgd39
    refine L.off rfl rfl rfl rfl rfl<|L.off rfl rfl rfl rfl rfl<|L.v (R1.pickT rfl rfl) rfl<|L.m rfl rfl<|L.off rfl rfl rfl rfl rfl<|L.off rfl rfl rfl rfl rfl<|L.v (R1.pickT rfl rfl) rfl<|L.m rfl rfl<|L.off rfl rfl rfl rfl rfl<|L.off rfl rfl rfl rfl rfl<|L.v (R1.pickT rfl rfl) rfl ?_
    refine L.m rfl rfl<|L.off rfl rfl rfl rfl rfl<|L.off rfl rfl rfl rfl rfl<|L.off rfl rfl rfl rfl rfl<|L.v (R1.pickT rfl rfl) rfl<|L.nil<|X.seq<|W.condT rfl<|W.seq<|W.region<|L.a rfl rfl ?_
    refine L.nil<|X.seq<|W.ret<|X.thenRet<|X.result1 rfl (.tmp rfl .nil) ?_
    exact ⟨rfl,hm0⟩
   have hcc_:=hgd34
   refine L.off rfl rfl rfl rfl rfl<|L.off rfl rfl rfl rfl rfl<|L.off rfl rfl rfl rfl rfl<|L.v (R1.pickT rfl rfl) rfl<|L.m rfl rfl<|L.off rfl rfl rfl rfl rfl<|L.off rfl rfl rfl rfl rfl<|L.v (R1.pickT rfl rfl) rfl<|L.m rfl rfl<|L.off rfl rfl rfl rfl rfl<|L.off rfl rfl rfl rfl rfl ?_
   refine L.v (R1.pickT rfl rfl) rfl<|L.m rfl rfl<|L.off rfl rfl rfl rfl rfl<|L.off rfl rfl rfl rfl rfl<|L.v (R1.pickT rfl rfl) rfl<|L.m rfl rfl<|L.off rfl rfl rfl rfl rfl<|L.off rfl rfl rfl rfl rfl<|L.off rfl rfl rfl rfl rfl<|L.v (R1.pickT rfl rfl) rfl<|L.nil ?_
   refine X.seq<|W.condT rfl<|W.seq<|W.region<|L.a rfl rfl<|L.nil<|X.seq<|W.ret<|X.thenRet<|X.result1 rfl (.tmp rfl .nil) ?_
   exact ⟨rfl,hm0⟩
  have hcc_:=hgd29
  refine L.off rfl rfl rfl rfl rfl<|L.off rfl rfl rfl rfl rfl<|L.off rfl rfl rfl rfl rfl<|L.v (R1.pickT rfl rfl) rfl<|L.m rfl rfl<|L.off rfl rfl rfl rfl rfl<|L.off rfl rfl rfl rfl rfl<|L.off rfl rfl rfl rfl rfl<|L.v (R1.pickT rfl rfl) rfl<|L.m rfl rfl<|L.off rfl rfl rfl rfl rfl ?_
  refine L.off rfl rfl rfl rfl rfl<|L.v (R1.pickT rfl rfl) rfl<|L.m rfl rfl<|L.off rfl rfl rfl rfl rfl<|L.off rfl rfl rfl rfl rfl<|L.v (R1.pickT rfl rfl) rfl<|L.m rfl rfl<|L.off rfl rfl rfl rfl rfl<|L.off rfl rfl rfl rfl rfl<|L.v (R1.pickT rfl rfl) rfl<|L.m rfl rfl ?_
  refine L.off rfl rfl rfl rfl rfl<|L.off rfl rfl rfl rfl rfl<|L.off rfl rfl rfl rfl rfl<|L.v (R1.pickT rfl rfl) rfl<|L.nil<|X.seq<|W.condT rfl<|W.seq<|W.region<|L.a rfl rfl<|L.nil ?_
  refine X.seq<|W.ret<|X.thenRet<|X.result1 rfl (.tmp rfl .nil) ?_
  exact ⟨rfl,hm0⟩
 have hcc_:=hgd25
 refine L.off rfl rfl rfl rfl rfl<|L.off rfl rfl rfl rfl rfl<|L.v (R1.pickT rfl rfl) rfl<|L.m rfl rfl<|L.off rfl rfl rfl rfl rfl<|L.off rfl rfl rfl rfl rfl<|L.off rfl rfl rfl rfl rfl<|L.v (R1.pickT rfl rfl) rfl<|L.m rfl rfl<|L.off rfl rfl rfl rfl rfl<|L.off rfl rfl rfl rfl rfl ?_
 refine L.off rfl rfl rfl rfl rfl<|L.v (R1.pickT rfl rfl) rfl<|L.m rfl rfl<|L.off rfl rfl rfl rfl rfl<|L.off rfl rfl rfl rfl rfl<|L.v (R1.pickT rfl rfl) rfl<|L.m rfl rfl<|L.off rfl rfl rfl rfl rfl<|L.off rfl rfl rfl rfl rfl<|L.v (R1.pickT rfl rfl) rfl<|L.m rfl rfl ?_
 refine L.off rfl rfl rfl rfl rfl<|L.off rfl rfl rfl rfl rfl<|L.v (R1.pickT rfl rfl) rfl<|L.m rfl rfl<|L.off rfl rfl rfl rfl rfl<|L.off rfl rfl rfl rfl rfl<|L.off rfl rfl rfl rfl rfl<|L.v (R1.pickT rfl rfl) rfl<|L.nil<|X.seq<|W.condT rfl ?_
 refine W.seq<|W.region<|L.a rfl rfl<|L.nil<|X.seq<|W.ret<|X.thenRet<|X.result1 rfl (.tmp rfl .nil) ?_
 exact ⟨rfl,hm0⟩
end Go.Proofs.YtedokfpoajfflaaGreat
