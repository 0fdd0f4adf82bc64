/- Walks: what the functions compute. -/
import Derived.Test.YtedokfpoajfflaaGreatDeA
import Derived.Test.YtedokfpoajfflaaGreatGrD
namespace Go.Proofs.YtedokfpoajfflaaGreat
open Go.RowKit
set_option linter.unusedVariables false
set_option linter.unusedSimpArgs false
set_option maxRecDepth 10000
theorem built_CH (A:Option Addr) (k c:Nat) (A1:Option Addr) (k1 c1:Nat) (A2:Option Addr) (k2 c2:Nat):Tryz.prog.built 82 [(0,.slice A k c),(1,.slice A1 k1 c1),(2,.slice A2 k2 c2)]=some #[.slice A k c,.slice A1 k1 c1,.slice A2 k2 c2]:=by kernel_rfl
theorem getD_at {l:List Int} {i:Nat} (h:i<l.length):l[i]=l.getD i 0:=by simp [List.getD_eq_getElem?_getD,h]
theorem c_chosen {M : List Nat} {w : World} {vl vo : Value} {cs : List CR} {os : List Int} {z0 : Int} (hL : Lay rdC M w vl cs) (hO : Lay rdI M w vo os) (hbd : Bd M w) (hsm : ∀ c ∈ cs, SmC 1099511627776 c) :
    Ret Tryz.prog 36 #[vl,vo,.int .i64 z0] w (fun r w'=>∃ p,r=.tuple #[p,.bool (ChB z0 cs os)]∧(ChB z0 cs os=true→∃ g v1 v2,p=.pointer (some ⟨g,0,none⟩)∧Blk w' g 82 #[vl,v1,v2]∧w'.ownsRow w.heap.size 3 1 v1 os.length (intsZ os)∧w'.ownsRow w.heap.size 3 1 v2 z0.toNat (intsZ (byZ z0.toNat os os.length))∧w.heap.size≤g∧v1.ownBlock≠some g∧v2.ownBlock≠some g∧Away v1 v2)∧Mod [] w w'):=by
 obtain ⟨TL,tL,rfl⟩:=hL.form;obtain ⟨TO,tO,rfl⟩:=hO.form;have hmaxL:=hL.max; unfold maxLen at hmaxL;have hmaxO:=hO.max; unfold maxLen at hmaxO
 refine Ret.of (vs:=[.slice TL cs.length tL,.slice TO os.length tO,.int .i64 z0]) (n:=81) Tryz.func36 rfl rfl rfl rfl ?_
 have hm0:Mod [] w w:=Mod.refl _ _
 refine W.seq<|W.region<|L.a rfl rfl<|L.a rfl rfl<|L.nil<|X.seq<|W.seq<|W.seq<|W.region<|L.m rfl rfl<|L.v ((R1.lt rfl rfl).asB (c:=(decide (z0<1))) (rfl)) rfl ?_
 refine L.m rfl rfl ?_
 cases hgd14:(decide (z0<1))
 ·
  try simp only [bq,ne_eq] at hgd14
  refine L.on rfl rfl rfl (R1.move rfl) rfl<|L.on rfl rfl rfl ((R1.gt rfl rfl).asB (c:=(decide (64<z0))) (rfl)) rfl<|L.v (R1.pickF rfl rfl) rfl<|L.m rfl rfl ?_
  cases hgd18:(decide (64<z0))
  ·
   try simp only [bq,ne_eq] at hgd18
   refine L.on rfl rfl rfl (R1.move rfl) rfl<|L.on rfl rfl rfl (R1.lenLay rfl hL tyS22) rfl<|L.on rfl rfl rfl ((R1.gt rfl rfl).asB (c:=(decide ((256:Int)<(cs.length:Int)))) (rfl)) rfl<|L.v (R1.pickF rfl rfl) rfl<|L.m rfl rfl ?_
   cases hgd23:(decide ((256:Int)<(cs.length:Int)))
   ·
    try simp only [bq,ne_eq] at hgd23
    refine L.on rfl rfl rfl (R1.move rfl) rfl<|L.on rfl rfl rfl (R1.lenLay rfl hO tyS29) rfl<|L.on rfl rfl rfl (R1.move rfl) rfl<|L.on rfl rfl rfl (R1.lenLay rfl hL tyS22) rfl<|L.on rfl rfl rfl (R1.ne rfl rfl) rfl<|L.v (R1.pickF rfl rfl) rfl<|L.nil<|X.seq<|W.cond rfl ?_ ?_
    ·
     intro hc29
     try simp only [bq,ne_eq] at hc29
     refine W.seq<|W.region<|L.a rfl rfl<|L.a rfl rfl<|L.nil<|X.seq<|W.ret<|X.thenRet<|X.result2 rfl (.tmp rfl (.tmp rfl .nil)) ?_
     have hbad:ChB z0 cs os=false:=ChB_size (by omega)
     exact ⟨.pointer none,by rw [hbad],(fun h9=>by rw [hbad] at h9; cases h9),hm0⟩
    intro hc29
    try simp only [bq,ne_eq] at hc29
    obtain ⟨n,rfl⟩:∃ n:Nat,z0=(n:Int):=⟨z0.toNat,by omega⟩
    have hn1:1≤n:=by omega
    have hn2:n≤64:=by omega
    have hl1:cs.length≤256:=by omega
    have hl2:os.length=cs.length:=by omega
    refine W.skip<|X.seq<|W.seq<|W.region<|L.m rfl rfl<|L.m rfl rfl<|L.call rfl (c_CloneI hO (by omega)) rfl ?_
    rintro v32 w1 ⟨ho32,hm1⟩
    replace hL:=hL.ownd ho32 hm1;replace hO:=hO.ownd ho32 hm1;replace hbd:=hbd.ownd ho32 hm1;replace ho32:=own_less ho32 hm0.size;replace hm0:=hm0.trans hm1;clear hm1
    refine L.build1 rfl rfl tyS29 tyZ3 rfl ?_
    intro g33 w2 hN33
    replace hL:=hL.new hN33;replace hO:=hO.new hN33;replace hbd:=hbd.new hN33;have hge_g33:=New.ge hN33 hm0.size;replace hm0:=hm0.trans (hN33.mod.mono (by simp));have hno_ho32_g33:=own_ne_new ho32 hN33;replace ho32:=own_gr ho32 hN33.mod (by simp);have hb33:=hN33.blk;clear hN33
    refine L.m rfl rfl<|L.call rfl (c_RepeatI hb33 (by omega) (by omega)) rfl ?_
    rintro v35 w3 ⟨ho35,hm3⟩
    replace hL:=hL.ownd ho35 hm3;replace hO:=hO.ownd ho35 hm3;replace hbd:=hbd.ownd ho35 hm3;have hno_ho35_g33:=own_ne_old ho35 hb33;have haw_ho32_ho35:=own_away_res ho32 ho35;replace ho35:=own_less ho35 hm0.size;replace hm0:=hm0.trans hm3;replace ho32:=own_gr ho32 hm3 (by simp);replace hb33:=Blk.gr hb33 hm3;clear hm3
    rw [← byZ_zero n os] at ho35
    refine L.v (R1.build (vs:=[.slice TL cs.length tL,v32,v35]) rfl (built_CH9 (own_form' ho32) (own_form' ho35) (built_CH _ _ _))) rfl<|L.box rfl rfl ?_
    intro g37 w4 hN37
    replace hL:=hL.new hN37;replace hO:=hO.new hN37;replace hbd:=hbd.new hN37;have hge_g37:=New.ge hN37 hm0.size;replace hm0:=hm0.trans (hN37.mod.mono (by simp));have hno_ho32_g37:=own_ne_new ho32 hN37;replace ho32:=own_gr ho32 hN37.mod (by simp);have hno_ho35_g37:=own_ne_new ho35 hN37;replace ho35:=own_gr ho35 hN37.mod (by simp);have hb37:=hN37.blk;clear hN37
    refine L.a rfl rfl<|L.nil<|X.seq<|W.seq<|W.seq<|W.region<|L.m rfl rfl<|L.v (R1.lenLay rfl hL tyS22) rfl<|L.m rfl rfl<|L.nil<|X.seq ?_
    refine W.block<|W.loop (ι:=Nat) (fun i=>[(0,.slice TL cs.length tL),(1,.slice TO os.length tO),(2,.int .i64 ((n:Nat):Int)),(8,.pointer (some ⟨g37,0,none⟩)),(38,.slice TL cs.length tL),(39,.int .i64 ((cs.length:Nat):Int)),(40,.int .i64 ((i:Nat):Int))]) (fun i w_=>Lay rdC (g37 :: (ownL v35 ++ (ownL v32 ++ M))) w_ (.slice TL cs.length tL) cs∧Lay rdI (g37 :: (ownL v35 ++ (ownL v32 ++ M))) w_ (.slice TO os.length tO) os∧Bd (g37 :: (ownL v35 ++ (ownL v32 ++ M))) w_∧Blk w_ g37 82 #[.slice TL cs.length tL,v32,v35]∧w_.ownsRow w.heap.size 3 1 v32 os.length (intsZ os)∧w_.ownsRow w.heap.size 3 1 v35 n (intsZ (byZ n os i))∧w.heap.size≤g37∧v32.ownBlock≠some g37∧v35.ownBlock≠some g37∧Away v32 v35∧i≤cs.length∧chP (n:Int) cs os i∧Mod [] w w_) (fun i=>cs.length - i) 0 ?_ ?_ ?_
    · exact ⟨rfl,rfl,rfl,rfl,rfl,rfl,rfl,trivial⟩
    ·
     exact ⟨hL.su,hO.su,hbd.su,hb37,ho32,ho35,hge_g37,hno_ho32_g37,hno_ho35_g37,haw_ho32_ho35,Nat.zero_le _,chP_zero,hm0⟩
    rintro i w5 ⟨hL,hO,hbd,hb37,ho32,ho35,hge_g37,hno_ho32_g37,hno_ho35_g37,haw_ho32_ho35,hi,hch,hm0⟩
    refine W.seq<|W.region<|L.v (R1.lt rfl rfl) rfl<|L.nil<|X.seq<|W.seq<|W.cond rfl ?_ ?_
    ·
     intro hc41
     try simp only [bq,ne_eq] at hc41
     refine W.skip<|X.seq<|W.seq<|W.block<|W.seq<|W.region<|L.m rfl rfl<|L.v (R1.atLay (j:=i) rfl rfl hL tyS22 rfl (by omega)) rfl ?_
     obtain ⟨z44,cs44,hz44,hE44,vt44,ds44,rfl,ht44,vn44,vd44,rfl,hn44,hd44⟩:=Lay.elemQ hL (j:=i) (by omega);obtain ⟨T44,t44,rfl⟩:=ht44.form;obtain ⟨A44,c44,rfl⟩:=hn44.form;obtain ⟨B44,e44,rfl⟩:=hd44.form
     refine L.v (R1.loadE rfl hE44 tyG47) rfl<|L.alloc tyZ47 rfl ?_
     intro g10 w6 hN10
     replace hL:=hL.new hN10;replace hO:=hO.new hN10;replace hbd:=hbd.new hN10;have hne_g37_g10:=hb37.ne_ hN10;replace hb37:=Blk.gr hb37 hN10.mod;have hno_ho32_g10:=own_ne_new ho32 hN10;replace ho32:=own_gr ho32 hN10.mod (by simp);have hno_ho35_g10:=own_ne_new ho35 hN10;replace ho35:=own_gr ho35 hN10.mod (by simp);have hge_g10:=New.ge hN10 hm0.size;replace hm0:=hm0.trans (hN10.mod.mono (by simp));replace ht44:=ht44.new hN10;replace hn44:=hn44.new hN10;replace hd44:=hd44.new hN10;have hb10:=hN10.blk;clear hN10
     refine L.a rfl rfl<|L.storeBox rfl rfl hb10 rfl rfl tyG47 ?_
     intro w7 hb10' hm7
     replace hL:=hL.mod hm7 (by simp);replace hO:=hO.mod hm7 (by simp);replace hbd:=hbd.gr hm7;replace hb37:=Blk.far hb37 hm7 (by first | exact hne_g37_g10 | exact (hne_g10_g37).symm);replace ho32:=own_far ho32 hm7 hno_ho32_g10;replace ho35:=own_far ho35 hm7 hno_ho35_g10;replace hm0:=hm0.old1 hm7 hge_g10;replace ht44:=ht44.mod hm7 (by simp);replace hn44:=hn44.mod hm7 (by simp);replace hd44:=hd44.mod hm7 (by simp);clear hm7;replace hb10:=hb10'; clear hb10'
     refine L.nil<|X.seq<|W.seq<|W.seq<|W.region<|L.v (R1.loadBox rfl hb10 tyG47) rfl<|L.m rfl rfl<|L.call rfl (c_aff_Is ht44 hn44 hd44 (n:=(n:Int)) (by omega) hbd (hsm _ (List.mem_of_getElem? hz44))) rfl ?_
     rintro _ w8 ⟨rfl,hm8⟩
     replace hL:=hL.gr hm8;replace hO:=hO.gr hm8;replace hbd:=hbd.gr hm8;replace hb37:=Blk.gr hb37 hm8;replace ho32:=own_gr ho32 hm8 (by simp);replace ho35:=own_gr ho35 hm8 (by simp);replace hm0:=hm0.trans hm8;replace ht44:=ht44.gr hm8;replace hn44:=hn44.gr hm8;replace hd44:=hd44.gr hm8;replace hb10:=Blk.gr hb10 hm8;clear hm8
     refine L.v (R1.not rfl) rfl<|L.nil<|X.seq<|W.cond rfl ?_ ?_
     ·
      intro hc48
      simp only [Bool.not_eq_true',Bool.not_eq_false'] at hc48
      refine W.seq<|W.region<|L.a rfl rfl<|L.a rfl rfl<|L.nil<|X.seq<|W.ret<|X.thenRet<|X.blockRet<|X.thenRet<|X.nextRet ?_
      refine X.blockRet<|X.thenRet<|X.result2 rfl (.tmp rfl (.tmp rfl .nil)) ?_
      have hbad:ChB (n:Int) cs os=false:=ChB_step (i:=i) (by omega) (fun h9=>by have h8:=h9.1; rw [getD_of_get hz44,hc48] at h8; cases h8)
      exact ⟨.pointer none,by rw [hbad],(fun h9=>by rw [hbad] at h9; cases h9),hm0⟩
     intro hc48
     simp only [Bool.not_eq_true',Bool.not_eq_false'] at hc48
     have hC:=hc48
     have hgi:cs.getD i c0R=z44:=getD_of_get hz44
     refine W.skip<|X.seq<|W.seq<|W.region<|L.m rfl rfl<|L.m rfl rfl<|L.v (R1.atLay (j:=i) rfl rfl hO tyS29 rfl (by omega)) rfl<|L.v (R1.loadLI rfl hO tyP3 (by omega) (getD_at _)) rfl<|L.a rfl rfl<|L.nil<|X.seq ?_
     refine W.seq<|W.seq<|W.region<|L.m rfl rfl<|L.v (R1.eq rfl rfl) rfl<|L.nil<|X.seq<|W.cond rfl ?_ ?_
     ·
      intro hc54
      try simp only [bq,ne_eq] at hc54
      refine W.exit<|X.thenExit<|X.here<|X.seq<|W.region<|L.v (R1.addI (b:=1) rfl rfl (by omega)) rfl<|L.m rfl rfl<|L.nil<|X.next (i + 1) ?_ ?_ ?_
      · exact ⟨rfl,rfl,rfl,rfl,rfl,rfl,rfl,trivial⟩
      ·
       exact ⟨hL.su,hO.su,hbd.su,hb37,ho32,own_congr ho35 rfl (by rw [byZ_skip (by omega) hc54]),hge_g37,hno_ho32_g37,hno_ho35_g37,haw_ho32_ho35,by omega,chP_succ hch ⟨by rw [hgi]; exact hC,.inl hc54⟩,hm0⟩
      first | omega | (dsimp only; omega)
     intro hc54
     try simp only [bq,ne_eq] at hc54
     refine W.skip<|X.seq<|W.seq<|W.seq<|W.region<|L.v (R1.loadBox rfl hb10 tyG47) rfl<|L.m rfl rfl<|L.call rfl (c_has ht44 hn44 hd44) rfl ?_
     rintro _ w9 ⟨rfl,hm9⟩
     replace hL:=hL.gr hm9;replace hO:=hO.gr hm9;replace hbd:=hbd.gr hm9;replace hb37:=Blk.gr hb37 hm9;replace ho32:=own_gr ho32 hm9 (by simp);replace ho35:=own_gr ho35 hm9 (by simp);replace hm0:=hm0.trans hm9;replace ht44:=ht44.gr hm9;replace hn44:=hn44.gr hm9;replace hd44:=hd44.gr hm9;replace hb10:=Blk.gr hb10 hm9;clear hm9
     refine L.v (R1.not rfl) rfl<|L.m rfl rfl ?_
     cases hgd59:(!(hasV z44 (os.getD i 0)))
     ·
      simp only [Bool.not_eq_true',Bool.not_eq_false'] at hgd59
      obtain ⟨hv1,hv2⟩:=hasV_lt hC hgd59
      refine L.on rfl rfl rfl (R1.move rfl) rfl<|L.on rfl rfl rfl (R1.nilCheck rfl) rfl<|L.on rfl rfl rfl (R1.fieldAt rfl tyF82_2) rfl<|L.on rfl rfl rfl ((R1.loadFld rfl hb37 rfl tyP29).asV (v:=v35) rfl) rfl<|L.on rfl rfl rfl (R1.move rfl) rfl<|L.on rfl rfl rfl (R1.atOwn (i:=(os.getD i 0).toNat) rfl rfl ho35 tyS29 (by omega) (by omega)) rfl<|L.on rfl rfl rfl (R1.ldZ rfl ho35 (by omega) tyP3) rfl<|L.on rfl rfl rfl ((R1.ne rfl rfl).asB (c:=(decide ((byZ n os i).getD (os.getD i 0).toNat 0≠-1))) (rfl)) rfl<|L.v (R1.pickF rfl rfl) rfl<|L.nil<|X.seq ?_
      refine W.cond rfl ?_ ?_
      ·
       intro hc68
       try simp only [bq,ne_eq] at hc68
       refine W.seq<|W.region<|L.a rfl rfl<|L.a rfl rfl<|L.nil<|X.seq<|W.ret<|X.thenRet<|X.blockRet<|X.thenRet<|X.nextRet ?_
       refine X.blockRet<|X.thenRet<|X.result2 rfl (.tmp rfl (.tmp rfl .nil)) ?_
       have hbad:ChB (n:Int) cs os=false:=ChB_step (i:=i) (by omega) (fun h9=>by
         have h8:=h9.2
         rw [hgi] at h8
         first
         | (rw [hgd59] at h8; rcases h8 with h8 | h8; exact hc54 h8; exact absurd h8.1 (by decide))
         | (rcases h8 with h8 | h8; exact hc54 h8; apply hc68; rw [byZ_get os i (by omega),fi_neg1,who_no (by omega)]; intro k hk; have:=h8.2 k hk; omega))
       exact ⟨.pointer none,by rw [hbad],(fun h9=>by rw [hbad] at h9; cases h9),hm0⟩
      intro hc68
      try simp only [bq,ne_eq] at hc68
      refine W.skip<|X.seq<|W.region<|L.m rfl rfl<|L.v (R1.nilCheck rfl) rfl<|L.v (R1.fieldAt rfl tyF82_2) rfl<|L.v ((R1.loadFld rfl hb37 rfl tyP29).asV (v:=v35) rfl) rfl<|L.m rfl rfl<|L.m rfl rfl<|L.v (R1.atOwn (i:=(os.getD i 0).toNat) rfl rfl ho35 tyS29 (by omega) (by omega)) rfl<|L.storeZ rfl rfl ho35 (by omega) tyP3 ?_
      intro w10 ho35' hm10
      replace hL:=hL.mo hm10;replace hO:=hO.mo hm10;replace hbd:=hbd.gr hm10;replace hb37:=Blk.ownfar hb37 hm10 hno_ho35_g37;replace ho32:=own_away (s':=1) (el':=0) (k':=0) (B':=0) (ys:=[]) ho32 hm10 (by first | assumption | exact Away.symm (by assumption));replace hm0:=Mod.oldOwn hm0 hm10 ho35;replace ht44:=ht44.mo hm10;replace hn44:=hn44.mo hm10;replace hd44:=hd44.mo hm10;clear hm10;replace ho35:=ho35'; clear ho35'
      refine L.nil<|X.blockEnd<|X.seq<|W.region<|L.v (R1.addI (b:=1) rfl rfl (by omega)) rfl<|L.m rfl rfl<|L.nil<|X.next (i + 1) ?_ ?_ ?_
      · exact ⟨rfl,rfl,rfl,rfl,rfl,rfl,rfl,trivial⟩
      ·
       have hno9:(byZ n os i).getD (os.getD i 0).toNat 0=-1:=by omega
       exact ⟨hL.su,hO.su,hbd.su,hb37,ho32,own_congr ho35 rfl (by rw [byZ_set (v:=(os.getD i 0).toNat) (by omega) (by omega) (by omega) hno9]),hge_g37,hno_ho32_g37,hno_ho35_g37,haw_ho32_ho35,by omega,chP_succ hch ⟨by rw [hgi]; exact hC,.inr ⟨by rw [hgi]; exact hgd59,fun k hk=>by have h9:=hno9; rw [byZ_get os i (by omega),fi_neg1,who_no (by omega)] at h9; have:=h9 k hk; omega⟩⟩,hm0⟩
      first | omega | (dsimp only; omega)
     simp only [Bool.not_eq_true',Bool.not_eq_false'] at hgd59
     refine L.off rfl rfl rfl rfl rfl<|L.off rfl rfl rfl rfl rfl<|L.off rfl rfl rfl rfl rfl<|L.off rfl rfl rfl rfl rfl<|L.off rfl rfl rfl rfl rfl<|L.off rfl rfl rfl rfl rfl<|L.off rfl rfl rfl rfl rfl<|L.off rfl rfl rfl rfl rfl<|L.v (R1.pickT rfl rfl) rfl<|L.nil<|X.seq ?_
     refine W.condT rfl<|W.seq<|W.region<|L.a rfl rfl<|L.a rfl rfl<|L.nil<|X.seq<|W.ret<|X.thenRet<|X.blockRet<|X.thenRet ?_
     refine X.nextRet<|X.blockRet<|X.thenRet<|X.result2 rfl (.tmp rfl (.tmp rfl .nil)) ?_
     have hbad:ChB (n:Int) cs os=false:=ChB_step (i:=i) (by omega) (fun h9=>by
       have h8:=h9.2
       rw [hgi] at h8
       first
       | (rw [hgd59] at h8; rcases h8 with h8 | h8; exact hc54 h8; exact absurd h8.1 (by decide))
       | (rcases h8 with h8 | h8; exact hc54 h8; apply hc68; rw [byZ_get os i (by omega),fi_neg1,who_no (by omega)]; intro k hk; have:=h8.2 k hk; omega))
     exact ⟨.pointer none,by rw [hbad],(fun h9=>by rw [hbad] at h9; cases h9),hm0⟩
    intro hc41
    try simp only [bq,ne_eq] at hc41
    obtain rfl:i=cs.length:=by omega
    refine W.exit<|X.thenExit<|X.nextExit<|X.here<|X.seq<|W.seq<|W.region<|L.m rfl rfl<|L.m rfl rfl<|L.m rfl rfl<|L.call rfl (c_Forest hL hbd hsm) rfl ?_
    rintro _ w11 ⟨rfl,hm11⟩
    replace hb37:=Blk.gr hb37 hm11;replace ho32:=own_gr ho32 hm11 (by simp);replace ho35:=own_gr ho35 hm11 (by simp);replace hm0:=hm0.trans hm11;clear hm11
    refine L.a rfl rfl<|L.a rfl rfl<|L.nil<|X.seq<|W.ret<|X.result2 rfl (.tmp rfl (.tmp rfl .nil)) ?_
    have hfull:=ChB_full hn1 hn2 hl1 hl2 hch
    rw [hfull]
    exact ⟨_,rfl,fun _=>⟨g37,v32,v35,rfl,hb37,ho32,by rw [hl2]; exact ho35,hge_g37,hno_ho32_g37,hno_ho35_g37,haw_ho32_ho35⟩,hm0⟩
   try simp only [bq,ne_eq] at hgd23
   refine L.off rfl rfl rfl rfl rfl<|L.off rfl rfl rfl rfl rfl<|L.off rfl rfl rfl rfl rfl<|L.off rfl rfl rfl rfl rfl<|L.off rfl rfl rfl rfl rfl<|L.v (R1.pickT rfl rfl) rfl<|L.nil<|X.seq<|W.condT rfl<|W.seq<|W.region ?_
   refine L.a rfl rfl<|L.a rfl rfl<|L.nil<|X.seq<|W.ret<|X.thenRet<|X.result2 rfl (.tmp rfl (.tmp rfl .nil)) ?_
   have hbad:ChB z0 cs os=false:=ChB_size (by omega)
   exact ⟨.pointer none,by rw [hbad],(fun h9=>by rw [hbad] at h9; cases h9),hm0⟩
  try simp only [bq,ne_eq] at hgd18
  refine L.off rfl rfl rfl rfl rfl<|L.off rfl rfl rfl rfl rfl<|L.off rfl rfl rfl rfl rfl<|L.v (R1.pickT rfl rfl) rfl<|L.m rfl rfl<|L.off rfl rfl rfl rfl rfl<|L.off rfl rfl rfl rfl rfl<|L.off rfl rfl rfl rfl rfl<|L.off rfl rfl rfl rfl rfl<|L.off rfl rfl rfl rfl rfl<|L.v (R1.pickT rfl rfl) rfl ?_
  refine L.nil<|X.seq<|W.condT rfl<|W.seq<|W.region<|L.a rfl rfl<|L.a rfl rfl<|L.nil<|X.seq<|W.ret<|X.thenRet ?_
  refine X.result2 rfl (.tmp rfl (.tmp rfl .nil)) ?_
  have hbad:ChB z0 cs os=false:=ChB_size (by omega)
  exact ⟨.pointer none,by rw [hbad],(fun h9=>by rw [hbad] at h9; cases h9),hm0⟩
 try simp only [bq,ne_eq] at hgd14
 refine L.off rfl rfl rfl rfl rfl<|L.off rfl rfl rfl rfl rfl<|L.v (R1.pickT rfl rfl) rfl<|L.m rfl rfl<|L.off rfl rfl rfl rfl rfl<|L.off rfl rfl rfl rfl rfl<|L.off rfl rfl rfl rfl rfl<|L.v (R1.pickT rfl rfl) rfl<|L.m rfl rfl<|L.off rfl rfl rfl rfl rfl<|L.off rfl rfl rfl rfl rfl ?_
 refine L.off rfl rfl rfl rfl rfl<|L.off rfl rfl rfl rfl rfl<|L.off rfl rfl rfl rfl rfl<|L.v (R1.pickT rfl rfl) rfl<|L.nil<|X.seq<|W.condT rfl<|W.seq<|W.region<|L.a rfl rfl<|L.a rfl rfl ?_
 refine L.nil<|X.seq<|W.ret<|X.thenRet<|X.result2 rfl (.tmp rfl (.tmp rfl .nil)) ?_
 have hbad:ChB z0 cs os=false:=ChB_size (by omega)
 exact ⟨.pointer none,by rw [hbad],(fun h9=>by rw [hbad] at h9; cases h9),hm0⟩
theorem c_dIs {M : List Nat} {w : World} {vl vo : Value} {cs : List CR} {os : List Int} {z0 : Int} (hL : Lay rdC M w vl cs) (hO : Lay rdI M w vo os) (hbd : Bd M w) (hsm : ∀ c ∈ cs, SmC 1099511627776 c) :
    Ret Tryz.prog 44 #[vl,vo,.int .i64 z0] w (fun r w'=>r=.bool (ChB z0 cs os)∧Mod [] w w'):=by
 refine Ret.of (vs:=[vl,vo,.int .i64 z0]) (n:=17) Tryz.func44 rfl rfl rfl rfl ?_
 have hm0:Mod [] w w:=Mod.refl _ _
 refine W.seq<|W.region<|L.a rfl rfl<|L.nil<|X.seq<|W.seq<|W.region<|L.m rfl rfl<|L.m rfl rfl<|L.m rfl rfl<|L.call rfl (c_chosen hL hO hbd hsm) rfl ?_
 rintro _ w1 ⟨p13,rfl,_,hm1⟩
 replace hm0:=hm0.trans hm1;clear hm1
 refine L.m rfl rfl<|L.v (R1.extract rfl rfl) rfl<|L.v (R1.extract rfl rfl) rfl<|L.a rfl rfl<|L.a rfl rfl<|L.nil<|X.seq<|W.seq<|W.region<|L.m rfl rfl<|L.a rfl rfl ?_
 refine L.nil<|X.seq<|W.ret<|X.result1 rfl (.tmp rfl .nil) ?_
 exact ⟨rfl,hm0⟩
theorem c_r13_has {N9 : List Nat} {w : World} {c : CR} {vt vn vd : Value} (ht : Lay rdT N9 w vt c.ts) (h : U32 N9 w vn c.k.n) (k : U32 N9 w vd c.k.d) {v : Int} :
    Ret Tryz.prog 58 #[.agg #[.int .i64 c.st,vt,.bool c.k.s,vn,vd],.int .i64 v] w (fun r w'=>r=.bool (hasV c v)∧Mod [] w w'):=by
 obtain ⟨T9,t9,rfl⟩:=ht.form;obtain ⟨A9,c9,rfl⟩:=h.form;obtain ⟨B9,e9,rfl⟩:=k.form;have hmaxt:=ht.max; unfold maxLen at hmaxt
 refine Ret.of (vs:=[.agg #[.int .i64 c.st,.slice T9 c.ts.length t9,.bool c.k.s,.slice A9 c.k.n.length c9,.slice B9 c.k.d.length e9],.int .i64 v]) (n:=21) Tryz.func58 rfl rfl rfl rfl ?_
 have hm0:Mod [] w w:=Mod.refl _ _
 refine W.seq<|W.region<|L.box rfl rfl ?_
 intro g2 w1 hN2
 replace ht:=ht.new hN2;replace h:=h.new hN2;replace k:=k.new hN2;replace hm0:=hm0.trans (hN2.mod.mono (by simp));have hb2:=hN2.blk;clear hN2
 refine L.a rfl rfl<|L.nil<|X.seq<|W.seq<|W.seq<|W.region<|L.a rfl rfl<|L.nil<|X.seq<|W.block<|W.loop (ι:=Nat) (fun i=>[(2,.pointer (some ⟨g2,0,none⟩)),(1,.int .i64 v),(5,.int .i64 ((i:Nat):Int))]) (fun i w_=>Lay rdT (g2 :: N9) w_ (.slice T9 c.ts.length t9) c.ts∧Blk w_ g2 47 #[.int .i64 c.st,.slice T9 c.ts.length t9,.bool c.k.s,.slice A9 c.k.n.length c9,.slice B9 c.k.d.length e9]∧i≤c.ts.length∧(∀ z∈c.ts.take i,decide (z.v=v)=false)∧Mod [] w w_) (fun i=>c.ts.length - i) 0 ?_ ?_ ?_
 · exact ⟨rfl,rfl,rfl,trivial⟩
 ·
  exact ⟨ht.su,hb2,Nat.zero_le _,(fun z h=>by simp at h),hm0⟩
 rintro i w2 ⟨ht,hb2,hi,hno,hm0⟩
 refine W.seq<|W.seq<|W.region<|L.m rfl rfl<|L.v (R1.fieldAt rfl tyF47_1) rfl<|L.v (R1.loadFld rfl hb2 rfl tyP44) rfl<|L.v (R1.lenLay rfl ht tyS44) rfl<|L.v (R1.lt rfl rfl) rfl<|L.nil<|X.seq<|W.cond rfl ?_ ?_
 ·
  intro hc10
  try simp only [bq,ne_eq] at hc10
  refine W.skip<|X.seq<|W.seq<|W.block<|W.seq<|W.region<|L.v (R1.fieldAt rfl tyF47_1) rfl<|L.v (R1.loadFld rfl hb2 rfl tyP44) rfl<|L.m rfl rfl<|L.v (R1.atLay (j:=i) rfl rfl ht tyS44 rfl (by omega)) rfl<|L.v (R1.fieldAddr rfl tyF43_0) rfl ?_
  obtain ⟨z18,cs18,hz18,hE18,ds18,rfl,vn18,vd18,rfl,hn18,hd18⟩:=Lay.elemQ ht (j:=i) (by omega);obtain ⟨A18,c18,rfl⟩:=hn18.form;obtain ⟨B18,e18,rfl⟩:=hd18.form
  refine L.v (R1.loadEF rfl hE18 rfl tyP3) rfl<|L.m rfl rfl<|L.v (R1.eq rfl rfl) rfl<|L.nil<|X.seq<|W.cond rfl ?_ ?_
  ·
   intro hc20
   try simp only [bq,ne_eq] at hc20
   refine W.seq<|W.region<|L.a rfl rfl<|L.nil<|X.seq<|W.ret<|X.blockRet<|X.thenRet<|X.nextRet<|X.blockRet<|X.thenRet ?_
   refine X.result1 rfl (.tmp rfl .nil)<|⟨?_,hm0⟩
   have h9:hasV c v=true:=List.any_eq_true.2 ⟨z18,List.mem_of_getElem? hz18,decide_eq_true hc20⟩
   rw [h9]
  intro hc20
  try simp only [bq,ne_eq] at hc20
  refine W.skip<|X.blockEnd<|X.seq<|W.region<|L.m rfl rfl<|L.v (R1.addI (b:=1) rfl rfl (by omega)) rfl<|L.a rfl rfl<|L.nil<|X.next (i + 1) ?_ ?_ ?_
  · exact ⟨rfl,rfl,rfl,trivial⟩
  ·
   refine ⟨ht,hb2,by omega,fun z hz=>?_,hm0⟩
   obtain ⟨hi9,he9⟩:=List.getElem?_eq_some_iff.1 hz18
   rw [List.take_succ_eq_append_getElem hi9,he9] at hz
   rcases List.mem_append.1 hz with h9 | h9
   · exact hno z h9
   rw [List.mem_singleton.1 h9]; exact decide_eq_false hc20
  first | omega | (dsimp only; omega)
 intro hc10
 try simp only [bq,ne_eq] at hc10
 obtain rfl:i=c.ts.length:=by omega
 refine W.exit<|X.thenExit<|X.nextExit<|X.here<|X.seq<|W.seq<|W.region<|L.a rfl rfl<|L.nil<|X.seq<|W.ret ?_
 refine X.result1 rfl (.tmp rfl .nil) ?_
 rw [List.take_length] at hno
 refine ⟨?_,hm0⟩
 have h9:hasV c v=false:=any_no hno
 rw [h9]
theorem c_r13_Is {M : List Nat} {w : World} {vl vo : Value} {cs : List CR} {os : List Int} {z0 : Int} (hL : Lay rdC M w vl cs) (hO : Lay rdI M w vo os) (hbd : Bd M w) (hsm : ∀ c ∈ cs, SmC 1099511627776 c) :
    Ret Tryz.prog 27 #[vl,vo,.int .i64 z0] w (fun r w'=>r=.bool (ChB z0 cs os)∧Mod [] w w'):=by
 obtain ⟨TL,tL,rfl⟩:=hL.form;obtain ⟨TO,tO,rfl⟩:=hO.form;have hmaxL:=hL.max; unfold maxLen at hmaxL;have hmaxO:=hO.max; unfold maxLen at hmaxO
 refine Ret.of (vs:=[.slice TL cs.length tL,.slice TO os.length tO,.int .i64 z0]) (n:=91) Tryz.func27 rfl rfl rfl rfl ?_
 have hm0:Mod [] w w:=Mod.refl _ _
 refine W.seq<|W.region<|L.a rfl rfl<|L.nil<|X.seq<|W.seq<|W.seq<|W.region<|L.m rfl rfl<|L.v ((R1.lt rfl rfl).asB (c:=(decide (z0<1))) (rfl)) rfl<|L.m rfl rfl ?_
 cases hgd11:(decide (z0<1))
 ·
  try simp only [bq,ne_eq] at hgd11
  refine L.on rfl rfl rfl (R1.move rfl) rfl<|L.on rfl rfl rfl ((R1.gt rfl rfl).asB (c:=(decide (64<z0))) (rfl)) rfl<|L.v (R1.pickF rfl rfl) rfl<|L.m rfl rfl ?_
  cases hgd15:(decide (64<z0))
  ·
   try simp only [bq,ne_eq] at hgd15
   refine L.on rfl rfl rfl (R1.move rfl) rfl<|L.on rfl rfl rfl (R1.lenLay rfl hL tyS22) rfl<|L.on rfl rfl rfl ((R1.gt rfl rfl).asB (c:=(decide ((256:Int)<(cs.length:Int)))) (rfl)) rfl<|L.v (R1.pickF rfl rfl) rfl<|L.m rfl rfl ?_
   cases hgd20:(decide ((256:Int)<(cs.length:Int)))
   ·
    try simp only [bq,ne_eq] at hgd20
    refine L.on rfl rfl rfl (R1.move rfl) rfl<|L.on rfl rfl rfl (R1.lenLay rfl hO tyS29) rfl<|L.on rfl rfl rfl (R1.move rfl) rfl<|L.on rfl rfl rfl (R1.lenLay rfl hL tyS22) rfl<|L.on rfl rfl rfl (R1.ne rfl rfl) rfl<|L.v (R1.pickF rfl rfl) rfl<|L.nil<|X.seq<|W.cond rfl ?_ ?_
    ·
     intro hc26
     try simp only [bq,ne_eq] at hc26
     refine W.seq<|W.region<|L.a rfl rfl<|L.nil<|X.seq<|W.ret<|X.thenRet<|X.result1 rfl (.tmp rfl .nil) ?_
     have hbad:ChB z0 cs os=false:=ChB_size (by omega)
     rw [hbad]
     exact ⟨rfl,hm0⟩
    intro hc26
    try simp only [bq,ne_eq] at hc26
    obtain ⟨n,rfl⟩:∃ n:Nat,z0=(n:Int):=⟨z0.toNat,by omega⟩
    have hn1:1≤n:=by omega
    have hn2:n≤64:=by omega
    have hl1:cs.length≤256:=by omega
    have hl2:os.length=cs.length:=by omega
    refine W.skip<|X.seq<|W.seq<|W.seq<|W.region<|L.a rfl rfl<|L.nil<|X.seq<|W.block<|W.loop (ι:=Nat) (fun i=>[(0,.slice TL cs.length tL),(1,.slice TO os.length tO),(2,.int .i64 ((n:Nat):Int)),(7,.int .i64 ((i:Nat):Int))]) (fun i w_=>Lay rdC M w_ (.slice TL cs.length tL) cs∧Lay rdI M w_ (.slice TO os.length tO) os∧Bd M w_∧i≤cs.length∧chP (n:Int) cs os i∧Mod [] w w_) (fun i=>cs.length - i) 0 ?_ ?_ ?_
    · exact ⟨rfl,rfl,rfl,rfl,trivial⟩
    ·
     exact ⟨hL.su,hO.su,hbd.su,Nat.zero_le _,chP_zero,hm0⟩
    rintro i w1 ⟨hL,hO,hbd,hi,hch,hm0⟩
    refine W.seq<|W.seq<|W.region<|L.m rfl rfl<|L.m rfl rfl<|L.v (R1.lenLay rfl hL tyS22) rfl<|L.v (R1.lt rfl rfl) rfl<|L.nil<|X.seq<|W.cond rfl ?_ ?_
    ·
     intro hc30
     try simp only [bq,ne_eq] at hc30
     refine W.skip<|X.seq<|W.seq<|W.block<|W.seq<|W.seq<|W.drawW (T:=[]) rfl (by decide +kernel) (NoHang.then (NoHang.then (NoHang.block (NoHang.then (NoHang.next (NoHang.block (NoHang.then NoHang.post))))))) (fun w2 hm2=>?_)
     replace hL:=hL.gr hm2;replace hO:=hO.gr hm2;replace hbd:=hbd.gr hm2;replace hm0:=hm0.trans hm2
     have hS1:Mod [] w2 w2:=Mod.refl _ _
     clear hm2;have hL_s:=hL;have hO_s:=hO
     refine D.m 0 rfl (by kernel_rfl) rfl hS1 rfl<|D.m 1 rfl (by kernel_rfl) rfl hS1 rfl<|D.take 2 rfl (by kernel_rfl) (fun w_ hS=>(R1.atLay (j:=i) rfl rfl (Lay.gr hL_s hS) tyS22 rfl (by omega))) hS1 rfl ?_
     obtain ⟨z36,cs36,hz36,hE36,vt36,ds36,rfl,ht36,vn36,vd36,rfl,hn36,hd36⟩:=Lay.elemQ hL_s (j:=i) (by omega);obtain ⟨T36,t36,rfl⟩:=ht36.form;obtain ⟨A36,c36,rfl⟩:=hn36.form;obtain ⟨B36,e36,rfl⟩:=hd36.form;replace ht36:=ht36.gr hS1;replace hn36:=hn36.gr hS1;replace hd36:=hd36.gr hS1
     refine D.take 3 rfl (by kernel_rfl) (fun w_ hS=>(R1.loadE rfl (SlE.gr hE36 hS) tyG47)) hS1 rfl<|D.m 4 rfl (by kernel_rfl) rfl hS1 rfl<|D.one 5 rfl (by kernel_rfl) (fun hX=>?_)
     refine L.call rfl (c_ref8_Is ht36 hn36 hd36 (n:=(n:Int)) (by omega) hbd (hsm _ (List.mem_of_getElem? hz36))) rfl ?_
     rintro _ w3 ⟨rfl,hm3⟩
     replace hL:=hL.gr hm3;replace hO:=hO.gr hm3;replace hbd:=hbd.gr hm3;replace hm0:=hm0.trans hm3;replace hS1:=hS1.trans hm3;clear hm3
     refine L.nil (hX _ _ ⟨.inr hS1,?_⟩)
     refine D.take 6 rfl (by kernel_rfl) (fun w_ hS=>(R1.not rfl)) hS1 rfl<|D.m 7 rfl (by kernel_rfl) rfl hS1 rfl ?_
     cases hgd40:(!(isC z36 (n:Int)))
     ·
      simp only [Bool.not_eq_true',Bool.not_eq_false'] at hgd40
      refine D.takeOn 8 rfl rfl rfl rfl (by kernel_rfl) (fun w_ hS=>(R1.move rfl)) hS1 rfl<|D.takeOn 9 rfl rfl rfl rfl (by kernel_rfl) (fun w_ hS=>(R1.move rfl)) hS1 rfl<|D.takeOn 10 rfl rfl rfl rfl (by kernel_rfl) (fun w_ hS=>(R1.atLay (j:=i) rfl rfl (Lay.gr hO_s hS) tyS29 rfl (by omega))) hS1 rfl<|D.takeOn 11 rfl rfl rfl rfl (by kernel_rfl) (fun w_ hS=>(R1.loadLI rfl (Lay.gr hO_s hS) tyP3 (by omega) (getD_at _))) hS1 rfl<|D.takeOn 12 rfl rfl rfl rfl (by kernel_rfl) (fun w_ hS=>((R1.lt rfl rfl).asB (c:=(decide ((os.getD i 0) < -1))) (rfl))) hS1 rfl<|D.take 13 rfl (by kernel_rfl) (fun w_ hS=>(R1.pickF rfl rfl)) hS1 rfl<|D.m 14 rfl (by kernel_rfl) rfl hS1 rfl ?_
      cases hgd47:(decide ((os.getD i 0) < -1))
      ·
       try simp only [bq,ne_eq] at hgd47
       refine D.takeOn 15 rfl rfl rfl rfl (by kernel_rfl) (fun w_ hS=>(R1.move rfl)) hS1 rfl<|D.takeOn 16 rfl rfl rfl rfl (by kernel_rfl) (fun w_ hS=>(R1.move rfl)) hS1 rfl<|D.takeOn 17 rfl rfl rfl rfl (by kernel_rfl) (fun w_ hS=>(R1.atLay (j:=i) rfl rfl (Lay.gr hO_s hS) tyS29 rfl (by omega))) hS1 rfl<|D.takeOn 18 rfl rfl rfl rfl (by kernel_rfl) (fun w_ hS=>(R1.loadLI rfl (Lay.gr hO_s hS) tyP3 (by omega) (getD_at _))) hS1 rfl<|D.takeOn 19 rfl rfl rfl rfl (by kernel_rfl) (fun w_ hS=>((R1.ge rfl rfl).asB (c:=(decide (0≤(os.getD i 0)))) (rfl))) hS1 rfl<|D.takeOn 20 rfl rfl rfl rfl (by kernel_rfl) (fun w_ hS=>(R1.move rfl)) hS1 rfl ?_
       cases hgd53:(decide (0≤(os.getD i 0)))
       ·
        try simp only [bq,ne_eq] at hgd53
        refine D.off 21 rfl rfl rfl rfl rfl (by kernel_rfl) hS1 rfl<|D.off 22 rfl rfl rfl rfl rfl (by kernel_rfl) hS1 rfl<|D.off 23 rfl rfl rfl rfl rfl (by kernel_rfl) hS1 rfl<|D.off 24 rfl rfl rfl rfl rfl (by kernel_rfl) hS1 rfl<|D.off 25 rfl rfl rfl rfl rfl (by kernel_rfl) hS1 rfl<|D.off 26 rfl rfl rfl rfl rfl (by kernel_rfl) hS1 rfl<|D.off 27 rfl rfl rfl rfl rfl (by kernel_rfl) hS1 rfl<|D.off 28 rfl rfl rfl rfl rfl (by kernel_rfl) hS1 rfl<|D.off 29 rfl rfl rfl rfl rfl (by kernel_rfl) hS1 rfl<|D.off 30 rfl rfl rfl rfl rfl (by kernel_rfl) hS1 rfl<|D.takeOn 31 rfl rfl rfl rfl (by kernel_rfl) (fun w_ hS=>(R1.pickF rfl rfl)) hS1 rfl ?_
        refine D.take 32 rfl (by kernel_rfl) (fun w_ hS=>(R1.pickF rfl rfl)) hS1 rfl<|D.done (by decide +kernel) ?_ _
        refine X.seq<|W.condF rfl<|W.skip<|X.seq<|W.seq<|W.region<|L.a rfl rfl<|L.nil<|X.seq<|W.block ?_
        have hst:(os.getD i 0)=-1∨hasV z36 (os.getD i 0)=true:=by first | exact .inr hc65 | exact .inl (by omega)
        refine W.loop (ι:=Nat) (fun k=>[(0,.slice TL cs.length tL),(1,.slice TO os.length tO),(2,.int .i64 ((n:Nat):Int)),(7,.int .i64 ((i:Nat):Int)),(8,.int .i64 ((k:Nat):Int))]) (fun k w_=>Lay rdC M w_ (.slice TL cs.length tL) cs∧Lay rdI M w_ (.slice TO os.length tO) os∧Bd M w_∧chP (n:Int) cs os i∧Mod [] w w_∧k≤i∧(∀ j,j<k→0≤os.getD i 0→os.getD j 0≠os.getD i 0)) (fun k=>i - k) 0 ?_ ?_ ?_
        · exact ⟨rfl,rfl,rfl,rfl,rfl,trivial⟩
        ·
         exact ⟨hL.su,hO.su,hbd.su,hch,hm0,Nat.zero_le _,(fun j h=>by omega)⟩
        rintro k w4 ⟨hL,hO,hbd,hch,hm0,hk,hno⟩
        refine W.seq<|W.seq<|W.region<|L.m rfl rfl<|L.m rfl rfl<|L.v (R1.lt rfl rfl) rfl<|L.nil<|X.seq<|W.cond rfl ?_ ?_
        ·
         intro hc68
         try simp only [bq,ne_eq] at hc68
         refine W.skip<|X.seq<|W.seq<|W.block<|W.seq<|W.drawW (T:=[]) rfl (by decide +kernel) (NoHang.then (NoHang.block (NoHang.then (NoHang.next (NoHang.block (NoHang.block (NoHang.then (NoHang.next (NoHang.block (NoHang.then NoHang.post)))))))))) (fun w5 hm5=>?_)
         replace hL:=hL.gr hm5;replace hO:=hO.gr hm5;replace hbd:=hbd.gr hm5;replace hm0:=hm0.trans hm5
         have hS2:Mod [] w5 w5:=Mod.refl _ _
         clear hm5
         refine D.m 0 rfl (by kernel_rfl) rfl hS2 rfl<|D.m 1 rfl (by kernel_rfl) rfl hS2 rfl<|D.take 2 rfl (by kernel_rfl) (fun w_ hS=>(R1.atLay (j:=i) rfl rfl (Lay.gr hO hS) tyS29 rfl (by omega))) hS2 rfl<|D.take 3 rfl (by kernel_rfl) (fun w_ hS=>(R1.loadLI rfl (Lay.gr hO hS) tyP3 (by omega) (getD_at _))) hS2 rfl<|D.take 4 rfl (by kernel_rfl) (fun w_ hS=>((R1.ge rfl rfl).asB (c:=(decide (0≤(os.getD i 0)))) (rfl))) hS2 rfl<|D.m 5 rfl (by kernel_rfl) rfl hS2 rfl ?_
         cases hgd76:(decide (0≤(os.getD i 0)))
         ·
          try simp only [bq,ne_eq] at hgd76
          refine D.off 6 rfl rfl rfl rfl rfl (by kernel_rfl) hS2 rfl<|D.off 7 rfl rfl rfl rfl rfl (by kernel_rfl) hS2 rfl<|D.off 8 rfl rfl rfl rfl rfl (by kernel_rfl) hS2 rfl<|D.off 9 rfl rfl rfl rfl rfl (by kernel_rfl) hS2 rfl<|D.off 10 rfl rfl rfl rfl rfl (by kernel_rfl) hS2 rfl<|D.off 11 rfl rfl rfl rfl rfl (by kernel_rfl) hS2 rfl<|D.off 12 rfl rfl rfl rfl rfl (by kernel_rfl) hS2 rfl<|D.off 13 rfl rfl rfl rfl rfl (by kernel_rfl) hS2 rfl<|D.off 14 rfl rfl rfl rfl rfl (by kernel_rfl) hS2 rfl<|D.take 15 rfl (by kernel_rfl) (fun w_ hS=>(R1.pickF rfl rfl)) hS2 rfl<|D.done (by decide +kernel) ?_ _
          refine X.seq<|W.condF rfl<|W.skip<|X.blockEnd<|X.seq<|W.region<|L.m rfl rfl<|L.v (R1.addI (b:=1) rfl rfl (by omega)) rfl<|L.a rfl rfl<|L.nil<|X.next (k + 1) ?_ ?_ ?_
          · exact ⟨rfl,rfl,rfl,rfl,rfl,trivial⟩
          ·
           exact ⟨hL.su,hO.su,hbd.su,hch,hm0,by omega,(fun j hj h0=>by rcases Nat.lt_or_ge j k with h9 | h9; exact hno j h9 h0; obtain rfl:j=k:=(by omega); first | exact hc86 | omega)⟩
          first | omega | (dsimp only; omega)
         try simp only [bq,ne_eq] at hgd76
         refine D.takeOn 6 rfl rfl rfl rfl (by kernel_rfl) (fun w_ hS=>(R1.move rfl)) hS2 rfl<|D.takeOn 7 rfl rfl rfl rfl (by kernel_rfl) (fun w_ hS=>(R1.move rfl)) hS2 rfl<|D.takeOn 8 rfl rfl rfl rfl (by kernel_rfl) (fun w_ hS=>(R1.atLay (j:=k) rfl rfl (Lay.gr hO hS) tyS29 rfl (by omega))) hS2 rfl<|D.takeOn 9 rfl rfl rfl rfl (by kernel_rfl) (fun w_ hS=>(R1.loadLI rfl (Lay.gr hO hS) tyP3 (by omega) (getD_at _))) hS2 rfl<|D.takeOn 10 rfl rfl rfl rfl (by kernel_rfl) (fun w_ hS=>(R1.move rfl)) hS2 rfl<|D.takeOn 11 rfl rfl rfl rfl (by kernel_rfl) (fun w_ hS=>(R1.move rfl)) hS2 rfl<|D.takeOn 12 rfl rfl rfl rfl (by kernel_rfl) (fun w_ hS=>(R1.atLay (j:=i) rfl rfl (Lay.gr hO hS) tyS29 rfl (by omega))) hS2 rfl<|D.takeOn 13 rfl rfl rfl rfl (by kernel_rfl) (fun w_ hS=>(R1.loadLI rfl (Lay.gr hO hS) tyP3 (by omega) (getD_at _))) hS2 rfl<|D.takeOn 14 rfl rfl rfl rfl (by kernel_rfl) (fun w_ hS=>((R1.eq rfl rfl).asB (c:=(decide (os.getD k 0=(os.getD i 0)))) (rfl))) hS2 rfl<|D.take 15 rfl (by kernel_rfl) (fun w_ hS=>(R1.pickT rfl rfl)) hS2 rfl<|D.done (by decide +kernel) ?_ _
         refine X.seq<|W.cond rfl ?_ ?_
         ·
          intro hc86
          try simp only [bq,ne_eq] at hc86
          refine W.seq<|W.region<|L.a rfl rfl<|L.nil<|X.seq<|W.ret<|X.blockRet<|X.thenRet<|X.nextRet<|X.blockRet<|X.blockRet ?_
          refine X.thenRet<|X.nextRet<|X.blockRet<|X.thenRet<|X.result1 rfl (.tmp rfl .nil) ?_
          have hbad:ChB (n:Int) cs os=false:=ChB_step (i:=i) (by omega) (fun h9=>by rcases h9.2 with h8 | h8; omega; exact h8.2 k (by omega) hc86)
          rw [hbad]
          exact ⟨rfl,hm0⟩
         intro hc86
         try simp only [bq,ne_eq] at hc86
         refine W.skip<|X.blockEnd<|X.seq<|W.region<|L.m rfl rfl<|L.v (R1.addI (b:=1) rfl rfl (by omega)) rfl<|L.a rfl rfl<|L.nil<|X.next (k + 1) ?_ ?_ ?_
         · exact ⟨rfl,rfl,rfl,rfl,rfl,trivial⟩
         ·
          exact ⟨hL.su,hO.su,hbd.su,hch,hm0,by omega,(fun j hj h0=>by rcases Nat.lt_or_ge j k with h9 | h9; exact hno j h9 h0; obtain rfl:j=k:=(by omega); first | exact hc86 | omega)⟩
         first | omega | (dsimp only; omega)
        intro hc68
        try simp only [bq,ne_eq] at hc68
        obtain rfl:i=k:=by omega
        refine W.exit<|X.thenExit<|X.nextExit<|X.here<|X.blockEnd<|X.seq<|W.region<|L.m rfl rfl<|L.v (R1.addI (b:=1) rfl rfl (by omega)) rfl<|L.a rfl rfl<|L.nil ?_
        refine X.next (i + 1) ?_ ?_ ?_
        · exact ⟨rfl,rfl,rfl,rfl,trivial⟩
        ·
         exact ⟨hL.su,hO.su,hbd.su,by omega,chP_succ hch ⟨by rw [getD_of_get hz36]; exact hgd40,by rw [getD_of_get hz36]; rcases hst with h9 | h9; exact .inl h9; exact .inr ⟨h9,fun j hj=>hno j hj (hasV_lt hgd40 h9).1⟩⟩,hm0⟩
        first | omega | (dsimp only; omega)
       try simp only [bq,ne_eq] at hgd53
       refine D.takeOn 21 rfl rfl rfl rfl (by kernel_rfl) (fun w_ hS=>(R1.move rfl)) hS1 rfl<|D.takeOn 22 rfl rfl rfl rfl (by kernel_rfl) (fun w_ hS=>(R1.move rfl)) hS1 rfl<|D.takeOn 23 rfl rfl rfl rfl (by kernel_rfl) (fun w_ hS=>(R1.atLay (j:=i) rfl rfl (Lay.gr hL_s hS) tyS22 rfl (by omega))) hS1 rfl ?_
       obtain ⟨z57,cs57,hz57,hE57,vt57,ds57,rfl,ht57,vn57,vd57,rfl,hn57,hd57⟩:=Lay.elemQ hL_s (j:=i) (by omega);obtain ⟨T57,t57,rfl⟩:=ht57.form;obtain ⟨A57,c57,rfl⟩:=hn57.form;obtain ⟨B57,e57,rfl⟩:=hd57.form
       obtain rfl:z36=z57:=by have h9:=hz57; rw [hz36] at h9; injection h9
       replace ht57:=ht57.gr hS1;replace hn57:=hn57.gr hS1;replace hd57:=hd57.gr hS1
       refine D.takeOn 24 rfl rfl rfl rfl (by kernel_rfl) (fun w_ hS=>(R1.loadE rfl (SlE.gr hE57 hS) tyG47)) hS1 rfl<|D.takeOn 25 rfl rfl rfl rfl (by kernel_rfl) (fun w_ hS=>(R1.move rfl)) hS1 rfl<|D.takeOn 26 rfl rfl rfl rfl (by kernel_rfl) (fun w_ hS=>(R1.move rfl)) hS1 rfl<|D.takeOn 27 rfl rfl rfl rfl (by kernel_rfl) (fun w_ hS=>(R1.atLay (j:=i) rfl rfl (Lay.gr hO_s hS) tyS29 rfl (by omega))) hS1 rfl<|D.takeOn 28 rfl rfl rfl rfl (by kernel_rfl) (fun w_ hS=>(R1.loadLI rfl (Lay.gr hO_s hS) tyP3 (by omega) (getD_at _))) hS1 rfl<|D.one 29 rfl (by kernel_rfl) (fun hX=>?_)
       refine L.callOn rfl rfl rfl rfl (c_r13_has ht57 hn57 hd57) rfl ?_
       rintro _ w6 ⟨rfl,hm6⟩
       replace hL:=hL.gr hm6;replace hO:=hO.gr hm6;replace hbd:=hbd.gr hm6;replace hm0:=hm0.trans hm6;replace hS1:=hS1.trans hm6;clear hm6
       refine L.nil (hX _ _ ⟨.inr hS1,?_⟩)
       refine D.takeOn 30 rfl rfl rfl rfl (by kernel_rfl) (fun w_ hS=>(R1.not rfl)) hS1 rfl<|D.takeOn 31 rfl rfl rfl rfl (by kernel_rfl) (fun w_ hS=>(R1.pickT rfl rfl)) hS1 rfl<|D.take 32 rfl (by kernel_rfl) (fun w_ hS=>(R1.pickF rfl rfl)) hS1 rfl<|D.done (by decide +kernel) ?_ _
       refine X.seq<|W.cond rfl ?_ ?_
       ·
        intro hc65
        simp only [Bool.not_eq_true',Bool.not_eq_false'] at hc65
        refine W.seq<|W.region<|L.a rfl rfl<|L.nil<|X.seq<|W.ret<|X.thenRet<|X.blockRet<|X.thenRet<|X.nextRet<|X.blockRet ?_
        refine X.thenRet<|X.result1 rfl (.tmp rfl .nil) ?_
        have hbad:ChB (n:Int) cs os=false:=ChB_step (i:=i) (by omega) (fun h9=>by
          obtain ⟨h7,h8⟩:=h9
          rw [getD_of_get hz36] at h7 h8
          first
          | (rw [hgd40] at h7; exact absurd h7 (by decide))
          | (rcases h8 with h8 | h8; omega; have h6:=hasV_lt h7 h8.1; first | omega | (rw [hc65] at h8; exact absurd h8.1 (by decide))))
        rw [hbad]
        exact ⟨rfl,hm0⟩
       intro hc65
       simp only [Bool.not_eq_true',Bool.not_eq_false'] at hc65
       refine W.skip<|X.seq<|W.seq<|W.region<|L.a rfl rfl<|L.nil<|X.seq<|W.block ?_
       have hst:(os.getD i 0)=-1∨hasV z36 (os.getD i 0)=true:=by first | exact .inr hc65 | exact .inl (by omega)
       refine W.loop (ι:=Nat) (fun k=>[(0,.slice TL cs.length tL),(1,.slice TO os.length tO),(2,.int .i64 ((n:Nat):Int)),(7,.int .i64 ((i:Nat):Int)),(8,.int .i64 ((k:Nat):Int))]) (fun k w_=>Lay rdC M w_ (.slice TL cs.length tL) cs∧Lay rdI M w_ (.slice TO os.length tO) os∧Bd M w_∧chP (n:Int) cs os i∧Mod [] w w_∧k≤i∧(∀ j,j<k→0≤os.getD i 0→os.getD j 0≠os.getD i 0)) (fun k=>i - k) 0 ?_ ?_ ?_
       · exact ⟨rfl,rfl,rfl,rfl,rfl,trivial⟩
       ·
        exact ⟨hL.su,hO.su,hbd.su,hch,hm0,Nat.zero_le _,(fun j h=>by omega)⟩
       rintro k w7 ⟨hL,hO,hbd,hch,hm0,hk,hno⟩
       refine W.seq<|W.seq<|W.region<|L.m rfl rfl<|L.m rfl rfl<|L.v (R1.lt rfl rfl) rfl<|L.nil<|X.seq<|W.cond rfl ?_ ?_
       ·
        intro hc68
        try simp only [bq,ne_eq] at hc68
        refine W.skip<|X.seq<|W.seq<|W.block<|W.seq<|W.drawW (T:=[]) rfl (by decide +kernel) (NoHang.then (NoHang.block (NoHang.then (NoHang.next (NoHang.block (NoHang.block (NoHang.then (NoHang.next (NoHang.block (NoHang.then NoHang.post)))))))))) (fun w8 hm8=>?_)
        replace hL:=hL.gr hm8;replace hO:=hO.gr hm8;replace hbd:=hbd.gr hm8;replace hm0:=hm0.trans hm8
        have hS3:Mod [] w8 w8:=Mod.refl _ _
        clear hm8
        refine D.m 0 rfl (by kernel_rfl) rfl hS3 rfl<|D.m 1 rfl (by kernel_rfl) rfl hS3 rfl<|D.take 2 rfl (by kernel_rfl) (fun w_ hS=>(R1.atLay (j:=i) rfl rfl (Lay.gr hO hS) tyS29 rfl (by omega))) hS3 rfl<|D.take 3 rfl (by kernel_rfl) (fun w_ hS=>(R1.loadLI rfl (Lay.gr hO hS) tyP3 (by omega) (getD_at _))) hS3 rfl<|D.take 4 rfl (by kernel_rfl) (fun w_ hS=>((R1.ge rfl rfl).asB (c:=(decide (0≤(os.getD i 0)))) (rfl))) hS3 rfl<|D.m 5 rfl (by kernel_rfl) rfl hS3 rfl ?_
        cases hgd76:(decide (0≤(os.getD i 0)))
        ·
         try simp only [bq,ne_eq] at hgd76
         refine D.off 6 rfl rfl rfl rfl rfl (by kernel_rfl) hS3 rfl<|D.off 7 rfl rfl rfl rfl rfl (by kernel_rfl) hS3 rfl<|D.off 8 rfl rfl rfl rfl rfl (by kernel_rfl) hS3 rfl<|D.off 9 rfl rfl rfl rfl rfl (by kernel_rfl) hS3 rfl<|D.off 10 rfl rfl rfl rfl rfl (by kernel_rfl) hS3 rfl<|D.off 11 rfl rfl rfl rfl rfl (by kernel_rfl) hS3 rfl<|D.off 12 rfl rfl rfl rfl rfl (by kernel_rfl) hS3 rfl<|D.off 13 rfl rfl rfl rfl rfl (by kernel_rfl) hS3 rfl<|D.off 14 rfl rfl rfl rfl rfl (by kernel_rfl) hS3 rfl<|D.take 15 rfl (by kernel_rfl) (fun w_ hS=>(R1.pickF rfl rfl)) hS3 rfl<|D.done (by decide +kernel) ?_ _
         refine X.seq<|W.condF rfl<|W.skip<|X.blockEnd<|X.seq<|W.region<|L.m rfl rfl<|L.v (R1.addI (b:=1) rfl rfl (by omega)) rfl<|L.a rfl rfl<|L.nil<|X.next (k + 1) ?_ ?_ ?_
         · exact ⟨rfl,rfl,rfl,rfl,rfl,trivial⟩
         ·
          exact ⟨hL.su,hO.su,hbd.su,hch,hm0,by omega,(fun j hj h0=>by rcases Nat.lt_or_ge j k with h9 | h9; exact hno j h9 h0; obtain rfl:j=k:=(by omega); first | exact hc86 | omega)⟩
         first | omega | (dsimp only; omega)
        try simp only [bq,ne_eq] at hgd76
        refine D.takeOn 6 rfl rfl rfl rfl (by kernel_rfl) (fun w_ hS=>(R1.move rfl)) hS3 rfl<|D.takeOn 7 rfl rfl rfl rfl (by kernel_rfl) (fun w_ hS=>(R1.move rfl)) hS3 rfl<|D.takeOn 8 rfl rfl rfl rfl (by kernel_rfl) (fun w_ hS=>(R1.atLay (j:=k) rfl rfl (Lay.gr hO hS) tyS29 rfl (by omega))) hS3 rfl<|D.takeOn 9 rfl rfl rfl rfl (by kernel_rfl) (fun w_ hS=>(R1.loadLI rfl (Lay.gr hO hS) tyP3 (by omega) (getD_at _))) hS3 rfl<|D.takeOn 10 rfl rfl rfl rfl (by kernel_rfl) (fun w_ hS=>(R1.move rfl)) hS3 rfl<|D.takeOn 11 rfl rfl rfl rfl (by kernel_rfl) (fun w_ hS=>(R1.move rfl)) hS3 rfl<|D.takeOn 12 rfl rfl rfl rfl (by kernel_rfl) (fun w_ hS=>(R1.atLay (j:=i) rfl rfl (Lay.gr hO hS) tyS29 rfl (by omega))) hS3 rfl<|D.takeOn 13 rfl rfl rfl rfl (by kernel_rfl) (fun w_ hS=>(R1.loadLI rfl (Lay.gr hO hS) tyP3 (by omega) (getD_at _))) hS3 rfl<|D.takeOn 14 rfl rfl rfl rfl (by kernel_rfl) (fun w_ hS=>((R1.eq rfl rfl).asB (c:=(decide (os.getD k 0=(os.getD i 0)))) (rfl))) hS3 rfl<|D.take 15 rfl (by kernel_rfl) (fun w_ hS=>(R1.pickT rfl rfl)) hS3 rfl<|D.done (by decide +kernel) ?_ _
        refine X.seq<|W.cond rfl ?_ ?_
        ·
         intro hc86
         try simp only [bq,ne_eq] at hc86
         refine W.seq<|W.region<|L.a rfl rfl<|L.nil<|X.seq<|W.ret<|X.blockRet<|X.thenRet<|X.nextRet<|X.blockRet<|X.blockRet ?_
         refine X.thenRet<|X.nextRet<|X.blockRet<|X.thenRet<|X.result1 rfl (.tmp rfl .nil) ?_
         have hbad:ChB (n:Int) cs os=false:=ChB_step (i:=i) (by omega) (fun h9=>by rcases h9.2 with h8 | h8; omega; exact h8.2 k (by omega) hc86)
         rw [hbad]
         exact ⟨rfl,hm0⟩
        intro hc86
        try simp only [bq,ne_eq] at hc86
        refine W.skip<|X.blockEnd<|X.seq<|W.region<|L.m rfl rfl<|L.v (R1.addI (b:=1) rfl rfl (by omega)) rfl<|L.a rfl rfl<|L.nil<|X.next (k + 1) ?_ ?_ ?_
        · exact ⟨rfl,rfl,rfl,rfl,rfl,trivial⟩
        ·
         exact ⟨hL.su,hO.su,hbd.su,hch,hm0,by omega,(fun j hj h0=>by rcases Nat.lt_or_ge j k with h9 | h9; exact hno j h9 h0; obtain rfl:j=k:=(by omega); first | exact hc86 | omega)⟩
        first | omega | (dsimp only; omega)
       intro hc68
       try simp only [bq,ne_eq] at hc68
       obtain rfl:i=k:=by omega
       refine W.exit<|X.thenExit<|X.nextExit<|X.here<|X.blockEnd<|X.seq<|W.region<|L.m rfl rfl<|L.v (R1.addI (b:=1) rfl rfl (by omega)) rfl<|L.a rfl rfl<|L.nil ?_
       refine X.next (i + 1) ?_ ?_ ?_
       · exact ⟨rfl,rfl,rfl,rfl,trivial⟩
       ·
        exact ⟨hL.su,hO.su,hbd.su,by omega,chP_succ hch ⟨by rw [getD_of_get hz36]; exact hgd40,by rw [getD_of_get hz36]; rcases hst with h9 | h9; exact .inl h9; exact .inr ⟨h9,fun j hj=>hno j hj (hasV_lt hgd40 h9).1⟩⟩,hm0⟩
       first | omega | (dsimp only; omega)
      try simp only [bq,ne_eq] at hgd47
      refine D.off 15 rfl rfl rfl rfl rfl (by kernel_rfl) hS1 rfl<|D.off 16 rfl rfl rfl rfl rfl (by kernel_rfl) hS1 rfl<|D.off 17 rfl rfl rfl rfl rfl (by kernel_rfl) hS1 rfl<|D.off 18 rfl rfl rfl rfl rfl (by kernel_rfl) hS1 rfl<|D.off 19 rfl rfl rfl rfl rfl (by kernel_rfl) hS1 rfl<|D.off 20 rfl rfl rfl rfl rfl (by kernel_rfl) hS1 rfl<|D.offU 21 rfl rfl rfl rfl (by kernel_rfl) hS1 rfl<|D.offU 22 rfl rfl rfl rfl (by kernel_rfl) hS1 rfl<|D.offU 23 rfl rfl rfl rfl (by kernel_rfl) hS1 rfl<|D.offU 24 rfl rfl rfl rfl (by kernel_rfl) hS1 rfl<|D.offU 25 rfl rfl rfl rfl (by kernel_rfl) hS1 rfl ?_
      refine D.offU 26 rfl rfl rfl rfl (by kernel_rfl) hS1 rfl<|D.offU 27 rfl rfl rfl rfl (by kernel_rfl) hS1 rfl<|D.offU 28 rfl rfl rfl rfl (by kernel_rfl) hS1 rfl<|D.offU 29 rfl rfl rfl rfl (by kernel_rfl) hS1 rfl<|D.offU 30 rfl rfl rfl rfl (by kernel_rfl) hS1 rfl<|D.off 31 rfl rfl rfl rfl rfl (by kernel_rfl) hS1 rfl<|D.take 32 rfl (by kernel_rfl) (fun w_ hS=>(R1.pickT rfl rfl)) hS1 rfl<|D.done (by decide +kernel) ?_ _
      refine X.seq<|W.condT rfl<|W.seq<|W.region<|L.a rfl rfl<|L.nil<|X.seq<|W.ret<|X.thenRet<|X.blockRet<|X.thenRet ?_
      refine X.nextRet<|X.blockRet<|X.thenRet<|X.result1 rfl (.tmp rfl .nil) ?_
      have hbad:ChB (n:Int) cs os=false:=ChB_step (i:=i) (by omega) (fun h9=>by
        obtain ⟨h7,h8⟩:=h9
        rw [getD_of_get hz36] at h7 h8
        first
        | (rw [hgd40] at h7; exact absurd h7 (by decide))
        | (rcases h8 with h8 | h8; omega; have h6:=hasV_lt h7 h8.1; first | omega | (rw [hc65] at h8; exact absurd h8.1 (by decide))))
      rw [hbad]
      exact ⟨rfl,hm0⟩
     simp only [Bool.not_eq_true',Bool.not_eq_false'] at hgd40
     refine D.off 8 rfl rfl rfl rfl rfl (by kernel_rfl) hS1 rfl<|D.off 9 rfl rfl rfl rfl rfl (by kernel_rfl) hS1 rfl<|D.off 10 rfl rfl rfl rfl rfl (by kernel_rfl) hS1 rfl<|D.off 11 rfl rfl rfl rfl rfl (by kernel_rfl) hS1 rfl<|D.off 12 rfl rfl rfl rfl rfl (by kernel_rfl) hS1 rfl<|D.take 13 rfl (by kernel_rfl) (fun w_ hS=>(R1.pickT rfl rfl)) hS1 rfl<|D.m 14 rfl (by kernel_rfl) rfl hS1 rfl<|D.off 15 rfl rfl rfl rfl rfl (by kernel_rfl) hS1 rfl<|D.off 16 rfl rfl rfl rfl rfl (by kernel_rfl) hS1 rfl<|D.off 17 rfl rfl rfl rfl rfl (by kernel_rfl) hS1 rfl<|D.off 18 rfl rfl rfl rfl rfl (by kernel_rfl) hS1 rfl ?_
     refine D.off 19 rfl rfl rfl rfl rfl (by kernel_rfl) hS1 rfl<|D.off 20 rfl rfl rfl rfl rfl (by kernel_rfl) hS1 rfl<|D.offU 21 rfl rfl rfl rfl (by kernel_rfl) hS1 rfl<|D.offU 22 rfl rfl rfl rfl (by kernel_rfl) hS1 rfl<|D.offU 23 rfl rfl rfl rfl (by kernel_rfl) hS1 rfl<|D.offU 24 rfl rfl rfl rfl (by kernel_rfl) hS1 rfl<|D.offU 25 rfl rfl rfl rfl (by kernel_rfl) hS1 rfl<|D.offU 26 rfl rfl rfl rfl (by kernel_rfl) hS1 rfl<|D.offU 27 rfl rfl rfl rfl (by kernel_rfl) hS1 rfl<|D.offU 28 rfl rfl rfl rfl (by kernel_rfl) hS1 rfl<|D.offU 29 rfl rfl rfl rfl (by kernel_rfl) hS1 rfl ?_
     refine D.offU 30 rfl rfl rfl rfl (by kernel_rfl) hS1 rfl<|D.off 31 rfl rfl rfl rfl rfl (by kernel_rfl) hS1 rfl<|D.take 32 rfl (by kernel_rfl) (fun w_ hS=>(R1.pickT rfl rfl)) hS1 rfl<|D.done (by decide +kernel) ?_ _
     refine X.seq<|W.condT rfl<|W.seq<|W.region<|L.a rfl rfl<|L.nil<|X.seq<|W.ret<|X.thenRet<|X.blockRet<|X.thenRet ?_
     refine X.nextRet<|X.blockRet<|X.thenRet<|X.result1 rfl (.tmp rfl .nil) ?_
     have hbad:ChB (n:Int) cs os=false:=ChB_step (i:=i) (by omega) (fun h9=>by
       obtain ⟨h7,h8⟩:=h9
       rw [getD_of_get hz36] at h7 h8
       first
       | (rw [hgd40] at h7; exact absurd h7 (by decide))
       | (rcases h8 with h8 | h8; omega; have h6:=hasV_lt h7 h8.1; first | omega | (rw [hc65] at h8; exact absurd h8.1 (by decide))))
     rw [hbad]
     exact ⟨rfl,hm0⟩
    intro hc30
    try simp only [bq,ne_eq] at hc30
    obtain rfl:i=cs.length:=by omega
    refine W.exit<|X.thenExit<|X.nextExit<|X.here<|X.seq<|W.seq<|W.region<|L.m rfl rfl<|L.m rfl rfl<|L.call rfl (c_r11_First hL hbd hsm) rfl ?_
    rintro _ w9 ⟨rfl,hm9⟩
    replace hm0:=hm0.trans hm9;clear hm9
    refine L.v ((R1.lt rfl rfl).asB (c:=(decide (firstW (List.range (held (n:Int))) (wsOf (held (n:Int)) cs) 0=none))) (fi_neg _)) rfl<|L.a rfl rfl<|L.nil<|X.seq<|W.ret<|X.result1 rfl (.tmp rfl .nil) ?_
    rw [ChB_full hn1 hn2 hl1 hl2 hch]
    exact ⟨rfl,hm0⟩
   try simp only [bq,ne_eq] at hgd20
   refine L.off rfl rfl rfl rfl rfl<|L.off rfl rfl rfl rfl rfl<|L.off rfl rfl rfl rfl rfl<|L.off rfl rfl rfl rfl rfl<|L.off rfl rfl rfl rfl rfl<|L.v (R1.pickT rfl rfl) rfl<|L.nil<|X.seq<|W.condT rfl<|W.seq<|W.region ?_
   refine L.a rfl rfl<|L.nil<|X.seq<|W.ret<|X.thenRet<|X.result1 rfl (.tmp rfl .nil) ?_
   have hbad:ChB z0 cs os=false:=ChB_size (by omega)
   rw [hbad]
   exact ⟨rfl,hm0⟩
  try simp only [bq,ne_eq] at hgd15
  refine L.off rfl rfl rfl rfl rfl<|L.off rfl rfl rfl rfl rfl<|L.off rfl rfl rfl rfl rfl<|L.v (R1.pickT rfl rfl) rfl<|L.m rfl rfl<|L.off rfl rfl rfl rfl rfl<|L.off rfl rfl rfl rfl rfl<|L.off rfl rfl rfl rfl rfl<|L.off rfl rfl rfl rfl rfl<|L.off rfl rfl rfl rfl rfl<|L.v (R1.pickT rfl rfl) rfl ?_
  refine L.nil<|X.seq<|W.condT rfl<|W.seq<|W.region<|L.a rfl rfl<|L.nil<|X.seq<|W.ret<|X.thenRet<|X.result1 rfl (.tmp rfl .nil) ?_
  have hbad:ChB z0 cs os=false:=ChB_size (by omega)
  rw [hbad]
  exact ⟨rfl,hm0⟩
 try simp only [bq,ne_eq] at hgd11
 refine L.off rfl rfl rfl rfl rfl<|L.off rfl rfl rfl rfl rfl<|L.v (R1.pickT rfl rfl) rfl<|L.m rfl rfl<|L.off rfl rfl rfl rfl rfl<|L.off rfl rfl rfl rfl rfl<|L.off rfl rfl rfl rfl rfl<|L.v (R1.pickT rfl rfl) rfl<|L.m rfl rfl<|L.off rfl rfl rfl rfl rfl<|L.off rfl rfl rfl rfl rfl ?_
 refine L.off rfl rfl rfl rfl rfl<|L.off rfl rfl rfl rfl rfl<|L.off rfl rfl rfl rfl rfl<|L.v (R1.pickT rfl rfl) rfl<|L.nil<|X.seq<|W.condT rfl<|W.seq<|W.region<|L.a rfl rfl<|L.nil ?_
 refine X.seq<|W.ret<|X.thenRet<|X.result1 rfl (.tmp rfl .nil) ?_
 have hbad:ChB z0 cs os=false:=ChB_size (by omega)
 rw [hbad]
 exact ⟨rfl,hm0⟩
end Go.Proofs.YtedokfpoajfflaaGreat
