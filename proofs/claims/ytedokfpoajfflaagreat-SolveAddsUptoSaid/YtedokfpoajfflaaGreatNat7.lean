/- Walks: what the functions compute. -/
import Derived.Test.YtedokfpoajfflaaGreatNat6
namespace Go.Proofs.YtedokfpoajfflaaGreat
open Go.RowKit
set_option linter.unusedVariables false
set_option linter.unusedSimpArgs false
set_option maxRecDepth 10000
theorem c_nat_long {M : List Nat} {w : World} {va vb : Value} {es bs : List Nat} (h : U32 M w va es) (k : U32 M w vb bs) (hbd : Bd M w) (hl1 : es.length ≤ 1099511627776) (h2n : 2 ≤ bs.length) (hle : bs.length ≤ es.length) (htop : bs[bs.length - 1] ≠ 0) :
    Ret Tryz.prog 115 #[va,vb] w (fun r w'=>∃ v u,r=.tuple #[v,u]∧U32 M w' v (toL (val es / val bs))∧U32 M w' u (toL (val es % val bs))∧Mod [] w w'):=by
 have hbd0:=hbd;have hbx:=k.2;have hex:=h.2;have htl:=k.lt (show bs.length - 1<bs.length by omega)
 refine Ret.of (vs:=[va,vb]) (n:=103) Tryz.func115 rfl rfl rfl rfl ?_
 have hm0:Mod [] w w:=Mod.refl _ _
 refine W.seq<|W.region<|L.a rfl rfl<|L.a rfl rfl<|L.nil<|X.seq<|W.seq<|W.region<|L.m rfl rfl<|L.m rfl rfl<|L.v (R1.lenU rfl (by assumption) tyS24) rfl ?_
 refine L.v (R1.subI (b:=1) rfl rfl (by omega) (by omega)) rfl<|L.v (R1.atU (j:=(bs.length - 1)) rfl rfl (by assumption) tyS24 rfl (by omega)) rfl<|L.v (R1.ldU rfl (by assumption) tyP67 (by omega) rfl) rfl<|L.call rfl (c_Lead (Nat.pos_of_ne_zero htop) htl) rfl ?_
 rintro _ w1 ⟨s,rfl,hs,hs1,hs2,hm1⟩
 replace h:=h.gr hm1;replace k:=k.gr hm1;replace hm0:=hm0.trans hm1;clear hm1
 refine L.v (R1.convIL rfl tyI3 tyI90 (by omega)) rfl<|L.a rfl rfl<|L.nil<|X.seq<|W.seq<|W.region<|L.m rfl rfl<|L.m rfl rfl<|L.m rfl rfl<|L.v (R1.lenU rfl (by assumption) tyS24) rfl<|L.v (R1.addI (b:=1) rfl rfl (by omega)) rfl ?_
 refine L.call rfl (c_nat_left (s:=s) (n:=es.length + 1) h hs (by omega) (by omega)) rfl ?_
 rintro _ w2 ⟨g25,us25,rfl,hge_g25,hb25,hul25,hux25,huv25,hm2⟩
 replace h:=h.more hge_g25;replace k:=k.more hge_g25;replace hge_g25:=Nat.le_trans hm0.size hge_g25;replace h:=h.gr hm2;replace k:=k.gr hm2;replace hm0:=hm0.trans hm2;clear hm2
 refine L.m rfl rfl<|L.m rfl rfl<|L.m rfl rfl<|L.v (R1.lenU rfl (by assumption) tyS24) rfl<|L.call rfl (c_nat_left (s:=s) (n:=bs.length) k hs (by omega) (by omega)) rfl ?_
 rintro _ w3 ⟨g30,us30,rfl,hge_g30,hb30,hul30,hux30,huv30,hm3⟩
 replace h:=h.more hge_g30;replace k:=k.more hge_g30;have hne_g25_g30:=Nat.ne_of_lt (Nat.lt_of_lt_of_le (Blk.lt hb25) hge_g30);replace hge_g30:=Nat.le_trans hm0.size hge_g30;replace h:=h.gr hm3;replace k:=k.gr hm3;replace hm0:=hm0.trans hm3;replace hb25:=Blk.gr hb25 hm3;clear hm3
 refine L.a rfl rfl<|L.a rfl rfl<|L.nil<|X.seq<|W.seq<|W.region<|L.m rfl rfl<|L.v (R1.len rfl tyS24) rfl<|L.a rfl rfl<|L.nil<|X.seq ?_
 refine W.seq<|W.region<|L.m rfl rfl<|L.v (R1.lenU rfl (by assumption) tyS24) rfl<|L.m rfl rfl<|L.v (R1.subI rfl rfl (by omega) (by omega)) rfl<|L.v (R1.addI (b:=1) rfl rfl (by omega)) rfl<|L.makeSlice (m:=(es.length - bs.length + 1)) rfl rfl rfl rfl tyS24 tyZ67 (by omega) (by unfold maxLen; omega) rfl ?_
 intro g38 w4 hN38
 replace h:=h.new hN38;replace k:=k.new hN38;have hge_g38:=New.ge hN38 hm0.size;replace hm0:=hm0.trans (hN38.mod.mono (by simp));have hne_g25_g38:=hb25.ne_ hN38;replace hb25:=Blk.gr hb25 hN38.mod;have hne_g30_g38:=hb30.ne_ hN38;replace hb30:=Blk.gr hb30 hN38.mod;have hb38:=hN38.blk;clear hN38
 rw [uarr_made] at hb38
 refine L.a rfl rfl<|L.nil<|X.seq<|W.seq<|W.seq<|W.region<|L.m rfl rfl<|L.v (R1.len rfl tyS24) rfl<|L.v ((R1.sub rfl rfl).as (j:=(((es.length - bs.length + 1):Nat):Int) - 1) (by rw [wrap_i64 (by omega) (by omega)])) rfl<|L.a rfl rfl<|L.nil ?_
 refine X.seq<|W.block ?_
 have hvA:val us25=val es * 2 ^ s:=by
     rw [huv25]
     refine Nat.mod_eq_of_lt ?_
     have h1:=Nat.mul_lt_mul_of_pos_right (val_lt es hex) (show 0<2 ^ s from Nat.pow_pos (by decide))
     have h2:4294967296 ^ es.length * 2 ^ s≤4294967296 ^ (es.length + 1):=by rw [Nat.pow_succ]; exact Nat.mul_le_mul_left _ (Nat.le_of_lt (pow32_le hs))
     omega
 have hvD:val us30=val bs * 2 ^ s:=by
     rw [huv30]
     refine Nat.mod_eq_of_lt ?_
     have:=norm_hi (n:=bs.length - 1) hbx (by omega) hs2 hs
     rwa [Nat.sub_add_cancel (by omega)] at this
 have htop2:2147483648≤us30[bs.length - 1]:=norm_top (n:=bs.length - 1) hux30 (by omega) (by have:=val_ge_getElem (show bs.length - 1<bs.length by omega); rw [Nat.mul_comm]; exact this) hs1 hvD
 have hstart:val us25<val us30 * 4294967296 ^ (es.length - bs.length + 1):=by
     rw [hvA]
     have:=long_start (A:=val es) (s:=s) (la:=es.length) (n:=bs.length - 1) (D:=val us30) (top:=us30[bs.length - 1]) (val_lt es hex) hs (by have:=val_ge_getElem (show bs.length - 1<us30.length by omega); rw [Nat.mul_comm]; exact this) htop2 (by omega)
     rwa [Nat.sub_add_cancel (by omega)] at this
 refine W.loop (ι:=Nat × List Nat × List Nat) (fun (m,us,q)=>[(4,.slice (some ⟨g38,0,none⟩) (es.length - bs.length + 1) (es.length - bs.length + 1)),(6,.int .u64 (s:Int)),(7,.slice (some ⟨g25,0,none⟩) (es.length + 1) (es.length + 1)),(8,.slice (some ⟨g30,0,none⟩) bs.length bs.length),(9,.int .i64 (bs.length:Int)),(10,.int .i64 ((m:Int) - 1))]) (fun (m,us,q) w_=>m≤(es.length - bs.length + 1)∧us.length=es.length + 1∧(∀ x∈us,x<4294967296)∧q.length=(es.length - bs.length + 1)∧(∀ x∈q,x<4294967296)∧val us<val us30 * 4294967296 ^ m∧4294967296 ^ m * (val (q.drop m) * val us30) + val us=val us25∧Blk w_ g25 67 (uarr us)∧Blk w_ g30 67 (uarr us30)∧Blk w_ g38 67 (uarr q)∧Mod [] w w_) (fun (m,us,q)=>m) ((es.length - bs.length + 1),us25,List.replicate (es.length - bs.length + 1) 0) ?_ ?_ ?_
 · exact ⟨rfl,rfl,rfl,rfl,rfl,rfl,trivial⟩
 ·
  exact ⟨Nat.le_refl _,hul25,hux25,by simp,rep_lt _,hstart,by simp [val],hb25,hb30,hb38,hm0⟩
 rintro ⟨m,us,q⟩ w5 ⟨hm,hul,hux,hql,hqx,hub,hv,hb25,hb30,hb38,hm0⟩
 refine W.seq<|W.seq<|W.region<|L.m rfl rfl<|L.v (R1.ge rfl rfl) rfl<|L.nil<|X.seq<|W.cond rfl ?_ ?_
 ·
  intro hc43
  try simp only [bq,ne_eq] at hc43
  have hm1:0<m:=by omega
  obtain ⟨hp1,hp2,hp3,hp4,hp5⟩:=long_prep (i:=m - 1) (n:=bs.length) h2n hux hux30 hul30 (by omega) htop2 (by rw [Nat.sub_add_cancel hm1]; exact hub)
  refine W.skip<|X.seq<|W.seq<|W.block<|W.seq<|W.drawW (T:=[]) rfl (by decide +kernel) (NoHang.then (NoHang.block (NoHang.then (NoHang.next (NoHang.block (NoHang.then NoHang.post)))))) (fun w6 hm6=>?_)
  replace hb25:=Blk.gr hb25 hm6;replace hb30:=Blk.gr hb30 hm6;replace hb38:=Blk.gr hb38 hm6;replace hm0:=hm0.trans hm6
  have hS1:Mod [] w6 w6:=Mod.refl _ _
  clear hm6;have hb25_s:=hb25;have hb30_s:=hb30;have hb38_s:=hb38
  refine D.m 0 rfl (by kernel_rfl) rfl hS1 rfl<|D.m 1 rfl (by kernel_rfl) rfl hS1 rfl<|D.m 2 rfl (by kernel_rfl) rfl hS1 rfl<|D.take 3 rfl (by kernel_rfl) (fun w_ hS=>((R1.add rfl rfl).as (j:=((m - 1 + bs.length:Nat):Int)) (by rw [wrap_i64 (by omega) (by omega)]; omega))) hS1 rfl<|D.take 4 rfl (by kernel_rfl) (fun w_ hS=>(R1.atO (j:=(m - 1 + bs.length)) rfl rfl tyS24 rfl (by omega))) hS1 rfl<|D.take 5 rfl (by kernel_rfl) (fun w_ hS=>(R1.ldO rfl (Blk.gr (by assumption) hS) (by omega) tyP67 rfl)) hS1 rfl<|D.m 6 rfl (by kernel_rfl) rfl hS1 rfl<|D.m 7 rfl (by kernel_rfl) rfl hS1 rfl<|D.m 8 rfl (by kernel_rfl) rfl hS1 rfl<|D.take 9 rfl (by kernel_rfl) (fun w_ hS=>((R1.add rfl rfl).as (j:=((m - 1 + bs.length:Nat):Int)) (by rw [wrap_i64 (by omega) (by omega)]; omega))) hS1 rfl<|D.take 10 rfl (by kernel_rfl) (fun w_ hS=>(R1.subI (b:=1) rfl rfl (by omega) (by omega))) hS1 rfl ?_
  refine D.take 11 rfl (by kernel_rfl) (fun w_ hS=>(R1.atO (j:=(m - 1 + bs.length - 1)) rfl rfl tyS24 rfl (by omega))) hS1 rfl<|D.take 12 rfl (by kernel_rfl) (fun w_ hS=>(R1.ldO rfl (Blk.gr (by assumption) hS) (by omega) tyP67 rfl)) hS1 rfl<|D.m 13 rfl (by kernel_rfl) rfl hS1 rfl<|D.m 14 rfl (by kernel_rfl) rfl hS1 rfl<|D.m 15 rfl (by kernel_rfl) rfl hS1 rfl<|D.take 16 rfl (by kernel_rfl) (fun w_ hS=>((R1.add rfl rfl).as (j:=((m - 1 + bs.length:Nat):Int)) (by rw [wrap_i64 (by omega) (by omega)]; omega))) hS1 rfl<|D.take 17 rfl (by kernel_rfl) (fun w_ hS=>(R1.subI (b:=2) rfl rfl (by omega) (by omega))) hS1 rfl<|D.take 18 rfl (by kernel_rfl) (fun w_ hS=>(R1.atO (j:=(m - 1 + bs.length - 2)) rfl rfl tyS24 rfl (by omega))) hS1 rfl<|D.take 19 rfl (by kernel_rfl) (fun w_ hS=>(R1.ldO rfl (Blk.gr (by assumption) hS) (by omega) tyP67 rfl)) hS1 rfl<|D.m 20 rfl (by kernel_rfl) rfl hS1 rfl<|D.m 21 rfl (by kernel_rfl) rfl hS1 rfl ?_
  refine D.take 22 rfl (by kernel_rfl) (fun w_ hS=>(R1.subI (b:=1) rfl rfl (by omega) (by omega))) hS1 rfl<|D.take 23 rfl (by kernel_rfl) (fun w_ hS=>(R1.atO (j:=(bs.length - 1)) rfl rfl tyS24 rfl (by omega))) hS1 rfl<|D.take 24 rfl (by kernel_rfl) (fun w_ hS=>(R1.ldO rfl (Blk.gr (by assumption) hS) (by omega) tyP67 rfl)) hS1 rfl<|D.m 25 rfl (by kernel_rfl) rfl hS1 rfl<|D.m 26 rfl (by kernel_rfl) rfl hS1 rfl<|D.take 27 rfl (by kernel_rfl) (fun w_ hS=>(R1.subI (b:=2) rfl rfl (by omega) (by omega))) hS1 rfl<|D.take 28 rfl (by kernel_rfl) (fun w_ hS=>(R1.atO (j:=(bs.length - 2)) rfl rfl tyS24 rfl (by omega))) hS1 rfl<|D.take 29 rfl (by kernel_rfl) (fun w_ hS=>(R1.ldO rfl (Blk.gr (by assumption) hS) (by omega) tyP67 rfl)) hS1 rfl<|D.one 30 rfl (by kernel_rfl) (fun hX=>?_)
  refine L.call rfl (c_nat_guess hp1 (hux _ (List.getElem_mem (show m - 1 + bs.length - 1<us.length by omega))) (hux _ (List.getElem_mem (show m - 1 + bs.length - 2<us.length by omega))) htop2 (hux30 _ (List.getElem_mem (show bs.length - 1<us30.length by omega))) (hux30 _ (List.getElem_mem (show bs.length - 2<us30.length by omega)))) rfl ?_
  rintro _ w7 ⟨x,rfl,hx1,hx2,hx3,hm7⟩
  replace hb25:=Blk.gr hb25 hm7;replace hb30:=Blk.gr hb30 hm7;replace hb38:=Blk.gr hb38 hm7;replace hm0:=hm0.trans hm7;replace hS1:=hS1.trans hm7;clear hm7
  refine L.nil (hX _ _ ⟨.inr hS1,?_⟩)
  refine D.take 31 rfl (by kernel_rfl) (fun w_ hS=>(R1.assign rfl)) hS1 rfl<|D.done (by decide +kernel) ?_ _
  refine X.seq<|W.seq<|W.seq ?_
  have hkn:=hp5 x hx1 hx2 hx3
  have hUd:U32 [g25] w7 (.slice (some ⟨g30,0,none⟩) bs.length bs.length) us30:=by
      have hU:=U32.of_blk (M:=[g25]) hb30 (by simp; exact fun h=>hne_g25_g30 h.symm) (by unfold maxLen; omega) hux30
      rw [hul30] at hU; exact hU
  refine W.region<|L.m rfl rfl<|L.m rfl rfl<|L.m rfl rfl<|L.m rfl rfl<|L.v ((R1.add rfl rfl).as (j:=((m - 1 + bs.length:Nat):Int)) (by rw [wrap_i64 (by omega) (by omega)]; omega)) rfl<|L.v (R1.addI (b:=1) rfl rfl (by omega)) rfl<|L.v ((R1.sliceLH rfl rfl rfl tyS24 (by omega) (by omega) (by omega)).asV (v:=.slice (some ⟨g25,m - 1,none⟩) (bs.length + 1) (es.length + 1 - (m - 1))) (by rw [show ((m:Int) - 1).toNat=m - 1 by omega,Int.toNat_natCast,cutS_lit _ _ _ _ (by omega)]; congr 1; omega)) rfl<|L.m rfl rfl<|L.m rfl rfl<|L.call rfl (c_nat_takesN (M:=[]) hul30 hb25 hux hUd (by omega) hx1 (by omega) (hqD_of hkn.2)) rfl ?_
  rintro _ w8 ⟨us2,b86,rfl,hb25,hul2,hux2,hfa,htr,hm8⟩
  replace hb30:=Blk.far hb30 hm8 (by first | exact hne_g30_g25 | exact (hne_g25_g30).symm);replace hb38:=Blk.far hb38 hm8 (by first | exact hne_g38_g25 | exact (hne_g25_g38).symm);replace hm0:=hm0.old1 hm8 hge_g25;clear hm8
  refine L.nil<|X.seq<|W.cut (ι:=Nat) (fun y=>[(4,.slice (some ⟨g38,0,none⟩) (es.length - bs.length + 1) (es.length - bs.length + 1)),(6,.int .u64 (s:Int)),(7,.slice (some ⟨g25,0,none⟩) (es.length + 1) (es.length + 1)),(8,.slice (some ⟨g30,0,none⟩) bs.length bs.length),(9,.int .i64 (bs.length:Int)),(10,.int .i64 ((m:Int) - 1)),(11,.int .u64 (y:Int))]) (fun y w_=>y<4294967296∧y=seg us (m - 1) bs.length / val us30∧val us2 + 4294967296 ^ (m - 1) * (y * val us30)=val us∧Blk w_ g25 67 (uarr us2)∧Blk w_ g30 67 (uarr us30)∧Blk w_ g38 67 (uarr q)∧Mod [] w w_) ?_ ?_
  ·
   refine W.cond rfl ?_ ?_
   ·
    intro hc86
    have hcc_:=hc86;obtain ⟨hta,htb⟩:=htr hc86;have hxe:=div_of_gt hp3 hkn.2 htb
    have hx0:0<x:=by rw [hxe]; exact Nat.succ_pos _
    refine W.region<|L.m rfl rfl<|L.v (R1.subL (b:=1) rfl rfl (by omega) (by omega)) rfl<|L.a rfl rfl<|L.nil<|X.join (x - 1) ?_ ?_
    · exact ⟨rfl,rfl,rfl,rfl,rfl,rfl,rfl,trivial⟩
    have e9:x * val us30=(x - 1) * val us30 + val us30:=by
        have e8:x=x - 1 + 1:=by omega
        conv=>lhs; rw [e8,Nat.add_mul,Nat.one_mul]
    rw [e9,Nat.mul_add] at hta
    exact ⟨by omega,by omega,by omega,hb25,hb30,hb38,hm0⟩
   intro hc86
   have hcc_:=hc86;obtain ⟨hta,htb⟩:=hfa hc86;have hxe:=div_of_le hp3 hkn.1 htb
   refine W.skip<|X.join x ?_ ?_
   · exact ⟨rfl,rfl,rfl,rfl,rfl,rfl,rfl,trivial⟩
   exact ⟨hx1,hxe,hta,hb25,hb30,hb38,hm0⟩
  rintro y wk ⟨hyB,hy,hy2,hb25,hb30,hb38,hm0⟩
  refine X.seq<|W.region<|L.m rfl rfl<|L.m rfl rfl<|L.m rfl rfl<|L.v ((R1.convLW rfl tyI64 tyI67).as (j:=((y:Nat):Int)) (by rw [Nat.mod_eq_of_lt (by omega)])) rfl<|L.v (R1.atO (j:=(m - 1)) rfl rfl tyS24 (by omega) (by omega)) rfl<|L.storeU rfl rfl hb38 (by omega) tyP67 ?_
  intro w9 hb38' hm9
  replace hb25:=Blk.far hb25 hm9 (by first | exact hne_g25_g38 | exact (hne_g38_g25).symm);replace hb30:=Blk.far hb30 hm9 (by first | exact hne_g30_g38 | exact (hne_g38_g30).symm);replace hm0:=hm0.old1 hm9 hge_g38;clear hm9;replace hb38:=hb38'; clear hb38'
  refine L.nil<|X.blockEnd<|X.seq<|W.region<|L.m rfl rfl<|L.v ((R1.sub rfl rfl).as (j:=((m - 1:Nat):Int) - 1) (by rw [wrap_i64 (by omega) (by omega)]; omega)) rfl<|L.a rfl rfl<|L.nil<|X.next (m - 1,us2,q.set (m - 1) y) ?_ ?_ ?_
  · exact ⟨rfl,rfl,rfl,rfl,rfl,rfl,trivial⟩
  ·
   exact ⟨by omega,by omega,hux2,by simpa using hql,set_lt hqx hyB,long_rest hy2 hp2 (val_take_lt_pow hux (by omega)) (by rw [hy]; exact lt_div_step hp3),by rw [val_drop_set (by omega),Nat.sub_add_cancel hm1]; exact long_step (by rw [← Nat.pow_succ,Nat.succ_eq_add_one,Nat.sub_add_cancel hm1]; exact hv) hy2,hb25,hb30,hb38,hm0⟩
  first | omega | (dsimp only; omega)
 intro hc43
 try simp only [bq,ne_eq] at hc43
 obtain rfl:m=0:=by omega
 rw [List.drop_zero,Nat.pow_zero,Nat.one_mul] at hv
 rw [Nat.pow_zero,Nat.mul_one] at hub
 have hDn:val us30<4294967296 ^ bs.length:=val_lt_len hux30 hul30
 have hUq:U32 M w5 (.slice (some ⟨g38,0,none⟩) (es.length - bs.length + 1) (es.length - bs.length + 1)) q:=by
     have hU:=U32.of_blk (M:=M) hb38 (hbd0.not hge_g38) (by unfold maxLen; omega) hqx
     rw [hql] at hU; exact hU
 have hUu:U32 M w5 (.slice (some ⟨g25,0,none⟩) bs.length (es.length + 1)) (us.take bs.length):=U32.of_blk_take hb25 (hbd0.not hge_g25) (by unfold maxLen; omega) hux (by omega) hul
 refine W.exit<|X.thenExit<|X.nextExit<|X.here<|X.seq<|W.seq<|W.drawW (T:=[]) rfl (by decide +kernel) (NoHang.then NoHang.post) (fun w10 hm10=>?_)
 replace hm0:=hm0.trans hm10;replace hUq:=hUq.gr hm10;replace hUu:=hUu.gr hm10
 have hS2:Mod [] w10 w10:=Mod.refl _ _
 clear hm10
 refine D.m 0 rfl (by kernel_rfl) rfl hS2 rfl<|D.m 2 rfl (by kernel_rfl) rfl hS2 rfl<|D.m 3 rfl (by kernel_rfl) rfl hS2 rfl<|D.take 4 rfl (by kernel_rfl) (fun w_ hS=>((R1.sliceH rfl rfl tyS24 (by omega) (by omega)).asV (v:=.slice (some ⟨g25,0,none⟩) bs.length (es.length + 1)) (by rw [Int.toNat_natCast]; exact cutS_lit0 _ _ _ (by omega)))) hS2 rfl<|D.m 5 rfl (by kernel_rfl) rfl hS2 rfl<|D.take 6 rfl (by kernel_rfl) (fun w_ hS=>(R1.convLI rfl tyI90 tyI3 (by omega))) hS2 rfl<|D.take 7 rfl (by kernel_rfl) (fun w_ hS=>((R1.neg rfl).as (wrap_i64 (by omega) (by omega)))) hS2 rfl<|D.one 1 rfl (by kernel_rfl) (fun hX=>?_)
 refine L.call rfl (c_nat_trim hUq) rfl ?_
 rintro v95 w11 ⟨h95,hm11⟩
 replace hm0:=hm0.trans hm11;replace hUu:=hUu.gr hm11;replace hS2:=hS2.trans hm11;clear hm11
 refine L.nil (hX _ _ ⟨.inr hS2,?_⟩)
 refine D.one 8 rfl (by kernel_rfl) (fun hX=>?_)
 refine L.call rfl (c_nat_Shift hUu hs (hbd0.gr hm0) (by simp; omega)) rfl ?_
 rintro v102 w12 ⟨h102,hm12⟩
 replace hm0:=hm0.trans hm12;replace h95:=h95.gr hm12;replace hS2:=hS2.trans hm12;clear hm12
 refine L.nil (hX _ _ ⟨.inr hS2,?_⟩)
 refine D.take 9 rfl (by kernel_rfl) (fun w_ hS=>(R1.assign rfl)) hS2 rfl<|D.take 10 rfl (by kernel_rfl) (fun w_ hS=>(R1.assign rfl)) hS2 rfl<|D.done (by decide +kernel) ?_ _
 refine X.seq<|W.ret<|X.result2 rfl (.tmp rfl (.tmp rfl .nil)) ?_
 rw [hvA] at hv
 have hz:=long_end hv rfl hvD hub
 rw [hz.1,hz.2]
 rw [val_take_lt (by omega)] at h102
 exact ⟨_,_,rfl,h95,h102,hm0⟩
theorem toL_top {n:Nat} (h:(toL n).length≠0):(toL n)[(toL n).length - 1]≠0:=by
  have h1:=trimmed_toL n
  rw [trimmed_snoc h] at h1
  simpa using h1
theorem toL_one {n:Nat} (h:(toL n).length=1):(toL n)[0]=n:=by
  obtain ⟨x,hx⟩:=List.length_eq_one_iff.1 h;have h1:=val_toL n
  rw [hx] at h1
  simp [val] at h1
  simp [hx,h1]
theorem c_nat_DivMod {M : List Nat} {w : World} {va vb : Value} {xs ys : List Nat} (h : U32 M w va xs) (k : U32 M w vb ys) (hbd : Bd M w) (hl1 : xs.length ≤ 1099511627776) (hl2 : ys.length ≤ 1099511627776) (hy : val ys ≠ 0) :
    Ret Tryz.prog 96 #[va,vb] w (fun r w'=>∃ v u,r=.tuple #[v,u,.bool true]∧U32 M w' v (toL (val xs / val ys))∧U32 M w' u (toL (val xs % val ys))∧Mod [] w w'):=by
 have hla:=toL_len_40 h.2 hl1;have hlb:=toL_len_40 k.2 hl2
 have hnz:(toL (val ys)).length≠0:=fun h0=>hy (toL_nil.1 (List.eq_nil_of_length_eq_zero h0))
 have hbx:=toL_lt (val ys)
 refine Ret.of (vs:=[va,vb]) (n:=48) Tryz.func96 rfl rfl rfl rfl ?_
 have hm0:Mod [] w w:=Mod.refl _ _
 refine W.seq<|W.region<|L.a rfl rfl<|L.a rfl rfl<|L.a rfl rfl<|L.nil<|X.seq<|W.seq<|W.region<|L.m rfl rfl<|L.call rfl (c_nat_trim (by assumption)) rfl ?_
 rintro v10 w1 ⟨h10,hm1⟩
 replace h:=h.gr hm1;replace k:=k.gr hm1;replace hbd:=hbd.gr hm1;replace hm0:=hm0.trans hm1;clear hm1
 refine L.m rfl rfl<|L.call rfl (c_nat_trim (by assumption)) rfl ?_
 rintro v12 w2 ⟨h12,hm2⟩
 replace h:=h.gr hm2;replace k:=k.gr hm2;replace hbd:=hbd.gr hm2;replace hm0:=hm0.trans hm2;replace h10:=h10.gr hm2;clear hm2
 refine L.a rfl rfl<|L.a rfl rfl<|L.nil<|X.seq<|W.seq<|W.block<|W.seq<|W.region<|L.m rfl rfl<|L.v (R1.lenU rfl (by assumption) tyS24) rfl<|L.v ((R1.eq rfl rfl).asB (c:=false) (by rw [decide_eq_false_iff_not]; omega)) rfl ?_
 refine L.a rfl rfl<|L.nil<|X.seq<|W.condF rfl<|W.seq<|W.region<|L.m rfl rfl<|L.m rfl rfl<|L.call rfl (c_nat_Cmp h10 h12) rfl ?_
 rintro _ w3 ⟨rfl,hm3⟩
 replace h:=h.gr hm3;replace k:=k.gr hm3;replace hbd:=hbd.gr hm3;replace hm0:=hm0.trans hm3;replace h10:=h10.gr hm3;replace h12:=h12.gr hm3;clear hm3
 refine L.v ((R1.lt rfl rfl).asB (c:=decide (val xs<val ys)) (by rw [cmpI_lt0,val_toL,val_toL])) rfl<|L.a rfl rfl<|L.nil<|X.seq<|W.cond rfl ?_ ?_
 ·
  intro hc17
  try simp only [bq,ne_eq] at hc17
  refine W.seq<|W.region<|L.m rfl rfl<|L.call rfl (c_nat_Trim h10 hbd (by omega)) rfl ?_
  rintro v23 w4 ⟨h23,hm4⟩
  replace hm0:=hm0.trans hm4;clear hm4
  refine L.a rfl rfl<|L.a rfl rfl<|L.a rfl rfl<|L.nil<|X.seq<|W.ret<|X.blockRet<|X.thenRet<|X.result3 rfl (.tmp rfl (.tmp rfl (.tmp rfl .nil))) ?_
  rw [Nat.div_eq_of_lt (by omega),Nat.mod_eq_of_lt (by omega),toL_zero]
  rw [val_toL] at h23
  exact ⟨_,_,rfl,U32.nil,h23,hm0⟩
 intro hc17
 try simp only [bq,ne_eq] at hc17
 refine W.seq<|W.region<|L.m rfl rfl<|L.v (R1.lenU rfl (by assumption) tyS24) rfl<|L.v (R1.eq rfl rfl) rfl<|L.a rfl rfl<|L.nil<|X.seq<|W.cond rfl ?_ ?_
 ·
  intro hc24
  try simp only [bq,ne_eq] at hc24
  replace hc24:(toL (val ys)).length=1:=by omega
  refine W.seq<|W.region<|L.m rfl rfl<|L.m rfl rfl<|L.v (R1.atU (j:=0) rfl rfl (by assumption) tyS24 rfl (by omega)) rfl<|L.v (R1.ldU rfl (by assumption) tyP67 (by omega) rfl) rfl<|L.call rfl (c_nat_small h10 (by rw [toL_one hc24]; omega) (hbx _ (List.getElem_mem _)) hbd (by omega)) rfl ?_
  rintro _ w5 ⟨v33,rfl,h33,hm5⟩
  replace hbd:=hbd.gr hm5;replace hm0:=hm0.trans hm5;clear hm5
  refine L.m rfl rfl<|L.v (R1.extract rfl rfl) rfl<|L.v (R1.extract rfl rfl) rfl<|L.a rfl rfl<|L.a rfl rfl<|L.nil<|X.seq<|W.seq ?_
  have hrl:val (toL (val xs)) % (toL (val ys))[0]<4294967296:=Nat.lt_of_le_of_lt (Nat.le_of_lt (Nat.mod_lt _ (by rw [toL_one hc24]; omega))) (hbx _ (List.getElem_mem (show 0<(toL (val ys)).length by omega)))
  refine W.region<|L.m rfl rfl<|L.m rfl rfl<|L.v (R1.convWL rfl tyI67 tyI64 (by omega)) rfl<|L.call rfl (c_nat_Of (by omega) hbd) rfl ?_
  rintro v39 w6 ⟨h39,hm6⟩
  replace hm0:=hm0.trans hm6;replace h33:=h33.gr hm6;clear hm6
  refine L.a rfl rfl<|L.a rfl rfl<|L.a rfl rfl<|L.nil<|X.seq<|W.ret<|X.blockRet<|X.thenRet<|X.result3 rfl (.tmp rfl (.tmp rfl (.tmp rfl .nil))) ?_
  rw [val_toL,toL_one hc24] at h33 h39
  exact ⟨_,_,rfl,h33,h39,hm0⟩
 intro hc24
 try simp only [bq,ne_eq] at hc24
 refine W.skip<|X.blockEnd<|X.seq<|W.seq<|W.region<|L.m rfl rfl<|L.m rfl rfl<|L.call rfl (c_nat_long h10 h12 hbd (by omega) (by omega) (toL_len_mono (by omega)) (toL_top hnz)) rfl ?_
 rintro _ w7 ⟨v43,u43,rfl,h43,k43,hm7⟩
 replace hm0:=hm0.trans hm7;clear hm7
 refine L.m rfl rfl<|L.v (R1.extract rfl rfl) rfl<|L.v (R1.extract rfl rfl) rfl<|L.a rfl rfl<|L.a rfl rfl<|L.nil<|X.seq<|W.seq<|W.region<|L.m rfl rfl<|L.m rfl rfl ?_
 refine L.a rfl rfl<|L.a rfl rfl<|L.a rfl rfl<|L.nil<|X.seq<|W.ret<|X.result3 rfl (.tmp rfl (.tmp rfl (.tmp rfl .nil))) ?_
 rw [val_toL,val_toL] at h43 k43
 exact ⟨_,_,rfl,h43,k43,hm0⟩
theorem c_nat_Gcd {M : List Nat} {w : World} {va vb : Value} {xs ys : List Nat} (h : U32 M w va xs) (k : U32 M w vb ys) (hbd : Bd M w) (hl1 : xs.length ≤ 1099511627776) (hl2 : ys.length ≤ 1099511627776) :
    Ret Tryz.prog 65 #[va,vb] w (fun r w'=>U32 M w' r (toL (Nat.gcd (val xs) (val ys)))∧Mod [] w w'):=by
 have hla:=toL_len_40 h.2 hl1;have hlb:=toL_len_40 k.2 hl2
 refine Ret.of (vs:=[va,vb]) (n:=25) Tryz.func65 rfl rfl rfl rfl ?_
 have hm0:Mod [] w w:=Mod.refl _ _
 refine W.seq<|W.region<|L.a rfl rfl<|L.nil<|X.seq<|W.seq<|W.region<|L.m rfl rfl<|L.call rfl (c_nat_Trim (by assumption) (by assumption) (by omega)) rfl ?_
 rintro v9 w1 ⟨h9,hm1⟩
 replace h:=h.gr hm1;replace k:=k.gr hm1;replace hbd:=hbd.gr hm1;replace hm0:=hm0.trans hm1;clear hm1
 refine L.m rfl rfl<|L.call rfl (c_nat_Trim (by assumption) (by assumption) (by omega)) rfl ?_
 rintro v11 w2 ⟨h11,hm2⟩
 replace h:=h.gr hm2;replace k:=k.gr hm2;replace hbd:=hbd.gr hm2;replace hm0:=hm0.trans hm2;replace h9:=h9.gr hm2;clear hm2
 refine L.a rfl rfl<|L.a rfl rfl<|L.nil<|X.seq<|W.seq<|W.block<|W.loop (ι:=Nat × Nat × Value × Value) (fun (a,b,u1,u2)=>[(0,u1),(1,u2)]) (fun (a,b,u1,u2) w_=>(toL a).length≤1099511627776∧(toL b).length≤1099511627776∧Nat.gcd a b=Nat.gcd (val xs) (val ys)∧U32 M w_ u1 (toL a)∧U32 M w_ u2 (toL b)∧Bd M w_∧Mod [] w w_) (fun (a,b,u1,u2)=>b) (val xs,val ys,v9,v11) ?_ ?_ ?_
 · exact ⟨rfl,rfl,trivial⟩
 ·
  exact ⟨hla,hlb,rfl,h9,h11,hbd,hm0⟩
 rintro ⟨a,b,u1,u2⟩ w3 ⟨hal,hbl,hg,h,k,hbd,hm0⟩
 refine W.seq<|W.seq<|W.region<|L.m rfl rfl<|L.v (R1.lenU rfl (by assumption) tyS24) rfl<|L.v (R1.gt rfl rfl) rfl<|L.nil<|X.seq<|W.cond rfl ?_ ?_
 ·
  intro hc14
  try simp only [bq,ne_eq] at hc14
  have hb0:b≠0:=by
      intro h0
      subst h0
      rw [toL_zero] at hc14; simp at hc14
  refine W.skip<|X.seq<|W.block<|W.seq<|W.region<|L.m rfl rfl<|L.m rfl rfl<|L.call rfl (c_nat_DivMod h k hbd (by omega) (by omega) (by rw [val_toL]; exact hb0)) rfl ?_
  rintro _ w4 ⟨v18,u18,rfl,h18,k18,hm4⟩
  replace k:=k.gr hm4;replace hbd:=hbd.gr hm4;replace hm0:=hm0.trans hm4;clear hm4
  rw [val_toL,val_toL] at k18
  refine L.m rfl rfl<|L.v (R1.extract rfl rfl) rfl<|L.v (R1.extract rfl rfl) rfl<|L.v (R1.extract rfl rfl) rfl<|L.a rfl rfl<|L.a rfl rfl<|L.a rfl rfl<|L.nil<|X.seq<|W.region<|L.m rfl rfl ?_
  refine L.m rfl rfl<|L.a rfl rfl<|L.a rfl rfl<|L.nil<|X.blockEnd<|X.next (b,a % b,u2,u18) ?_ ?_ ?_
  · exact ⟨rfl,rfl,trivial⟩
  ·
   exact ⟨hbl,Nat.le_trans (toL_len_mono (Nat.le_of_lt (Nat.mod_lt _ (Nat.pos_of_ne_zero hb0)))) hbl,by rw [← hg,Nat.gcd_comm a b,Nat.gcd_rec b a,Nat.gcd_comm],k,k18,hbd,hm0⟩
  exact Nat.mod_lt _ (Nat.pos_of_ne_zero hb0)
 intro hc14
 try simp only [bq,ne_eq] at hc14
 have hb0:b=0:=toL_nil.1 (List.eq_nil_of_length_eq_zero (by omega))
 subst hb0
 rw [Nat.gcd_zero_right] at hg
 refine W.exit<|X.thenExit<|X.nextExit<|X.here<|X.seq<|W.seq<|W.region<|L.m rfl rfl<|L.a rfl rfl<|L.nil<|X.seq ?_
 refine W.ret<|X.result1 rfl (.tmp rfl .nil) ?_
 exact ⟨by rw [← hg]; exact h,hm0⟩
end Go.Proofs.YtedokfpoajfflaaGreat
