/- Walks: what the functions compute. -/
import Derived.Test.YthoooolflmbmbaaGreatNat6
namespace Go.Proofs.YthoooolflmbmbaaGreat
open Go.RowKit
set_option linter.unusedVariables false
set_option linter.unusedSimpArgs false
set_option maxRecDepth 10000
theorem c_nat_long {M : List Nat} {w : World} {va vb : Value} {es bs : List Nat} (h : U32 M w va es) (k : U32 M w vb bs) (hbd : Bd M w) (hl1 : es.length ≤ 1099511627776) (h2n : 2 ≤ bs.length) (hle : bs.length ≤ es.length) (htop : bs[bs.length - 1] ≠ 0) :
    Ret Tryz.prog 124 #[va,vb] w (fun r w'=>∃ v u,r=.tuple #[v,u]∧U32 M w' v (toL (val es / val bs))∧U32 M w' u (toL (val es % val bs))∧Mod [] w w'):=by
 have hbd0:=hbd;have hbx:=k.2;have hex:=h.2;have htl:=k.lt (show bs.length - 1<bs.length by omega)
 refine Ret.of (vs:=[va,vb]) (n:=103) Tryz.func124 rfl rfl rfl rfl ?_
 have C0:Mod [] w w:=Mod.refl _ _
 refine W.sr<|L.b rfl<|L.b rfl<|L.z<|W.sr<|L.k rfl<|L.k rfl<|L.lU rfl (by assumption) Q38 ?_
 refine L.v (R1.subI (b:=1) rfl rfl (by omega) (by omega)) rfl<|L.v (R1.atU (j:=(bs.length - 1)) rfl rfl (by assumption) Q38 rfl (by omega)) rfl<|L.v (R1.ldU rfl (by assumption) tyP90 (by omega) rfl) rfl<|L.c rfl (c_Lead (Nat.pos_of_ne_zero htop) htl) ?_
 rintro _ w1 ⟨s,rfl,hs,hs1,hs2,C1⟩
 replace h:=h.gr C1;replace k:=k.gr C1;replace C0:=C0.trans C1;clear C1
 refine L.v (R1.convIL rfl tyI3 tyI117 (by omega)) rfl<|L.b rfl<|L.z<|W.sr<|L.k rfl<|L.k rfl<|L.k rfl<|L.lU rfl (by assumption) Q38<|L.inc rfl rfl (by omega) ?_
 refine L.c rfl (c_nat_left (s:=s) (n:=es.length + 1) h hs (by omega) (by omega)) ?_
 rintro _ w2 ⟨g25,us25,rfl,K25,E25,hul25,hux25,huv25,C2⟩
 replace h:=h.more K25;replace k:=k.more K25;replace K25:=Nat.le_trans C0.size K25;replace h:=h.gr C2;replace k:=k.gr C2;replace C0:=C0.trans C2;clear C2
 refine L.k rfl<|L.k rfl<|L.k rfl<|L.lU rfl (by assumption) Q38<|L.c rfl (c_nat_left (s:=s) (n:=bs.length) k hs (by omega) (by omega)) ?_
 rintro _ w3 ⟨g30,us30,rfl,K30,E30,hul30,hux30,huv30,C3⟩
 replace h:=h.more K30;replace k:=k.more K30;have hne_g25_g30:=Nat.ne_of_lt (Nat.lt_of_lt_of_le (Blk.lt E25) K30);replace K30:=Nat.le_trans C0.size K30;replace h:=h.gr C3;replace k:=k.gr C3;replace C0:=C0.trans C3;replace E25:=E25.gr C3;clear C3
 refine L.b rfl<|L.b rfl<|L.z<|W.sr<|L.k rfl<|L.v (R1.len rfl Q38) rfl<|L.b rfl<|L.z ?_
 refine W.sr<|L.k rfl<|L.lU rfl (by assumption) Q38<|L.k rfl<|L.v (R1.subI rfl rfl (by omega) (by omega)) rfl<|L.inc rfl rfl (by omega)<|L.makeSlice (m:=(es.length - bs.length + 1)) rfl rfl rfl rfl Q38 tyZ90 (by omega) (by unfold maxLen; omega) rfl ?_
 intro g38 w4 D38
 replace h:=h.new D38;replace k:=k.new D38;have K38:=New.ge D38 C0.size;replace C0:=C0.tn D38;have hne_g25_g38:=E25.ne_ D38;replace E25:=E25.gr D38.mod;have hne_g30_g38:=E30.ne_ D38;replace E30:=E30.gr D38.mod;have E38:=D38.blk;clear D38
 rw [uarr_made] at E38
 refine L.b rfl<|L.z<|W.seq<|W.sr<|L.k rfl<|L.v (R1.len rfl Q38) rfl<|L.v ((R1.sub rfl rfl).as (j:=(((es.length - bs.length + 1):Nat):Int) - 1) (by rw [wrap_i64 (by omega) (by omega)])) rfl<|L.b rfl<|L.nil ?_
 refine X.seq<|W.block ?_
 have hvA:val us25=val es * 2 ^ s:=by
     rw [huv25]
     refine Nat.mod_eq_of_lt ?_
     have h1:=Nat.mul_lt_mul_of_pos_right (val_lt es hex) (show 0<2 ^ s from Nat.pow_pos (by decide))
     have h2:4294967296 ^ es.length * 2 ^ s≤4294967296 ^ (es.length + 1):=by rw [Nat.pow_succ]; exact Nat.mul_le_mul_left _ (Nat.le_of_lt (pow32_le hs))
     omega
 have hvD:val us30=val bs * 2 ^ s:=by
     rw [huv30]
     refine Nat.mod_eq_of_lt ?_
     have:=norm_hi (n:=bs.length - 1) hbx (by omega) hs2 hs
     rwa [Nat.sub_add_cancel (by omega)] at this
 have htop2:2147483648≤us30[bs.length - 1]:=norm_top (n:=bs.length - 1) hux30 (by omega) (by have:=val_ge_getElem (show bs.length - 1<bs.length by omega); rw [Nat.mul_comm]; exact this) hs1 hvD
 have hstart:val us25<val us30 * 4294967296 ^ (es.length - bs.length + 1):=by
     rw [hvA]
     have:=long_start (A:=val es) (s:=s) (la:=es.length) (n:=bs.length - 1) (D:=val us30) (top:=us30[bs.length - 1]) (val_lt es hex) hs (by have:=val_ge_getElem (show bs.length - 1<us30.length by omega); rw [Nat.mul_comm]; exact this) htop2 (by omega)
     rwa [Nat.sub_add_cancel (by omega)] at this
 refine W.loop (ι:=Nat × List Nat × List Nat) (fun (m,us,q)=>[(4,.slice (some ⟨g38,0,none⟩) (es.length - bs.length + 1) (es.length - bs.length + 1)),(6,.int .u64 (s:Int)),(7,.slice (some ⟨g25,0,none⟩) (es.length + 1) (es.length + 1)),(8,.slice (some ⟨g30,0,none⟩) bs.length bs.length),(9,.int .i64 (bs.length:Int)),(10,.int .i64 ((m:Int) - 1))]) (fun (m,us,q) w_=>m≤(es.length - bs.length + 1)∧us.length=es.length + 1∧(∀ x∈us,x<4294967296)∧q.length=(es.length - bs.length + 1)∧(∀ x∈q,x<4294967296)∧val us<val us30 * 4294967296 ^ m∧4294967296 ^ m * (val (q.drop m) * val us30) + val us=val us25∧Blk w_ g25 90 (uarr us)∧Blk w_ g30 90 (uarr us30)∧Blk w_ g38 90 (uarr q)∧Mod [] w w_) (fun (m,us,q)=>m) ((es.length - bs.length + 1),us25,List.replicate (es.length - bs.length + 1) 0) ?_ ?_ ?_
 · repeat' constructor
 ·
  exact ⟨Nat.le_refl _,hul25,hux25,by simp,rep_lt _,hstart,by simp [val],E25,E30,E38,C0⟩
 rintro ⟨m,us,q⟩ w5 ⟨hm,hul,hux,hql,hqx,hub,hv,E25,E30,E38,C0⟩
 refine W.seq<|W.sr<|L.k rfl<|L.v (R1.ge rfl rfl) rfl<|L.z<|W.cond rfl ?_ ?_
 ·
  intro J43
  try simp only [bq,ne_eq] at J43
  have C1:0<m:=by omega
  obtain ⟨hp1,hp2,hp3,hp4,hp5⟩:=long_prep (i:=m - 1) (n:=bs.length) h2n hux hux30 hul30 (by omega) htop2 (by rw [Nat.sub_add_cancel C1]; exact hub)
  refine W.skip<|X.seq<|W.seq<|W.block<|W.seq<|W.drawW (T:=[]) rfl (by decide +kernel) (NoHang.then (NoHang.block (NoHang.then (NoHang.next (NoHang.block (NoHang.then NoHang.post)))))) (fun w6 C6=>?_)
  replace E25:=E25.gr C6;replace E30:=E30.gr C6;replace E38:=E38.gr C6;replace C0:=C0.trans C6
  have G1:Mod [] w6 w6:=Mod.refl _ _
  clear C6;have hb25_s:=E25;have hb30_s:=E30;have hb38_s:=E38
  refine D.z 0 rfl (by kernel_rfl) rfl G1<|D.z 1 rfl (by kernel_rfl) rfl G1<|D.z 2 rfl (by kernel_rfl) rfl G1<|D.t 3 rfl (by kernel_rfl) (fun _ hS=>(R1.add rfl rfl).as (j:=((m - 1 + bs.length:Nat):Int)) (by rw [wrap_i64 (by omega) (by omega)]; omega)) G1<|D.t 4 rfl (by kernel_rfl) (fun _ hS=>R1.atO (j:=(m - 1 + bs.length)) rfl rfl Q38 rfl (by omega)) G1<|D.t 5 rfl (by kernel_rfl) (fun _ hS=>R1.ldO rfl (Blk.gr (by assumption) hS) (by omega) tyP90 rfl) G1<|D.z 6 rfl (by kernel_rfl) rfl G1<|D.z 7 rfl (by kernel_rfl) rfl G1<|D.z 8 rfl (by kernel_rfl) rfl G1<|D.t 9 rfl (by kernel_rfl) (fun _ hS=>(R1.add rfl rfl).as (j:=((m - 1 + bs.length:Nat):Int)) (by rw [wrap_i64 (by omega) (by omega)]; omega)) G1<|D.t 10 rfl (by kernel_rfl) (fun _ hS=>R1.subI (b:=1) rfl rfl (by omega) (by omega)) G1 ?_
  refine D.t 11 rfl (by kernel_rfl) (fun _ hS=>R1.atO (j:=(m - 1 + bs.length - 1)) rfl rfl Q38 rfl (by omega)) G1<|D.t 12 rfl (by kernel_rfl) (fun _ hS=>R1.ldO rfl (Blk.gr (by assumption) hS) (by omega) tyP90 rfl) G1<|D.z 13 rfl (by kernel_rfl) rfl G1<|D.z 14 rfl (by kernel_rfl) rfl G1<|D.z 15 rfl (by kernel_rfl) rfl G1<|D.t 16 rfl (by kernel_rfl) (fun _ hS=>(R1.add rfl rfl).as (j:=((m - 1 + bs.length:Nat):Int)) (by rw [wrap_i64 (by omega) (by omega)]; omega)) G1<|D.t 17 rfl (by kernel_rfl) (fun _ hS=>R1.subI (b:=2) rfl rfl (by omega) (by omega)) G1<|D.t 18 rfl (by kernel_rfl) (fun _ hS=>R1.atO (j:=(m - 1 + bs.length - 2)) rfl rfl Q38 rfl (by omega)) G1<|D.t 19 rfl (by kernel_rfl) (fun _ hS=>R1.ldO rfl (Blk.gr (by assumption) hS) (by omega) tyP90 rfl) G1<|D.z 20 rfl (by kernel_rfl) rfl G1<|D.z 21 rfl (by kernel_rfl) rfl G1 ?_
  refine D.t 22 rfl (by kernel_rfl) (fun _ hS=>R1.subI (b:=1) rfl rfl (by omega) (by omega)) G1<|D.t 23 rfl (by kernel_rfl) (fun _ hS=>R1.atO (j:=(bs.length - 1)) rfl rfl Q38 rfl (by omega)) G1<|D.t 24 rfl (by kernel_rfl) (fun _ hS=>R1.ldO rfl (Blk.gr (by assumption) hS) (by omega) tyP90 rfl) G1<|D.z 25 rfl (by kernel_rfl) rfl G1<|D.z 26 rfl (by kernel_rfl) rfl G1<|D.t 27 rfl (by kernel_rfl) (fun _ hS=>R1.subI (b:=2) rfl rfl (by omega) (by omega)) G1<|D.t 28 rfl (by kernel_rfl) (fun _ hS=>R1.atO (j:=(bs.length - 2)) rfl rfl Q38 rfl (by omega)) G1<|D.t 29 rfl (by kernel_rfl) (fun _ hS=>R1.ldO rfl (Blk.gr (by assumption) hS) (by omega) tyP90 rfl) G1<|D.one 30 rfl (by kernel_rfl) (fun hX=>?_)
  refine L.c rfl (c_nat_guess hp1 (hux _ (List.getElem_mem (show m - 1 + bs.length - 1<us.length by omega))) (hux _ (List.getElem_mem (show m - 1 + bs.length - 2<us.length by omega))) htop2 (hux30 _ (List.getElem_mem (show bs.length - 1<us30.length by omega))) (hux30 _ (List.getElem_mem (show bs.length - 2<us30.length by omega)))) ?_
  rintro _ w7 ⟨x,rfl,hx1,hx2,hx3,C7⟩
  replace E25:=E25.gr C7;replace E30:=E30.gr C7;replace E38:=E38.gr C7;replace C0:=C0.trans C7;replace G1:=G1.trans C7;clear C7
  refine L.nil (hX _ _ ⟨.inr G1,?_⟩)
  refine D.t 31 rfl (by kernel_rfl) (fun _ hS=>R1.assign rfl) G1<|D.done (by decide +kernel) ?_ _
  refine X.seq<|W.seq<|W.seq ?_
  have hkn:=hp5 x hx1 hx2 hx3
  have hUd:U32 [g25] w7 (.slice (some ⟨g30,0,none⟩) bs.length bs.length) us30:=by
      have hU:=U32.of_blk (M:=[g25]) E30 (by simp; exact fun h=>hne_g25_g30 h.symm) (by unfold maxLen; omega) hux30
      rw [hul30] at hU; exact hU
  refine W.region<|L.k rfl<|L.k rfl<|L.k rfl<|L.k rfl<|L.v ((R1.add rfl rfl).as (j:=((m - 1 + bs.length:Nat):Int)) (by rw [wrap_i64 (by omega) (by omega)]; omega)) rfl<|L.inc rfl rfl (by omega)<|L.v ((R1.sliceLH rfl rfl rfl Q38 (by omega) (by omega) (by omega)).asV (v:=.slice (some ⟨g25,m - 1,none⟩) (bs.length + 1) (es.length + 1 - (m - 1))) (by rw [show ((m:Int) - 1).toNat=m - 1 by omega,Int.toNat_natCast,cutS_lit _ _ _ _ (by omega)]; congr 1; omega)) rfl<|L.k rfl<|L.k rfl<|L.c rfl (c_nat_takesN (M:=[]) hul30 E25 hux hUd (by omega) hx1 (by omega) (hqD_of hkn.2)) ?_
  rintro _ w8 ⟨us2,b86,rfl,E25,hul2,hux2,hfa,htr,C8⟩
  replace E30:=E30.fr C8;replace E38:=E38.fr C8;replace C0:=C0.old1 C8 K25;clear C8
  refine L.z<|W.cut (ι:=Nat) (fun y=>[(4,.slice (some ⟨g38,0,none⟩) (es.length - bs.length + 1) (es.length - bs.length + 1)),(6,.int .u64 (s:Int)),(7,.slice (some ⟨g25,0,none⟩) (es.length + 1) (es.length + 1)),(8,.slice (some ⟨g30,0,none⟩) bs.length bs.length),(9,.int .i64 (bs.length:Int)),(10,.int .i64 ((m:Int) - 1)),(11,.int .u64 (y:Int))]) (fun y w_=>y<4294967296∧y=seg us (m - 1) bs.length / val us30∧val us2 + 4294967296 ^ (m - 1) * (y * val us30)=val us∧Blk w_ g25 90 (uarr us2)∧Blk w_ g30 90 (uarr us30)∧Blk w_ g38 90 (uarr q)∧Mod [] w w_) ?_ ?_
  ·
   refine W.cond rfl ?_ ?_
   ·
    intro J86
    have hcc_:=J86;obtain ⟨hta,htb⟩:=htr J86;have hxe:=div_of_gt hp3 hkn.2 htb
    have hx0:0<x:=by rw [hxe]; exact Nat.succ_pos _
    refine W.region<|L.k rfl<|L.v (R1.subL (b:=1) rfl rfl (by omega) (by omega)) rfl<|L.b rfl<|L.nil<|X.join (x - 1) ?_ ?_
    · repeat' constructor
    have e9:x * val us30=(x - 1) * val us30 + val us30:=by
        have e8:x=x - 1 + 1:=by omega
        conv=>lhs; rw [e8,Nat.add_mul,Nat.one_mul]
    rw [e9,Nat.mul_add] at hta
    exact ⟨by omega,by omega,by omega,E25,E30,E38,C0⟩
   intro J86
   have hcc_:=J86;obtain ⟨hta,htb⟩:=hfa J86;have hxe:=div_of_le hp3 hkn.1 htb
   refine W.skip<|X.join x ?_ ?_
   · repeat' constructor
   exact ⟨hx1,hxe,hta,E25,E30,E38,C0⟩
  rintro y wk ⟨hyB,hy,hy2,E25,E30,E38,C0⟩
  refine X.seq<|W.region<|L.k rfl<|L.k rfl<|L.k rfl<|L.v ((R1.convLW rfl tyI87 tyI90).as (j:=((y:Nat):Int)) (by rw [Nat.mod_eq_of_lt (by omega)])) rfl<|L.v (R1.atO (j:=(m - 1)) rfl rfl Q38 (by omega) (by omega)) rfl<|L.storeU rfl rfl E38 (by omega) tyP90 ?_
  intro w9 E38' C9
  replace E25:=E25.fr C9;replace E30:=E30.fr C9;replace C0:=C0.old1 C9 K38;clear C9;replace E38:=E38'; clear E38'
  refine L.nil<|X.blockEnd<|X.seq<|W.region<|L.k rfl<|L.v ((R1.sub rfl rfl).as (j:=((m - 1:Nat):Int) - 1) (by rw [wrap_i64 (by omega) (by omega)]; omega)) rfl<|L.b rfl<|L.nil<|X.next (m - 1,us2,q.set (m - 1) y) ?_ ?_ ?_
  · repeat' constructor
  ·
   exact ⟨by omega,by omega,hux2,by simpa using hql,set_lt hqx hyB,long_rest hy2 hp2 (val_take_lt_pow hux (by omega)) (by rw [hy]; exact lt_div_step hp3),by rw [val_drop_set (by omega),Nat.sub_add_cancel C1]; exact long_step (by rw [← Nat.pow_succ,Nat.succ_eq_add_one,Nat.sub_add_cancel C1]; exact hv) hy2,E25,E30,E38,C0⟩
  first | omega | (dsimp only; omega)
 intro J43
 try simp only [bq,ne_eq] at J43
 obtain rfl:m=0:=by omega
 rw [List.drop_zero,Nat.pow_zero,Nat.one_mul] at hv
 rw [Nat.pow_zero,Nat.mul_one] at hub
 have hDn:val us30<4294967296 ^ bs.length:=val_lt_len hux30 hul30
 have hUq:U32 M w5 (.slice (some ⟨g38,0,none⟩) (es.length - bs.length + 1) (es.length - bs.length + 1)) q:=by
     have hU:=U32.of_blk (M:=M) E38 (hbd0.not K38) (by unfold maxLen; omega) hqx
     rw [hql] at hU; exact hU
 have hUu:U32 M w5 (.slice (some ⟨g25,0,none⟩) bs.length (es.length + 1)) (us.take bs.length):=U32.of_blk_take E25 (hbd0.not K25) (by unfold maxLen; omega) hux (by omega) hul
 refine W.brk<|W.seq<|W.drawW (T:=[]) rfl (by decide +kernel) (NoHang.then NoHang.post) (fun w10 C10=>?_)
 replace C0:=C0.trans C10;replace hUq:=hUq.gr C10;replace hUu:=hUu.gr C10
 have G2:Mod [] w10 w10:=Mod.refl _ _
 clear C10
 refine D.z 0 rfl (by kernel_rfl) rfl G2<|D.z 2 rfl (by kernel_rfl) rfl G2<|D.z 3 rfl (by kernel_rfl) rfl G2<|D.t 4 rfl (by kernel_rfl) (fun _ hS=>(R1.sliceH rfl rfl Q38 (by omega) (by omega)).asV (v:=.slice (some ⟨g25,0,none⟩) bs.length (es.length + 1)) (by rw [Int.toNat_natCast]; exact cutS_lit0 _ _ _ (by omega))) G2<|D.z 5 rfl (by kernel_rfl) rfl G2<|D.t 6 rfl (by kernel_rfl) (fun _ hS=>R1.convLI rfl tyI117 tyI3 (by omega)) G2<|D.t 7 rfl (by kernel_rfl) (fun _ hS=>(R1.neg rfl).as (wrap_i64 (by omega) (by omega))) G2<|D.one 1 rfl (by kernel_rfl) (fun hX=>?_)
 refine L.c rfl (c_nat_trim hUq) ?_
 rintro v95 w11 ⟨h95,C11⟩
 replace C0:=C0.trans C11;replace hUu:=hUu.gr C11;replace G2:=G2.trans C11;clear C11
 refine L.nil (hX _ _ ⟨.inr G2,?_⟩)
 refine D.one 8 rfl (by kernel_rfl) (fun hX=>?_)
 refine L.c rfl (c_nat_Shift hUu hs (hbd0.gr C0) (by simp; omega)) ?_
 rintro v102 w12 ⟨h102,C12⟩
 replace C0:=C0.trans C12;replace h95:=h95.gr C12;replace G2:=G2.trans C12;clear C12
 refine L.nil (hX _ _ ⟨.inr G2,?_⟩)
 refine D.t 9 rfl (by kernel_rfl) (fun _ hS=>R1.assign rfl) G2<|D.t 10 rfl (by kernel_rfl) (fun _ hS=>R1.assign rfl) G2<|D.done (by decide +kernel) ?_ _
 refine X.seq<|W.ret<|X.result2 rfl (.tmp rfl (.tmp rfl .nil)) ?_
 rw [hvA] at hv
 have hz:=long_end hv rfl hvD hub
 rw [hz.1,hz.2]
 rw [val_take_lt (by omega)] at h102
 exact ⟨_,_,rfl,h95,h102,C0⟩
theorem toL_top {n:Nat} (h:(toL n).length≠0):(toL n)[(toL n).length - 1]≠0:=by
  have h1:=trimmed_toL n
  rw [trimmed_snoc h] at h1
  simpa using h1
theorem toL_one {n:Nat} (h:(toL n).length=1):(toL n)[0]=n:=by
  obtain ⟨x,hx⟩:=List.length_eq_one_iff.1 h;have h1:=val_toL n
  rw [hx] at h1
  simp [val] at h1
  simp [hx,h1]
theorem c_nat_DivMod {M : List Nat} {w : World} {va vb : Value} {xs ys : List Nat} (h : U32 M w va xs) (k : U32 M w vb ys) (hbd : Bd M w) (hl1 : xs.length ≤ 1099511627776) (hl2 : ys.length ≤ 1099511627776) (hy : val ys ≠ 0) :
    Ret Tryz.prog 103 #[va,vb] w (fun r w'=>∃ v u,r=.tuple #[v,u,.bool true]∧U32 M w' v (toL (val xs / val ys))∧U32 M w' u (toL (val xs % val ys))∧Mod [] w w'):=by
 have hla:=toL_len_40 h.2 hl1;have hlb:=toL_len_40 k.2 hl2
 have hnz:(toL (val ys)).length≠0:=fun h0=>hy (toL_nil.1 (List.eq_nil_of_length_eq_zero h0))
 have hbx:=toL_lt (val ys)
 refine Ret.of (vs:=[va,vb]) (n:=48) Tryz.func103 rfl rfl rfl rfl ?_
 have C0:Mod [] w w:=Mod.refl _ _
 refine W.sr<|L.b rfl<|L.b rfl<|L.b rfl<|L.z<|W.sr<|L.k rfl<|L.c rfl (c_nat_trim (by assumption)) ?_
 rintro v10 w1 ⟨h10,C1⟩
 replace h:=h.gr C1;replace k:=k.gr C1;replace hbd:=hbd.gr C1;replace C0:=C0.trans C1;clear C1
 refine L.k rfl<|L.c rfl (c_nat_trim (by assumption)) ?_
 rintro v12 w2 ⟨h12,C2⟩
 replace h:=h.gr C2;replace k:=k.gr C2;replace hbd:=hbd.gr C2;replace C0:=C0.trans C2;replace h10:=h10.gr C2;clear C2
 refine L.b rfl<|L.b rfl<|L.z<|W.seq<|W.block<|W.sr<|L.k rfl<|L.lU rfl (by assumption) Q38<|L.v ((R1.eq rfl rfl).asB (c:=false) (by rw [decide_eq_false_iff_not]; omega)) rfl ?_
 refine L.b rfl<|L.z<|W.condF rfl<|W.sr<|L.k rfl<|L.k rfl<|L.c rfl (c_nat_Cmp h10 h12) ?_
 rintro _ w3 ⟨rfl,C3⟩
 replace h:=h.gr C3;replace k:=k.gr C3;replace hbd:=hbd.gr C3;replace C0:=C0.trans C3;replace h10:=h10.gr C3;replace h12:=h12.gr C3;clear C3
 refine L.v ((R1.lt rfl rfl).asB (c:=decide (val xs<val ys)) (by rw [cmpI_lt0,val_toL,val_toL])) rfl<|L.b rfl<|L.z<|W.cond rfl ?_ ?_
 ·
  intro J17
  try simp only [bq,ne_eq] at J17
  refine W.sr<|L.k rfl<|L.c rfl (c_nat_Trim h10 hbd (by omega)) ?_
  rintro v23 w4 ⟨h23,C4⟩
  replace C0:=C0.trans C4;clear C4
  refine L.b rfl<|L.b rfl<|L.b rfl<|L.z<|W.ret<|X.blockRet<|X.thenRet<|X.result3 rfl (.tmp rfl (.tmp rfl (.tmp rfl .nil))) ?_
  rw [Nat.div_eq_of_lt (by omega),Nat.mod_eq_of_lt (by omega),toL_zero]
  rw [val_toL] at h23
  exact ⟨_,_,rfl,U32.nil,h23,C0⟩
 intro J17
 try simp only [bq,ne_eq] at J17
 refine W.sr<|L.k rfl<|L.lU rfl (by assumption) Q38<|L.v (R1.eq rfl rfl) rfl<|L.b rfl<|L.z<|W.cond rfl ?_ ?_
 ·
  intro J24
  try simp only [bq,ne_eq] at J24
  replace J24:(toL (val ys)).length=1:=by omega
  refine W.sr<|L.k rfl<|L.k rfl<|L.v (R1.atU (j:=0) rfl rfl (by assumption) Q38 rfl (by omega)) rfl<|L.v (R1.ldU rfl (by assumption) tyP90 (by omega) rfl) rfl<|L.c rfl (c_nat_small h10 (by rw [toL_one J24]; omega) (hbx _ (List.getElem_mem _)) hbd (by omega)) ?_
  rintro _ w5 ⟨v33,rfl,h33,C5⟩
  replace hbd:=hbd.gr C5;replace C0:=C0.trans C5;clear C5
  refine L.k rfl<|L.ex rfl rfl<|L.ex rfl rfl<|L.b rfl<|L.b rfl<|L.z<|W.seq ?_
  have hrl:val (toL (val xs)) % (toL (val ys))[0]<4294967296:=Nat.lt_of_le_of_lt (Nat.le_of_lt (Nat.mod_lt _ (by rw [toL_one J24]; omega))) (hbx _ (List.getElem_mem (show 0<(toL (val ys)).length by omega)))
  refine W.region<|L.k rfl<|L.k rfl<|L.v (R1.convWL rfl tyI90 tyI87 (by omega)) rfl<|L.c rfl (c_nat_Of (by omega) hbd) ?_
  rintro v39 w6 ⟨h39,C6⟩
  replace C0:=C0.trans C6;replace h33:=h33.gr C6;clear C6
  refine L.b rfl<|L.b rfl<|L.b rfl<|L.z<|W.ret<|X.blockRet<|X.thenRet<|X.result3 rfl (.tmp rfl (.tmp rfl (.tmp rfl .nil))) ?_
  rw [val_toL,toL_one J24] at h33 h39
  exact ⟨_,_,rfl,h33,h39,C0⟩
 intro J24
 try simp only [bq,ne_eq] at J24
 refine W.skip<|X.blockEnd<|X.seq<|W.sr<|L.k rfl<|L.k rfl<|L.c rfl (c_nat_long h10 h12 hbd (by omega) (by omega) (toL_len_mono (by omega)) (toL_top hnz)) ?_
 rintro _ w7 ⟨v43,u43,rfl,h43,k43,C7⟩
 replace C0:=C0.trans C7;clear C7
 refine L.k rfl<|L.ex rfl rfl<|L.ex rfl rfl<|L.b rfl<|L.b rfl<|L.z<|W.sr<|L.k rfl<|L.k rfl ?_
 refine L.b rfl<|L.b rfl<|L.b rfl<|L.z<|W.ret<|X.result3 rfl (.tmp rfl (.tmp rfl (.tmp rfl .nil))) ?_
 rw [val_toL,val_toL] at h43 k43
 exact ⟨_,_,rfl,h43,k43,C0⟩
theorem c_nat_Gcd {M : List Nat} {w : World} {va vb : Value} {xs ys : List Nat} (h : U32 M w va xs) (k : U32 M w vb ys) (hbd : Bd M w) (hl1 : xs.length ≤ 1099511627776) (hl2 : ys.length ≤ 1099511627776) :
    Ret Tryz.prog 65 #[va,vb] w (fun r w'=>U32 M w' r (toL (Nat.gcd (val xs) (val ys)))∧Mod [] w w'):=by
 have hla:=toL_len_40 h.2 hl1;have hlb:=toL_len_40 k.2 hl2
 refine Ret.of (vs:=[va,vb]) (n:=25) Tryz.func65 rfl rfl rfl rfl ?_
 have C0:Mod [] w w:=Mod.refl _ _
 refine W.sr<|L.b rfl<|L.z<|W.sr<|L.k rfl<|L.c rfl (c_nat_Trim (by assumption) (by assumption) (by omega)) ?_
 rintro v9 w1 ⟨h9,C1⟩
 replace h:=h.gr C1;replace k:=k.gr C1;replace hbd:=hbd.gr C1;replace C0:=C0.trans C1;clear C1
 refine L.k rfl<|L.c rfl (c_nat_Trim (by assumption) (by assumption) (by omega)) ?_
 rintro v11 w2 ⟨h11,C2⟩
 replace h:=h.gr C2;replace k:=k.gr C2;replace hbd:=hbd.gr C2;replace C0:=C0.trans C2;replace h9:=h9.gr C2;clear C2
 refine L.b rfl<|L.b rfl<|L.z<|W.seq<|W.block<|W.loop (ι:=Nat × Nat × Value × Value) (fun (a,b,u1,u2)=>[(0,u1),(1,u2)]) (fun (a,b,u1,u2) w_=>(toL a).length≤1099511627776∧(toL b).length≤1099511627776∧Nat.gcd a b=Nat.gcd (val xs) (val ys)∧U32 M w_ u1 (toL a)∧U32 M w_ u2 (toL b)∧Bd M w_∧Mod [] w w_) (fun (a,b,u1,u2)=>b) (val xs,val ys,v9,v11) ?_ ?_ ?_
 · exact ⟨rfl,rfl,trivial⟩
 ·
  exact ⟨hla,hlb,rfl,h9,h11,hbd,C0⟩
 rintro ⟨a,b,u1,u2⟩ w3 ⟨hal,hbl,hg,h,k,hbd,C0⟩
 refine W.seq<|W.sr<|L.k rfl<|L.lU rfl (by assumption) Q38<|L.v (R1.gt rfl rfl) rfl<|L.z<|W.cond rfl ?_ ?_
 ·
  intro J14
  try simp only [bq,ne_eq] at J14
  have E0:b≠0:=by
      intro h0
      subst h0
      rw [toL_zero] at J14; simp at J14
  refine W.skip<|X.seq<|W.block<|W.sr<|L.k rfl<|L.k rfl<|L.c rfl (c_nat_DivMod h k hbd (by omega) (by omega) (by rw [val_toL]; exact E0)) ?_
  rintro _ w4 ⟨v18,u18,rfl,h18,k18,C4⟩
  replace k:=k.gr C4;replace hbd:=hbd.gr C4;replace C0:=C0.trans C4;clear C4
  rw [val_toL,val_toL] at k18
  refine L.k rfl<|L.ex rfl rfl<|L.ex rfl rfl<|L.ex rfl rfl<|L.b rfl<|L.b rfl<|L.b rfl<|L.z<|W.region<|L.k rfl ?_
  refine L.k rfl<|L.b rfl<|L.b rfl<|L.nil<|X.blockEnd<|X.next (b,a % b,u2,u18) ?_ ?_ ?_
  · exact ⟨rfl,rfl,trivial⟩
  ·
   exact ⟨hbl,Nat.le_trans (toL_len_mono (Nat.le_of_lt (Nat.mod_lt _ (Nat.pos_of_ne_zero E0)))) hbl,by rw [← hg,Nat.gcd_comm a b,Nat.gcd_rec b a,Nat.gcd_comm],k,k18,hbd,C0⟩
  exact Nat.mod_lt _ (Nat.pos_of_ne_zero E0)
 intro J14
 try simp only [bq,ne_eq] at J14
 have E0:b=0:=toL_nil.1 (List.eq_nil_of_length_eq_zero (by omega))
 subst E0
 rw [Nat.gcd_zero_right] at hg
 refine W.brk<|W.sr<|L.k rfl<|L.b rfl<|L.z ?_
 refine W.ret<|X.result1 rfl (.tmp rfl .nil) ?_
 exact ⟨by rw [← hg]; exact h,C0⟩
end Go.Proofs.YthoooolflmbmbaaGreat
