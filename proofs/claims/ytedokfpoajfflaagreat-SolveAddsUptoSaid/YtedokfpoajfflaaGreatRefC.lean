/- Walks: what the functions compute. -/
import Derived.Test.YtedokfpoajfflaaGreatRefB
namespace Go.Proofs.YtedokfpoajfflaaGreat
open Go.RowKit
set_option linter.unusedVariables false
set_option linter.unusedSimpArgs false
set_option maxRecDepth 10000
theorem c_r1_DivModA {M : List Nat} {w : World} {va vb : Value} {xs ys : List Nat} (h : U32 M w va xs) (k : U32 M w vb ys) (hbd : Bd M w) (hl1 : xs.length ≤ 1099511627776) (hl2 : ys.length ≤ 1099511627776) (hy : val ys ≠ 0) (hX :  (toL (val xs)).length ≤ 2) (hY :  (toL (val ys)).length ≤ 2) :
    Ret Tryz.prog 62 #[va,vb] w (fun r w'=>∃ v u,r=.tuple #[v,u,.bool true]∧U32 M w' v (toL (val xs / val ys))∧U32 M w' u (toL (val xs % val ys))∧Mod [] w w'):=by
 have hnz:(toL (val ys)).length≠0:=fun h0=>hy (toL_nil.1 (List.eq_nil_of_length_eq_zero h0))
 have hla:=toL_len_40 h.2 hl1;have hlb:=toL_len_40 k.2 hl2;have hbd0:=hbd;have hx:=h.2;have hx64:=val_lt64 hX;have hy64:=val_lt64 hY
 have hq64:val xs / val ys<18446744073709551616:=Nat.lt_of_le_of_lt (Nat.div_le_self _ _) hx64
 have hr64:val xs % val ys<18446744073709551616:=Nat.lt_trans (Nat.mod_lt _ (Nat.pos_of_ne_zero hy)) hy64
 refine Ret.of (vs:=[va,vb]) (n:=111) Tryz.func62 rfl rfl rfl rfl ?_
 have hm0:Mod [] w w:=Mod.refl _ _
 refine W.seq<|W.region<|L.a rfl rfl<|L.a rfl rfl<|L.a rfl rfl<|L.nil<|X.seq<|W.seq<|W.seq<|W.region<|L.m rfl rfl ?_
 refine L.call rfl (c_r1_Trim (by assumption) (by assumption) (by omega)) rfl ?_
 rintro v17 w1 ⟨h17,hm1⟩
 replace h:=h.gr hm1;replace k:=k.gr hm1;replace hbd:=hbd.gr hm1;replace hm0:=hm0.trans hm1;clear hm1
 refine L.v (R1.lenU rfl (by assumption) tyS24) rfl<|L.v ((R1.eq rfl rfl).asB (c:=false) (by rw [decide_eq_false_iff_not]; omega)) rfl<|L.nil<|X.seq<|W.condF rfl<|W.skip<|X.seq<|W.seq<|W.region<|L.m rfl rfl<|L.call rfl (c_r1_To1 h hbd (by omega) hX) rfl ?_
 rintro _ w2 ⟨rfl,hm2⟩
 replace h:=h.gr hm2;replace k:=k.gr hm2;replace hbd:=hbd.gr hm2;replace hm0:=hm0.trans hm2;replace h17:=h17.gr hm2;clear hm2
 refine L.m rfl rfl<|L.v (R1.extract rfl rfl) rfl<|L.v (R1.extract rfl rfl) rfl<|L.a rfl rfl<|L.a rfl rfl<|L.nil<|X.seq<|W.seq<|W.region<|L.m rfl rfl<|L.call rfl (c_r1_To1 k hbd (by omega) hY) rfl ?_
 rintro _ w3 ⟨rfl,hm3⟩
 replace h:=h.gr hm3;replace k:=k.gr hm3;replace hbd:=hbd.gr hm3;replace hm0:=hm0.trans hm3;replace h17:=h17.gr hm3;clear hm3
 refine L.m rfl rfl<|L.v (R1.extract rfl rfl) rfl<|L.v (R1.extract rfl rfl) rfl<|L.a rfl rfl<|L.a rfl rfl<|L.nil<|X.seq<|W.seq<|W.seq<|W.region<|L.m rfl rfl ?_
 refine L.m rfl rfl<|L.on rfl rfl rfl (R1.move rfl) rfl<|L.v (R1.pickT rfl rfl) rfl<|L.nil<|X.seq<|W.condT rfl<|W.seq<|W.drawW (T:=[]) rfl (by decide +kernel) (NoHang.then (NoHang.then NoHang.post)) (fun w4 hm4=>?_)
 replace h:=h.gr hm4;replace k:=k.gr hm4;replace hbd:=hbd.gr hm4;replace hm0:=hm0.trans hm4;replace h17:=h17.gr hm4
 have hS1:Mod [] w4 w4:=Mod.refl _ _
 clear hm4
 refine D.m 0 rfl (by kernel_rfl) rfl hS1 rfl<|D.m 1 rfl (by kernel_rfl) rfl hS1 rfl<|D.take 2 rfl (by kernel_rfl) (fun w_ hS=>(R1.quoL rfl rfl (by omega) (by omega))) hS1 rfl<|D.m 4 rfl (by kernel_rfl) rfl hS1 rfl<|D.m 5 rfl (by kernel_rfl) rfl hS1 rfl<|D.take 6 rfl (by kernel_rfl) (fun w_ hS=>(R1.remL rfl rfl (by omega))) hS1 rfl<|D.one 3 rfl (by kernel_rfl) (fun hX=>?_)
 refine L.call rfl (c_r1_Of hq64 (by assumption)) rfl ?_
 rintro v37 w5 ⟨h37,hm5⟩
 replace h:=h.gr hm5;replace k:=k.gr hm5;replace hbd:=hbd.gr hm5;replace hm0:=hm0.trans hm5;replace h17:=h17.gr hm5;replace hS1:=hS1.trans hm5;clear hm5
 refine L.nil (hX _ _ ⟨.inr hS1,?_⟩)
 refine D.one 7 rfl (by kernel_rfl) (fun hX=>?_)
 refine L.call rfl (c_r1_Of hr64 (by assumption)) rfl ?_
 rintro v41 w6 ⟨h41,hm6⟩
 replace hm0:=hm0.trans hm6;replace h37:=h37.gr hm6;replace hS1:=hS1.trans hm6;clear hm6
 refine L.nil (hX _ _ ⟨.inr hS1,?_⟩)
 refine D.take 8 rfl (by kernel_rfl) (fun w_ hS=>(R1.assign rfl)) hS1 rfl<|D.take 9 rfl (by kernel_rfl) (fun w_ hS=>(R1.assign rfl)) hS1 rfl<|D.take 10 rfl (by kernel_rfl) (fun w_ hS=>(R1.assign rfl)) hS1 rfl<|D.done (by decide +kernel) ?_ _
 refine X.seq<|W.ret<|X.thenRet<|X.result3 rfl (.tmp rfl (.tmp rfl (.tmp rfl .nil))) ?_
 exact ⟨_,_,rfl,h37,h41,hm0⟩
theorem c_r1_DivModB {M : List Nat} {w : World} {va vb : Value} {xs ys : List Nat} (h : U32 M w va xs) (k : U32 M w vb ys) (hbd : Bd M w) (hl1 : xs.length ≤ 1099511627776) (hl2 : ys.length ≤ 1099511627776) (hy : val ys ≠ 0) (hX : 2 < (toL (val xs)).length) (hY :  (toL (val ys)).length ≤ 2) (hB : val ys < 4294967296) :
    Ret Tryz.prog 62 #[va,vb] w (fun r w'=>∃ v u,r=.tuple #[v,u,.bool true]∧U32 M w' v (toL (val xs / val ys))∧U32 M w' u (toL (val xs % val ys))∧Mod [] w w'):=by
 have hnz:(toL (val ys)).length≠0:=fun h0=>hy (toL_nil.1 (List.eq_nil_of_length_eq_zero h0))
 have hla:=toL_len_40 h.2 hl1;have hlb:=toL_len_40 k.2 hl2;have hbd0:=hbd;have hx:=h.2
 have hr64:val xs % val ys<18446744073709551616:=Nat.lt_trans (Nat.mod_lt _ (Nat.pos_of_ne_zero hy)) (by omega)
 refine Ret.of (vs:=[va,vb]) (n:=111) Tryz.func62 rfl rfl rfl rfl ?_
 have hm0:Mod [] w w:=Mod.refl _ _
 refine W.seq<|W.region<|L.a rfl rfl<|L.a rfl rfl<|L.a rfl rfl<|L.nil<|X.seq<|W.seq<|W.seq<|W.region<|L.m rfl rfl ?_
 refine L.call rfl (c_r1_Trim (by assumption) (by assumption) (by omega)) rfl ?_
 rintro v17 w1 ⟨h17,hm1⟩
 replace h:=h.gr hm1;replace k:=k.gr hm1;replace hbd:=hbd.gr hm1;replace hm0:=hm0.trans hm1;clear hm1
 refine L.v (R1.lenU rfl (by assumption) tyS24) rfl<|L.v ((R1.eq rfl rfl).asB (c:=false) (by rw [decide_eq_false_iff_not]; omega)) rfl<|L.nil<|X.seq<|W.condF rfl<|W.skip<|X.seq<|W.seq<|W.region<|L.m rfl rfl<|L.call rfl (c_r1_To0 h hbd (by omega) hX) rfl ?_
 rintro _ w2 ⟨rfl,hm2⟩
 replace h:=h.gr hm2;replace k:=k.gr hm2;replace hbd:=hbd.gr hm2;replace hm0:=hm0.trans hm2;replace h17:=h17.gr hm2;clear hm2
 refine L.m rfl rfl<|L.v (R1.extract rfl rfl) rfl<|L.v (R1.extract rfl rfl) rfl<|L.a rfl rfl<|L.a rfl rfl<|L.nil<|X.seq<|W.seq<|W.region<|L.m rfl rfl<|L.call rfl (c_r1_To1 k hbd (by omega) hY) rfl ?_
 rintro _ w3 ⟨rfl,hm3⟩
 replace h:=h.gr hm3;replace k:=k.gr hm3;replace hbd:=hbd.gr hm3;replace hm0:=hm0.trans hm3;replace h17:=h17.gr hm3;clear hm3
 refine L.m rfl rfl<|L.v (R1.extract rfl rfl) rfl<|L.v (R1.extract rfl rfl) rfl<|L.a rfl rfl<|L.a rfl rfl<|L.nil<|X.seq<|W.seq<|W.seq<|W.region<|L.m rfl rfl ?_
 refine L.m rfl rfl<|L.off rfl rfl rfl rfl rfl<|L.v (R1.pickF rfl rfl) rfl<|L.nil<|X.seq<|W.condF rfl<|W.skip<|X.seq<|W.seq<|W.seq<|W.region ?_
 refine L.m rfl rfl<|L.m rfl rfl<|L.on rfl rfl rfl (R1.move rfl) rfl<|L.on rfl rfl rfl ((R1.lt rfl rfl).asB (c:=true) (by rw [decide_eq_true_eq]; omega)) rfl<|L.v (R1.pickT rfl rfl) rfl<|L.nil<|X.seq<|W.condT rfl<|W.seq<|W.region<|L.m rfl rfl ?_
 refine L.m rfl rfl<|L.call rfl (c_r1_small h (by omega) hB hbd (by omega)) rfl ?_
 rintro _ w4 ⟨v50,rfl,h50,hm4⟩
 replace h:=h.gr hm4;replace k:=k.gr hm4;replace hbd:=hbd.gr hm4;replace hm0:=hm0.trans hm4;replace h17:=h17.gr hm4;clear hm4
 refine L.m rfl rfl<|L.v (R1.extract rfl rfl) rfl<|L.v (R1.extract rfl rfl) rfl<|L.a rfl rfl<|L.a rfl rfl<|L.nil<|X.seq<|W.seq<|W.region<|L.m rfl rfl<|L.m rfl rfl ?_
 refine L.call rfl (c_r1_Of hr64 (by assumption)) rfl ?_
 rintro v55 w5 ⟨h55,hm5⟩
 replace hm0:=hm0.trans hm5;replace h50:=h50.gr hm5;clear hm5
 refine L.a rfl rfl<|L.a rfl rfl<|L.a rfl rfl<|L.nil<|X.seq<|W.ret<|X.thenRet<|X.result3 rfl (.tmp rfl (.tmp rfl (.tmp rfl .nil))) ?_
 exact ⟨_,_,rfl,h50,h55,hm0⟩
theorem c_r1_DivModC {M : List Nat} {w : World} {va vb : Value} {xs ys : List Nat} (h : U32 M w va xs) (k : U32 M w vb ys) (hbd : Bd M w) (hl1 : xs.length ≤ 1099511627776) (hl2 : ys.length ≤ 1099511627776) (hy : val ys ≠ 0) (hX : 2 < (toL (val xs)).length) (hY :  (toL (val ys)).length ≤ 2) (hB : 4294967296 ≤ val ys) :
    Ret Tryz.prog 62 #[va,vb] w (fun r w'=>∃ v u,r=.tuple #[v,u,.bool true]∧U32 M w' v (toL (val xs / val ys))∧U32 M w' u (toL (val xs % val ys))∧Mod [] w w'):=by
 have hnz:(toL (val ys)).length≠0:=fun h0=>hy (toL_nil.1 (List.eq_nil_of_length_eq_zero h0))
 have hla:=toL_len_40 h.2 hl1;have hlb:=toL_len_40 k.2 hl2;have hbd0:=hbd;have hx:=h.2
 refine Ret.of (vs:=[va,vb]) (n:=111) Tryz.func62 rfl rfl rfl rfl ?_
 have hm0:Mod [] w w:=Mod.refl _ _
 refine W.seq<|W.region<|L.a rfl rfl<|L.a rfl rfl<|L.a rfl rfl<|L.nil<|X.seq<|W.seq<|W.seq<|W.region<|L.m rfl rfl ?_
 refine L.call rfl (c_r1_Trim (by assumption) (by assumption) (by omega)) rfl ?_
 rintro v17 w1 ⟨h17,hm1⟩
 replace h:=h.gr hm1;replace k:=k.gr hm1;replace hbd:=hbd.gr hm1;replace hm0:=hm0.trans hm1;clear hm1
 refine L.v (R1.lenU rfl (by assumption) tyS24) rfl<|L.v ((R1.eq rfl rfl).asB (c:=false) (by rw [decide_eq_false_iff_not]; omega)) rfl<|L.nil<|X.seq<|W.condF rfl<|W.skip<|X.seq<|W.seq<|W.region<|L.m rfl rfl<|L.call rfl (c_r1_To0 h hbd (by omega) hX) rfl ?_
 rintro _ w2 ⟨rfl,hm2⟩
 replace h:=h.gr hm2;replace k:=k.gr hm2;replace hbd:=hbd.gr hm2;replace hm0:=hm0.trans hm2;replace h17:=h17.gr hm2;clear hm2
 refine L.m rfl rfl<|L.v (R1.extract rfl rfl) rfl<|L.v (R1.extract rfl rfl) rfl<|L.a rfl rfl<|L.a rfl rfl<|L.nil<|X.seq<|W.seq<|W.region<|L.m rfl rfl<|L.call rfl (c_r1_To1 k hbd (by omega) hY) rfl ?_
 rintro _ w3 ⟨rfl,hm3⟩
 replace h:=h.gr hm3;replace k:=k.gr hm3;replace hbd:=hbd.gr hm3;replace hm0:=hm0.trans hm3;replace h17:=h17.gr hm3;clear hm3
 refine L.m rfl rfl<|L.v (R1.extract rfl rfl) rfl<|L.v (R1.extract rfl rfl) rfl<|L.a rfl rfl<|L.a rfl rfl<|L.nil<|X.seq<|W.seq<|W.seq<|W.region<|L.m rfl rfl ?_
 refine L.m rfl rfl<|L.off rfl rfl rfl rfl rfl<|L.v (R1.pickF rfl rfl) rfl<|L.nil<|X.seq<|W.condF rfl<|W.skip<|X.seq<|W.seq<|W.seq<|W.region ?_
 refine L.m rfl rfl<|L.m rfl rfl<|L.on rfl rfl rfl (R1.move rfl) rfl<|L.on rfl rfl rfl ((R1.lt rfl rfl).asB (c:=false) (by rw [decide_eq_false_iff_not]; omega)) rfl<|L.v (R1.pickT rfl rfl) rfl<|L.nil<|X.seq<|W.condF rfl<|W.skip<|X.seq<|W.seq ?_
 refine W.region<|L.m rfl rfl<|L.v (R1.lenU rfl h tyS24) rfl<|L.makeSlice (m:=xs.length) rfl rfl rfl rfl tyS24 tyZ67 (by omega) (by unfold maxLen; omega) rfl ?_
 intro g58 w4 hN58
 replace h:=h.new hN58;replace k:=k.new hN58;replace hbd:=hbd.new hN58;have hge_g58:=New.ge hN58 hm0.size;replace hm0:=hm0.trans (hN58.mod.mono (by simp));replace h17:=h17.new hN58;have hb58:=hN58.blk;clear hN58
 rw [uarr_made] at hb58
 refine L.a rfl rfl<|L.nil<|X.seq<|W.seq<|W.region<|L.a rfl rfl<|L.nil<|X.seq<|W.seq<|W.seq<|W.region ?_
 refine L.m rfl rfl<|L.v (R1.lenU rfl h tyS24) rfl<|L.v (R1.mulI (a:=32) rfl rfl (by omega)) rfl<|L.v ((R1.sub rfl rfl).as (j:=((32 * xs.length:Nat):Int) - 1) (by rw [wrap_i64 (by omega) (by omega)])) rfl<|L.a rfl rfl<|L.nil<|X.seq<|W.block ?_
 have hA0:val xs / 2 ^ (32 * xs.length)=0:=by rw [← pow32]; exact Nat.div_eq_of_lt (val_lt xs hx)
 have hyp:0<val ys:=Nat.pos_of_ne_zero hy
 refine W.loop (ι:=Nat × Value × List Nat) (fun (m,rv,q)=>[(0,va),(1,vb),(13,.slice (some ⟨g58,0,none⟩) xs.length xs.length),(14,rv),(15,.int .i64 ((m:Int) - 1))]) (fun (m,rv,q) w_=>m≤32 * xs.length∧q.length=xs.length∧(∀ x∈q,x<4294967296)∧val q=val xs / 2 ^ m / val ys * 2 ^ m∧U32 (g58 :: M) w_ rv (toL (val xs / 2 ^ m % val ys))∧Blk w_ g58 67 (uarr q)∧U32 (g58 :: M) w_ va xs∧U32 (g58 :: M) w_ vb ys∧Bd (g58 :: M) w_∧Mod [] w w_) (fun (m,rv,q)=>m) (32 * xs.length,.slice none 0 0,List.replicate xs.length 0) ?_ ?_ ?_
 · exact ⟨rfl,rfl,rfl,rfl,rfl,trivial⟩
 ·
  exact ⟨Nat.le_refl _,by simp,rep_lt _,by rw [hA0]; simp [val_replicate],by rw [hA0,Nat.zero_mod,toL_zero]; exact U32.nil,hb58,h,k,hbd,hm0⟩
 rintro ⟨m,rv,q⟩ w5 ⟨hm,hql,hqx,hv,hr,hb58,h,k,hbd,hm0⟩
 refine W.seq<|W.seq<|W.region<|L.m rfl rfl<|L.v (R1.ge rfl rfl) rfl<|L.nil<|X.seq<|W.cond rfl ?_ ?_
 ·
  intro hc64
  try simp only [bq,ne_eq] at hc64
  obtain ⟨i,rfl⟩:∃ i,m=i + 1:=⟨m - 1,by omega⟩
  have hidx:i / 32<xs.length:=by omega
  have hrl:(toL (val xs / 2 ^ (i + 1) % val ys)).length≤ys.length:=Nat.le_trans (toL_len_mono (Nat.le_of_lt (Nat.mod_lt _ hyp))) (toL_length_val ys k.2)
  have hxi:=h.lt hidx
  have hsh:xs[i / 32] / 2 ^ (i % 32)<2 ^ 32:=Nat.lt_of_le_of_lt (Nat.div_le_self _ _) hxi
  have hbit:val xs / 2 ^ i % 2<2:=Nat.mod_lt _ (by decide)
  have hrl2:(toL (2 * (val xs / 2 ^ (i + 1) % val ys) + val xs / 2 ^ i % 2)).length≤ys.length + 1:=by
      refine Nat.le_trans (toL_len_mono (show 2 * (val xs / 2 ^ (i + 1) % val ys) + val xs / 2 ^ i % 2≤val ys + val ys by have:=Nat.mod_lt (val xs / 2 ^ (i + 1)) hyp; omega)) ?_
      exact toL_len_add (toL_length_val ys k.2) (toL_length_val ys k.2)
  have hrl3:(toL (2 * (val xs / 2 ^ (i + 1) % val ys))).length≤ys.length + 1:=Nat.le_trans (toL_len_mono (by omega)) hrl2
  refine W.skip<|X.seq<|W.seq<|W.block<|W.seq<|W.region<|L.m rfl rfl<|L.call rfl (c_r1_Shift1 hr hbd (by omega)) rfl ?_
  rintro v68 w6 ⟨h68,hm6⟩
  replace hb58:=Blk.gr hb58 hm6;replace h:=h.gr hm6;replace k:=k.gr hm6;replace hbd:=hbd.gr hm6;replace hm0:=hm0.trans hm6;replace hr:=hr.gr hm6;clear hm6
  rw [val_toL] at h68
  refine L.a rfl rfl<|L.nil<|X.seq<|W.seq<|W.seq<|W.region<|L.m rfl rfl<|L.m rfl rfl<|L.v ((R1.quo rfl rfl (by decide)).as (j:=((i / 32:Nat):Int)) (quo_m1 (by omega))) rfl<|L.v (R1.atU (j:=(i / 32)) rfl rfl (by assumption) tyS24 rfl (by omega)) rfl<|L.v (R1.ldU rfl h tyP67 hidx rfl) rfl ?_
  refine L.m rfl rfl<|L.v ((R1.rem rfl rfl (by decide)).as (j:=((i % 32:Nat):Int)) (rem_m1)) rfl<|L.v (R1.convIL rfl tyI3 tyI90 (by omega)) rfl<|L.v (R1.shrW rfl rfl (by omega)) rfl<|L.v (R1.andW (b:=1) rfl rfl hsh (by decide)) rfl<|L.v ((R1.eq rfl rfl).asB (c:=decide (val xs / 2 ^ i % 2=1)) (by rw [Nat.and_one_is_mod,bit_val hx hidx]; congr 1; apply propext; omega)) rfl<|L.nil<|X.seq<|W.cut (ι:=Value) (fun r1=>[(0,va),(1,vb),(13,.slice (some ⟨g58,0,none⟩) xs.length xs.length),(14,r1),(15,.int .i64 (((i + 1:Nat):Int) - 1))]) (fun r1 w_=>U32 (g58 :: M) w_ r1 (toL (2 * (val xs / 2 ^ (i + 1) % val ys) + val xs / 2 ^ i % 2))∧Blk w_ g58 67 (uarr q)∧U32 (g58 :: M) w_ va xs∧U32 (g58 :: M) w_ vb ys∧Bd (g58 :: M) w_∧Mod [] w w_) ?_ ?_
  ·
   refine W.cond rfl ?_ ?_
   ·
    intro hc79
    try simp only [bq,ne_eq] at hc79
    refine W.region<|L.m rfl rfl ?_
    have hbdz:=hbd
    refine L.build1 rfl rfl tyS24 tyZ67 rfl ?_
    intro g81 w7 hN81
    replace hb58:=Blk.gr hb58 hN81.mod;replace h:=h.gr hN81.mod;replace k:=k.gr hN81.mod;replace hbd:=hbd.gr hN81.mod;replace hm0:=hm0.trans hN81.mod;replace h68:=h68.gr hN81.mod
    have hone:U32 (g58 :: M) w7 (.slice (some ⟨g81,0,none⟩) 1 1) [1]:=U32.of_blk (xs:=[1]) hN81.blk (hbdz.not (New.ge hN81 (Nat.le_refl _))) (by show (1:Nat)≤maxLen; decide) (by simp)
    clear hN81
    refine L.call rfl (c_r1_Add h68 hone hbd (by omega) (by simp)) rfl ?_
    rintro v82 w8 ⟨h82,hm8⟩
    replace hb58:=Blk.gr hb58 hm8;replace h:=h.gr hm8;replace k:=k.gr hm8;replace hbd:=hbd.gr hm8;replace hm0:=hm0.trans hm8;clear hm8
    rw [val_toL] at h82
    replace h82:U32 _ _ _ (toL (2 * (val xs / 2 ^ (i + 1) % val ys) + 1)):=h82
    refine L.a rfl rfl<|L.nil<|X.join v82 ?_ ?_
    · exact ⟨rfl,rfl,rfl,rfl,rfl,trivial⟩
    exact ⟨by rw [hc79]; exact h82,hb58,h,k,hbd,hm0⟩
   intro hc79
   try simp only [bq,ne_eq] at hc79
   refine W.skip<|X.join v68 ?_ ?_
   · exact ⟨rfl,rfl,rfl,rfl,rfl,trivial⟩
   exact ⟨by rw [show val xs / 2 ^ i % 2=0 by omega,Nat.add_zero]; exact h68,hb58,h,k,hbd,hm0⟩
  rintro r1 wj ⟨hr1,hb58,h,k,hbd,hm0⟩
  refine X.seq<|W.seq<|W.region<|L.m rfl rfl<|L.m rfl rfl<|L.call rfl (c_r1_Cmp hr1 k hbd (by omega) (by omega)) rfl ?_
  rintro _ w9 ⟨rfl,hm9⟩
  replace hb58:=Blk.gr hb58 hm9;replace h:=h.gr hm9;replace k:=k.gr hm9;replace hbd:=hbd.gr hm9;replace hm0:=hm0.trans hm9;replace hr1:=hr1.gr hm9;clear hm9
  refine L.v ((R1.ge rfl rfl).asB (c:=decide (val ys≤2 * (val xs / 2 ^ (i + 1) % val ys) + val xs / 2 ^ i % 2)) (by rw [cmpI_ge0,val_toL])) rfl<|L.nil<|X.seq<|W.cut (ι:=Value × List Nat) (fun (r2,q2)=>[(0,va),(1,vb),(13,.slice (some ⟨g58,0,none⟩) xs.length xs.length),(14,r2),(15,.int .i64 (((i + 1:Nat):Int) - 1))]) (fun (r2,q2) w_=>q2.length=xs.length∧(∀ x∈q2,x<4294967296)∧val q2=val xs / 2 ^ i / val ys * 2 ^ i∧U32 (g58 :: M) w_ r2 (toL (val xs / 2 ^ i % val ys))∧Blk w_ g58 67 (uarr q2)∧U32 (g58 :: M) w_ va xs∧U32 (g58 :: M) w_ vb ys∧Bd (g58 :: M) w_∧Mod [] w w_) ?_ ?_
  ·
   refine W.cond rfl ?_ ?_
   ·
    intro hc86
    try simp only [bq,ne_eq] at hc86
    obtain ⟨hg1,hg2⟩:=bit_ge hyp hc86;obtain ⟨ho1,ho2⟩:=bit_or hqx (show i / 32<q.length by omega) hv;have hqj:=hqx _ (List.getElem_mem (show i / 32<q.length by omega))
    have hp2:2 ^ (i % 32)<4294967296:=pow32_le (Nat.mod_lt _ (by decide))
    have hbs:=bit_set (show i / 32<q.length by omega) hv
    refine W.seq<|W.region<|L.m rfl rfl<|L.m rfl rfl<|L.call rfl (c_r1_Sub hr1 k hbd (by omega) (by omega) (by rw [val_toL]; exact hc86)) rfl ?_
    rintro _ w10 ⟨v90,rfl,h90,hm10⟩
    replace hb58:=Blk.gr hb58 hm10;replace h:=h.gr hm10;replace k:=k.gr hm10;replace hbd:=hbd.gr hm10;replace hm0:=hm0.trans hm10;replace hr1:=hr1.gr hm10;clear hm10
    rw [val_toL] at h90
    refine L.m rfl rfl<|L.v (R1.extract rfl rfl) rfl<|L.v (R1.extract rfl rfl) rfl<|L.a rfl rfl<|L.nil<|X.seq<|W.region<|L.m rfl rfl<|L.m rfl rfl<|L.v ((R1.quo rfl rfl (by decide)).as (j:=((i / 32:Nat):Int)) (quo_m1 (by omega))) rfl<|L.m rfl rfl ?_
    refine L.m rfl rfl<|L.v ((R1.quo rfl rfl (by decide)).as (j:=((i / 32:Nat):Int)) (quo_m1 (by omega))) rfl<|L.v (R1.atO (j:=(i / 32)) rfl rfl tyS24 rfl (by omega)) rfl<|L.v (R1.ldO rfl (by assumption) (by omega) tyP67 rfl) rfl<|L.m rfl rfl<|L.v ((R1.rem rfl rfl (by decide)).as (j:=((i % 32:Nat):Int)) (rem_m1)) rfl<|L.v (R1.convIL rfl tyI3 tyI90 (by omega)) rfl<|L.v ((R1.shlW (a:=1) rfl rfl (by omega)).as (j:=((2 ^ (i % 32):Nat):Int)) (by rw [Nat.one_mul,Nat.mod_eq_of_lt hp2])) rfl<|L.v ((R1.orW rfl rfl (by omega) (by omega)).as (j:=((q[i / 32] + 2 ^ (i % 32):Nat):Int)) (congrArg (fun n:Nat=>(n:Int)) ho1)) rfl<|L.v (R1.atO (j:=(i / 32)) rfl rfl tyS24 rfl (by omega)) rfl<|L.storeU rfl rfl hb58 (by omega) tyP67 ?_
    intro w11 hb58' hm11
    replace h:=h.mod hm11 (by simp);replace k:=k.mod hm11 (by simp);replace hbd:=hbd.gr hm11;replace hm0:=hm0.old1 hm11 hge_g58;replace h90:=h90.mod hm11 (by simp);clear hm11;replace hb58:=hb58'; clear hb58'
    refine L.nil<|X.join (v90,q.set (i / 32) (q[i / 32] + 2 ^ (i % 32))) ?_ ?_
    · exact ⟨rfl,rfl,rfl,rfl,rfl,trivial⟩
    exact ⟨by simpa using hql,set_lt hqx ho2,by rw [hbs,hg2],by rw [hg1]; exact h90,hb58,h,k,hbd,hm0⟩
   intro hc86
   try simp only [bq,ne_eq] at hc86
   obtain ⟨hg1,hg2⟩:=bit_lt hyp (Nat.lt_of_not_le hc86)
   refine W.skip<|X.join (r1,q) ?_ ?_
   · exact ⟨rfl,rfl,rfl,rfl,rfl,trivial⟩
   exact ⟨hql,hqx,by rw [hv,hg2,Nat.pow_succ]; grind,by rw [hg1]; exact hr1,hb58,h,k,hbd,hm0⟩
  rintro ⟨r2,q2⟩ wk ⟨hql2,hqx2,hv2,hr2,hb58,h,k,hbd,hm0⟩
  refine X.blockEnd<|X.seq<|W.region<|L.m rfl rfl<|L.v ((R1.sub rfl rfl).as (j:=((i:Nat):Int) - 1) (by rw [wrap_i64 (by omega) (by omega)]; omega)) rfl<|L.a rfl rfl<|L.nil<|X.next (i,r2,q2) ?_ ?_ ?_
  · exact ⟨rfl,rfl,rfl,rfl,rfl,trivial⟩
  ·
   exact ⟨by omega,hql2,hqx2,hv2,hr2,hb58,h,k,hbd,hm0⟩
  first | omega | (dsimp only; omega)
 intro hc64
 try simp only [bq,ne_eq] at hc64
 obtain rfl:m=0:=by omega
 rw [Nat.pow_zero,Nat.div_one,Nat.mul_one] at hv
 rw [Nat.pow_zero,Nat.div_one] at hr
 refine W.exit<|X.thenExit<|X.nextExit<|X.here<|X.seq<|W.seq ?_
 have hU:U32 M w5 (.slice (some ⟨g58,0,none⟩) xs.length xs.length) q:=by
     have hU:=U32.of_blk (M:=M) hb58 (hbd0.not hge_g58) (by unfold maxLen; omega) hqx
     rw [hql] at hU; exact hU
 have hrl9:(toL (val xs % val ys)).length≤ys.length:=Nat.le_trans (toL_len_mono (Nat.le_of_lt (Nat.mod_lt _ hyp))) (toL_length_val ys k.2)
 refine W.region<|L.m rfl rfl<|L.call rfl (c_r1_Trim hU (hbd0.gr hm0) (by omega)) rfl ?_
 rintro v108 w12 ⟨h108,hm12⟩
 replace hm0:=hm0.trans hm12;replace hr:=hr.gr hm12;clear hm12
 refine L.m rfl rfl<|L.call rfl (c_r1_Trim (M:=M) (N9:=M) (hr.sub (by intro b hb; simp [hb])) (hbd0.gr hm0) (by omega)) rfl ?_
 rintro v110 w13 ⟨h110,hm13⟩
 replace hm0:=hm0.trans hm13;replace h108:=h108.gr hm13;clear hm13
 refine L.a rfl rfl<|L.a rfl rfl<|L.a rfl rfl<|L.nil<|X.seq<|W.ret<|X.result3 rfl (.tmp rfl (.tmp rfl (.tmp rfl .nil))) ?_
 rw [hv] at h108
 rw [val_toL] at h110
 exact ⟨_,_,rfl,h108,h110,hm0⟩
theorem c_r1_DivModD {M : List Nat} {w : World} {va vb : Value} {xs ys : List Nat} (h : U32 M w va xs) (k : U32 M w vb ys) (hbd : Bd M w) (hl1 : xs.length ≤ 1099511627776) (hl2 : ys.length ≤ 1099511627776) (hy : val ys ≠ 0) (hX :  (toL (val xs)).length ≤ 2) (hY : 2 < (toL (val ys)).length) :
    Ret Tryz.prog 62 #[va,vb] w (fun r w'=>∃ v u,r=.tuple #[v,u,.bool true]∧U32 M w' v (toL (val xs / val ys))∧U32 M w' u (toL (val xs % val ys))∧Mod [] w w'):=by
 have hnz:(toL (val ys)).length≠0:=fun h0=>hy (toL_nil.1 (List.eq_nil_of_length_eq_zero h0))
 have hla:=toL_len_40 h.2 hl1;have hlb:=toL_len_40 k.2 hl2;have hbd0:=hbd;have hx:=h.2
 refine Ret.of (vs:=[va,vb]) (n:=111) Tryz.func62 rfl rfl rfl rfl ?_
 have hm0:Mod [] w w:=Mod.refl _ _
 refine W.seq<|W.region<|L.a rfl rfl<|L.a rfl rfl<|L.a rfl rfl<|L.nil<|X.seq<|W.seq<|W.seq<|W.region<|L.m rfl rfl ?_
 refine L.call rfl (c_r1_Trim (by assumption) (by assumption) (by omega)) rfl ?_
 rintro v17 w1 ⟨h17,hm1⟩
 replace h:=h.gr hm1;replace k:=k.gr hm1;replace hbd:=hbd.gr hm1;replace hm0:=hm0.trans hm1;clear hm1
 refine L.v (R1.lenU rfl (by assumption) tyS24) rfl<|L.v ((R1.eq rfl rfl).asB (c:=false) (by rw [decide_eq_false_iff_not]; omega)) rfl<|L.nil<|X.seq<|W.condF rfl<|W.skip<|X.seq<|W.seq<|W.region<|L.m rfl rfl<|L.call rfl (c_r1_To1 h hbd (by omega) hX) rfl ?_
 rintro _ w2 ⟨rfl,hm2⟩
 replace h:=h.gr hm2;replace k:=k.gr hm2;replace hbd:=hbd.gr hm2;replace hm0:=hm0.trans hm2;replace h17:=h17.gr hm2;clear hm2
 refine L.m rfl rfl<|L.v (R1.extract rfl rfl) rfl<|L.v (R1.extract rfl rfl) rfl<|L.a rfl rfl<|L.a rfl rfl<|L.nil<|X.seq<|W.seq<|W.region<|L.m rfl rfl<|L.call rfl (c_r1_To0 k hbd (by omega) hY) rfl ?_
 rintro _ w3 ⟨rfl,hm3⟩
 replace h:=h.gr hm3;replace k:=k.gr hm3;replace hbd:=hbd.gr hm3;replace hm0:=hm0.trans hm3;replace h17:=h17.gr hm3;clear hm3
 refine L.m rfl rfl<|L.v (R1.extract rfl rfl) rfl<|L.v (R1.extract rfl rfl) rfl<|L.a rfl rfl<|L.a rfl rfl<|L.nil<|X.seq<|W.seq<|W.seq<|W.region<|L.m rfl rfl ?_
 refine L.m rfl rfl<|L.on rfl rfl rfl (R1.move rfl) rfl<|L.v (R1.pickT rfl rfl) rfl<|L.nil<|X.seq<|W.condF rfl<|W.skip<|X.seq<|W.seq<|W.seq<|W.region ?_
 refine L.m rfl rfl<|L.m rfl rfl<|L.off rfl rfl rfl rfl rfl<|L.off rfl rfl rfl rfl rfl<|L.v (R1.pickF rfl rfl) rfl<|L.nil<|X.seq<|W.condF rfl<|W.skip<|X.seq<|W.seq ?_
 refine W.region<|L.m rfl rfl<|L.v (R1.lenU rfl h tyS24) rfl<|L.makeSlice (m:=xs.length) rfl rfl rfl rfl tyS24 tyZ67 (by omega) (by unfold maxLen; omega) rfl ?_
 intro g58 w4 hN58
 replace h:=h.new hN58;replace k:=k.new hN58;replace hbd:=hbd.new hN58;have hge_g58:=New.ge hN58 hm0.size;replace hm0:=hm0.trans (hN58.mod.mono (by simp));replace h17:=h17.new hN58;have hb58:=hN58.blk;clear hN58
 rw [uarr_made] at hb58
 refine L.a rfl rfl<|L.nil<|X.seq<|W.seq<|W.region<|L.a rfl rfl<|L.nil<|X.seq<|W.seq<|W.seq<|W.region ?_
 refine L.m rfl rfl<|L.v (R1.lenU rfl h tyS24) rfl<|L.v (R1.mulI (a:=32) rfl rfl (by omega)) rfl<|L.v ((R1.sub rfl rfl).as (j:=((32 * xs.length:Nat):Int) - 1) (by rw [wrap_i64 (by omega) (by omega)])) rfl<|L.a rfl rfl<|L.nil<|X.seq<|W.block ?_
 have hA0:val xs / 2 ^ (32 * xs.length)=0:=by rw [← pow32]; exact Nat.div_eq_of_lt (val_lt xs hx)
 have hyp:0<val ys:=Nat.pos_of_ne_zero hy
 refine W.loop (ι:=Nat × Value × List Nat) (fun (m,rv,q)=>[(0,va),(1,vb),(13,.slice (some ⟨g58,0,none⟩) xs.length xs.length),(14,rv),(15,.int .i64 ((m:Int) - 1))]) (fun (m,rv,q) w_=>m≤32 * xs.length∧q.length=xs.length∧(∀ x∈q,x<4294967296)∧val q=val xs / 2 ^ m / val ys * 2 ^ m∧U32 (g58 :: M) w_ rv (toL (val xs / 2 ^ m % val ys))∧Blk w_ g58 67 (uarr q)∧U32 (g58 :: M) w_ va xs∧U32 (g58 :: M) w_ vb ys∧Bd (g58 :: M) w_∧Mod [] w w_) (fun (m,rv,q)=>m) (32 * xs.length,.slice none 0 0,List.replicate xs.length 0) ?_ ?_ ?_
 · exact ⟨rfl,rfl,rfl,rfl,rfl,trivial⟩
 ·
  exact ⟨Nat.le_refl _,by simp,rep_lt _,by rw [hA0]; simp [val_replicate],by rw [hA0,Nat.zero_mod,toL_zero]; exact U32.nil,hb58,h,k,hbd,hm0⟩
 rintro ⟨m,rv,q⟩ w5 ⟨hm,hql,hqx,hv,hr,hb58,h,k,hbd,hm0⟩
 refine W.seq<|W.seq<|W.region<|L.m rfl rfl<|L.v (R1.ge rfl rfl) rfl<|L.nil<|X.seq<|W.cond rfl ?_ ?_
 ·
  intro hc64
  try simp only [bq,ne_eq] at hc64
  obtain ⟨i,rfl⟩:∃ i,m=i + 1:=⟨m - 1,by omega⟩
  have hidx:i / 32<xs.length:=by omega
  have hrl:(toL (val xs / 2 ^ (i + 1) % val ys)).length≤ys.length:=Nat.le_trans (toL_len_mono (Nat.le_of_lt (Nat.mod_lt _ hyp))) (toL_length_val ys k.2)
  have hxi:=h.lt hidx
  have hsh:xs[i / 32] / 2 ^ (i % 32)<2 ^ 32:=Nat.lt_of_le_of_lt (Nat.div_le_self _ _) hxi
  have hbit:val xs / 2 ^ i % 2<2:=Nat.mod_lt _ (by decide)
  have hrl2:(toL (2 * (val xs / 2 ^ (i + 1) % val ys) + val xs / 2 ^ i % 2)).length≤ys.length + 1:=by
      refine Nat.le_trans (toL_len_mono (show 2 * (val xs / 2 ^ (i + 1) % val ys) + val xs / 2 ^ i % 2≤val ys + val ys by have:=Nat.mod_lt (val xs / 2 ^ (i + 1)) hyp; omega)) ?_
      exact toL_len_add (toL_length_val ys k.2) (toL_length_val ys k.2)
  have hrl3:(toL (2 * (val xs / 2 ^ (i + 1) % val ys))).length≤ys.length + 1:=Nat.le_trans (toL_len_mono (by omega)) hrl2
  refine W.skip<|X.seq<|W.seq<|W.block<|W.seq<|W.region<|L.m rfl rfl<|L.call rfl (c_r1_Shift1 hr hbd (by omega)) rfl ?_
  rintro v68 w6 ⟨h68,hm6⟩
  replace hb58:=Blk.gr hb58 hm6;replace h:=h.gr hm6;replace k:=k.gr hm6;replace hbd:=hbd.gr hm6;replace hm0:=hm0.trans hm6;replace hr:=hr.gr hm6;clear hm6
  rw [val_toL] at h68
  refine L.a rfl rfl<|L.nil<|X.seq<|W.seq<|W.seq<|W.region<|L.m rfl rfl<|L.m rfl rfl<|L.v ((R1.quo rfl rfl (by decide)).as (j:=((i / 32:Nat):Int)) (quo_m1 (by omega))) rfl<|L.v (R1.atU (j:=(i / 32)) rfl rfl (by assumption) tyS24 rfl (by omega)) rfl<|L.v (R1.ldU rfl h tyP67 hidx rfl) rfl ?_
  refine L.m rfl rfl<|L.v ((R1.rem rfl rfl (by decide)).as (j:=((i % 32:Nat):Int)) (rem_m1)) rfl<|L.v (R1.convIL rfl tyI3 tyI90 (by omega)) rfl<|L.v (R1.shrW rfl rfl (by omega)) rfl<|L.v (R1.andW (b:=1) rfl rfl hsh (by decide)) rfl<|L.v ((R1.eq rfl rfl).asB (c:=decide (val xs / 2 ^ i % 2=1)) (by rw [Nat.and_one_is_mod,bit_val hx hidx]; congr 1; apply propext; omega)) rfl<|L.nil<|X.seq<|W.cut (ι:=Value) (fun r1=>[(0,va),(1,vb),(13,.slice (some ⟨g58,0,none⟩) xs.length xs.length),(14,r1),(15,.int .i64 (((i + 1:Nat):Int) - 1))]) (fun r1 w_=>U32 (g58 :: M) w_ r1 (toL (2 * (val xs / 2 ^ (i + 1) % val ys) + val xs / 2 ^ i % 2))∧Blk w_ g58 67 (uarr q)∧U32 (g58 :: M) w_ va xs∧U32 (g58 :: M) w_ vb ys∧Bd (g58 :: M) w_∧Mod [] w w_) ?_ ?_
  ·
   refine W.cond rfl ?_ ?_
   ·
    intro hc79
    try simp only [bq,ne_eq] at hc79
    refine W.region<|L.m rfl rfl ?_
    have hbdz:=hbd
    refine L.build1 rfl rfl tyS24 tyZ67 rfl ?_
    intro g81 w7 hN81
    replace hb58:=Blk.gr hb58 hN81.mod;replace h:=h.gr hN81.mod;replace k:=k.gr hN81.mod;replace hbd:=hbd.gr hN81.mod;replace hm0:=hm0.trans hN81.mod;replace h68:=h68.gr hN81.mod
    have hone:U32 (g58 :: M) w7 (.slice (some ⟨g81,0,none⟩) 1 1) [1]:=U32.of_blk (xs:=[1]) hN81.blk (hbdz.not (New.ge hN81 (Nat.le_refl _))) (by show (1:Nat)≤maxLen; decide) (by simp)
    clear hN81
    refine L.call rfl (c_r1_Add h68 hone hbd (by omega) (by simp)) rfl ?_
    rintro v82 w8 ⟨h82,hm8⟩
    replace hb58:=Blk.gr hb58 hm8;replace h:=h.gr hm8;replace k:=k.gr hm8;replace hbd:=hbd.gr hm8;replace hm0:=hm0.trans hm8;clear hm8
    rw [val_toL] at h82
    replace h82:U32 _ _ _ (toL (2 * (val xs / 2 ^ (i + 1) % val ys) + 1)):=h82
    refine L.a rfl rfl<|L.nil<|X.join v82 ?_ ?_
    · exact ⟨rfl,rfl,rfl,rfl,rfl,trivial⟩
    exact ⟨by rw [hc79]; exact h82,hb58,h,k,hbd,hm0⟩
   intro hc79
   try simp only [bq,ne_eq] at hc79
   refine W.skip<|X.join v68 ?_ ?_
   · exact ⟨rfl,rfl,rfl,rfl,rfl,trivial⟩
   exact ⟨by rw [show val xs / 2 ^ i % 2=0 by omega,Nat.add_zero]; exact h68,hb58,h,k,hbd,hm0⟩
  rintro r1 wj ⟨hr1,hb58,h,k,hbd,hm0⟩
  refine X.seq<|W.seq<|W.region<|L.m rfl rfl<|L.m rfl rfl<|L.call rfl (c_r1_Cmp hr1 k hbd (by omega) (by omega)) rfl ?_
  rintro _ w9 ⟨rfl,hm9⟩
  replace hb58:=Blk.gr hb58 hm9;replace h:=h.gr hm9;replace k:=k.gr hm9;replace hbd:=hbd.gr hm9;replace hm0:=hm0.trans hm9;replace hr1:=hr1.gr hm9;clear hm9
  refine L.v ((R1.ge rfl rfl).asB (c:=decide (val ys≤2 * (val xs / 2 ^ (i + 1) % val ys) + val xs / 2 ^ i % 2)) (by rw [cmpI_ge0,val_toL])) rfl<|L.nil<|X.seq<|W.cut (ι:=Value × List Nat) (fun (r2,q2)=>[(0,va),(1,vb),(13,.slice (some ⟨g58,0,none⟩) xs.length xs.length),(14,r2),(15,.int .i64 (((i + 1:Nat):Int) - 1))]) (fun (r2,q2) w_=>q2.length=xs.length∧(∀ x∈q2,x<4294967296)∧val q2=val xs / 2 ^ i / val ys * 2 ^ i∧U32 (g58 :: M) w_ r2 (toL (val xs / 2 ^ i % val ys))∧Blk w_ g58 67 (uarr q2)∧U32 (g58 :: M) w_ va xs∧U32 (g58 :: M) w_ vb ys∧Bd (g58 :: M) w_∧Mod [] w w_) ?_ ?_
  ·
   refine W.cond rfl ?_ ?_
   ·
    intro hc86
    try simp only [bq,ne_eq] at hc86
    obtain ⟨hg1,hg2⟩:=bit_ge hyp hc86;obtain ⟨ho1,ho2⟩:=bit_or hqx (show i / 32<q.length by omega) hv;have hqj:=hqx _ (List.getElem_mem (show i / 32<q.length by omega))
    have hp2:2 ^ (i % 32)<4294967296:=pow32_le (Nat.mod_lt _ (by decide))
    have hbs:=bit_set (show i / 32<q.length by omega) hv
    refine W.seq<|W.region<|L.m rfl rfl<|L.m rfl rfl<|L.call rfl (c_r1_Sub hr1 k hbd (by omega) (by omega) (by rw [val_toL]; exact hc86)) rfl ?_
    rintro _ w10 ⟨v90,rfl,h90,hm10⟩
    replace hb58:=Blk.gr hb58 hm10;replace h:=h.gr hm10;replace k:=k.gr hm10;replace hbd:=hbd.gr hm10;replace hm0:=hm0.trans hm10;replace hr1:=hr1.gr hm10;clear hm10
    rw [val_toL] at h90
    refine L.m rfl rfl<|L.v (R1.extract rfl rfl) rfl<|L.v (R1.extract rfl rfl) rfl<|L.a rfl rfl<|L.nil<|X.seq<|W.region<|L.m rfl rfl<|L.m rfl rfl<|L.v ((R1.quo rfl rfl (by decide)).as (j:=((i / 32:Nat):Int)) (quo_m1 (by omega))) rfl<|L.m rfl rfl ?_
    refine L.m rfl rfl<|L.v ((R1.quo rfl rfl (by decide)).as (j:=((i / 32:Nat):Int)) (quo_m1 (by omega))) rfl<|L.v (R1.atO (j:=(i / 32)) rfl rfl tyS24 rfl (by omega)) rfl<|L.v (R1.ldO rfl (by assumption) (by omega) tyP67 rfl) rfl<|L.m rfl rfl<|L.v ((R1.rem rfl rfl (by decide)).as (j:=((i % 32:Nat):Int)) (rem_m1)) rfl<|L.v (R1.convIL rfl tyI3 tyI90 (by omega)) rfl<|L.v ((R1.shlW (a:=1) rfl rfl (by omega)).as (j:=((2 ^ (i % 32):Nat):Int)) (by rw [Nat.one_mul,Nat.mod_eq_of_lt hp2])) rfl<|L.v ((R1.orW rfl rfl (by omega) (by omega)).as (j:=((q[i / 32] + 2 ^ (i % 32):Nat):Int)) (congrArg (fun n:Nat=>(n:Int)) ho1)) rfl<|L.v (R1.atO (j:=(i / 32)) rfl rfl tyS24 rfl (by omega)) rfl<|L.storeU rfl rfl hb58 (by omega) tyP67 ?_
    intro w11 hb58' hm11
    replace h:=h.mod hm11 (by simp);replace k:=k.mod hm11 (by simp);replace hbd:=hbd.gr hm11;replace hm0:=hm0.old1 hm11 hge_g58;replace h90:=h90.mod hm11 (by simp);clear hm11;replace hb58:=hb58'; clear hb58'
    refine L.nil<|X.join (v90,q.set (i / 32) (q[i / 32] + 2 ^ (i % 32))) ?_ ?_
    · exact ⟨rfl,rfl,rfl,rfl,rfl,trivial⟩
    exact ⟨by simpa using hql,set_lt hqx ho2,by rw [hbs,hg2],by rw [hg1]; exact h90,hb58,h,k,hbd,hm0⟩
   intro hc86
   try simp only [bq,ne_eq] at hc86
   obtain ⟨hg1,hg2⟩:=bit_lt hyp (Nat.lt_of_not_le hc86)
   refine W.skip<|X.join (r1,q) ?_ ?_
   · exact ⟨rfl,rfl,rfl,rfl,rfl,trivial⟩
   exact ⟨hql,hqx,by rw [hv,hg2,Nat.pow_succ]; grind,by rw [hg1]; exact hr1,hb58,h,k,hbd,hm0⟩
  rintro ⟨r2,q2⟩ wk ⟨hql2,hqx2,hv2,hr2,hb58,h,k,hbd,hm0⟩
  refine X.blockEnd<|X.seq<|W.region<|L.m rfl rfl<|L.v ((R1.sub rfl rfl).as (j:=((i:Nat):Int) - 1) (by rw [wrap_i64 (by omega) (by omega)]; omega)) rfl<|L.a rfl rfl<|L.nil<|X.next (i,r2,q2) ?_ ?_ ?_
  · exact ⟨rfl,rfl,rfl,rfl,rfl,trivial⟩
  ·
   exact ⟨by omega,hql2,hqx2,hv2,hr2,hb58,h,k,hbd,hm0⟩
  first | omega | (dsimp only; omega)
 intro hc64
 try simp only [bq,ne_eq] at hc64
 obtain rfl:m=0:=by omega
 rw [Nat.pow_zero,Nat.div_one,Nat.mul_one] at hv
 rw [Nat.pow_zero,Nat.div_one] at hr
 refine W.exit<|X.thenExit<|X.nextExit<|X.here<|X.seq<|W.seq ?_
 have hU:U32 M w5 (.slice (some ⟨g58,0,none⟩) xs.length xs.length) q:=by
     have hU:=U32.of_blk (M:=M) hb58 (hbd0.not hge_g58) (by unfold maxLen; omega) hqx
     rw [hql] at hU; exact hU
 have hrl9:(toL (val xs % val ys)).length≤ys.length:=Nat.le_trans (toL_len_mono (Nat.le_of_lt (Nat.mod_lt _ hyp))) (toL_length_val ys k.2)
 refine W.region<|L.m rfl rfl<|L.call rfl (c_r1_Trim hU (hbd0.gr hm0) (by omega)) rfl ?_
 rintro v108 w12 ⟨h108,hm12⟩
 replace hm0:=hm0.trans hm12;replace hr:=hr.gr hm12;clear hm12
 refine L.m rfl rfl<|L.call rfl (c_r1_Trim (M:=M) (N9:=M) (hr.sub (by intro b hb; simp [hb])) (hbd0.gr hm0) (by omega)) rfl ?_
 rintro v110 w13 ⟨h110,hm13⟩
 replace hm0:=hm0.trans hm13;replace h108:=h108.gr hm13;clear hm13
 refine L.a rfl rfl<|L.a rfl rfl<|L.a rfl rfl<|L.nil<|X.seq<|W.ret<|X.result3 rfl (.tmp rfl (.tmp rfl (.tmp rfl .nil))) ?_
 rw [hv] at h108
 rw [val_toL] at h110
 exact ⟨_,_,rfl,h108,h110,hm0⟩
theorem c_r1_DivModE {M : List Nat} {w : World} {va vb : Value} {xs ys : List Nat} (h : U32 M w va xs) (k : U32 M w vb ys) (hbd : Bd M w) (hl1 : xs.length ≤ 1099511627776) (hl2 : ys.length ≤ 1099511627776) (hy : val ys ≠ 0) (hX : 2 < (toL (val xs)).length) (hY : 2 < (toL (val ys)).length) :
    Ret Tryz.prog 62 #[va,vb] w (fun r w'=>∃ v u,r=.tuple #[v,u,.bool true]∧U32 M w' v (toL (val xs / val ys))∧U32 M w' u (toL (val xs % val ys))∧Mod [] w w'):=by
 have hnz:(toL (val ys)).length≠0:=fun h0=>hy (toL_nil.1 (List.eq_nil_of_length_eq_zero h0))
 have hla:=toL_len_40 h.2 hl1;have hlb:=toL_len_40 k.2 hl2;have hbd0:=hbd;have hx:=h.2
 refine Ret.of (vs:=[va,vb]) (n:=111) Tryz.func62 rfl rfl rfl rfl ?_
 have hm0:Mod [] w w:=Mod.refl _ _
 refine W.seq<|W.region<|L.a rfl rfl<|L.a rfl rfl<|L.a rfl rfl<|L.nil<|X.seq<|W.seq<|W.seq<|W.region<|L.m rfl rfl ?_
 refine L.call rfl (c_r1_Trim (by assumption) (by assumption) (by omega)) rfl ?_
 rintro v17 w1 ⟨h17,hm1⟩
 replace h:=h.gr hm1;replace k:=k.gr hm1;replace hbd:=hbd.gr hm1;replace hm0:=hm0.trans hm1;clear hm1
 refine L.v (R1.lenU rfl (by assumption) tyS24) rfl<|L.v ((R1.eq rfl rfl).asB (c:=false) (by rw [decide_eq_false_iff_not]; omega)) rfl<|L.nil<|X.seq<|W.condF rfl<|W.skip<|X.seq<|W.seq<|W.region<|L.m rfl rfl<|L.call rfl (c_r1_To0 h hbd (by omega) hX) rfl ?_
 rintro _ w2 ⟨rfl,hm2⟩
 replace h:=h.gr hm2;replace k:=k.gr hm2;replace hbd:=hbd.gr hm2;replace hm0:=hm0.trans hm2;replace h17:=h17.gr hm2;clear hm2
 refine L.m rfl rfl<|L.v (R1.extract rfl rfl) rfl<|L.v (R1.extract rfl rfl) rfl<|L.a rfl rfl<|L.a rfl rfl<|L.nil<|X.seq<|W.seq<|W.region<|L.m rfl rfl<|L.call rfl (c_r1_To0 k hbd (by omega) hY) rfl ?_
 rintro _ w3 ⟨rfl,hm3⟩
 replace h:=h.gr hm3;replace k:=k.gr hm3;replace hbd:=hbd.gr hm3;replace hm0:=hm0.trans hm3;replace h17:=h17.gr hm3;clear hm3
 refine L.m rfl rfl<|L.v (R1.extract rfl rfl) rfl<|L.v (R1.extract rfl rfl) rfl<|L.a rfl rfl<|L.a rfl rfl<|L.nil<|X.seq<|W.seq<|W.seq<|W.region<|L.m rfl rfl ?_
 refine L.m rfl rfl<|L.off rfl rfl rfl rfl rfl<|L.v (R1.pickF rfl rfl) rfl<|L.nil<|X.seq<|W.condF rfl<|W.skip<|X.seq<|W.seq<|W.seq<|W.region ?_
 refine L.m rfl rfl<|L.m rfl rfl<|L.off rfl rfl rfl rfl rfl<|L.off rfl rfl rfl rfl rfl<|L.v (R1.pickF rfl rfl) rfl<|L.nil<|X.seq<|W.condF rfl<|W.skip<|X.seq<|W.seq ?_
 refine W.region<|L.m rfl rfl<|L.v (R1.lenU rfl h tyS24) rfl<|L.makeSlice (m:=xs.length) rfl rfl rfl rfl tyS24 tyZ67 (by omega) (by unfold maxLen; omega) rfl ?_
 intro g58 w4 hN58
 replace h:=h.new hN58;replace k:=k.new hN58;replace hbd:=hbd.new hN58;have hge_g58:=New.ge hN58 hm0.size;replace hm0:=hm0.trans (hN58.mod.mono (by simp));replace h17:=h17.new hN58;have hb58:=hN58.blk;clear hN58
 rw [uarr_made] at hb58
 refine L.a rfl rfl<|L.nil<|X.seq<|W.seq<|W.region<|L.a rfl rfl<|L.nil<|X.seq<|W.seq<|W.seq<|W.region ?_
 refine L.m rfl rfl<|L.v (R1.lenU rfl h tyS24) rfl<|L.v (R1.mulI (a:=32) rfl rfl (by omega)) rfl<|L.v ((R1.sub rfl rfl).as (j:=((32 * xs.length:Nat):Int) - 1) (by rw [wrap_i64 (by omega) (by omega)])) rfl<|L.a rfl rfl<|L.nil<|X.seq<|W.block ?_
 have hA0:val xs / 2 ^ (32 * xs.length)=0:=by rw [← pow32]; exact Nat.div_eq_of_lt (val_lt xs hx)
 have hyp:0<val ys:=Nat.pos_of_ne_zero hy
 refine W.loop (ι:=Nat × Value × List Nat) (fun (m,rv,q)=>[(0,va),(1,vb),(13,.slice (some ⟨g58,0,none⟩) xs.length xs.length),(14,rv),(15,.int .i64 ((m:Int) - 1))]) (fun (m,rv,q) w_=>m≤32 * xs.length∧q.length=xs.length∧(∀ x∈q,x<4294967296)∧val q=val xs / 2 ^ m / val ys * 2 ^ m∧U32 (g58 :: M) w_ rv (toL (val xs / 2 ^ m % val ys))∧Blk w_ g58 67 (uarr q)∧U32 (g58 :: M) w_ va xs∧U32 (g58 :: M) w_ vb ys∧Bd (g58 :: M) w_∧Mod [] w w_) (fun (m,rv,q)=>m) (32 * xs.length,.slice none 0 0,List.replicate xs.length 0) ?_ ?_ ?_
 · exact ⟨rfl,rfl,rfl,rfl,rfl,trivial⟩
 ·
  exact ⟨Nat.le_refl _,by simp,rep_lt _,by rw [hA0]; simp [val_replicate],by rw [hA0,Nat.zero_mod,toL_zero]; exact U32.nil,hb58,h,k,hbd,hm0⟩
 rintro ⟨m,rv,q⟩ w5 ⟨hm,hql,hqx,hv,hr,hb58,h,k,hbd,hm0⟩
 refine W.seq<|W.seq<|W.region<|L.m rfl rfl<|L.v (R1.ge rfl rfl) rfl<|L.nil<|X.seq<|W.cond rfl ?_ ?_
 ·
  intro hc64
  try simp only [bq,ne_eq] at hc64
  obtain ⟨i,rfl⟩:∃ i,m=i + 1:=⟨m - 1,by omega⟩
  have hidx:i / 32<xs.length:=by omega
  have hrl:(toL (val xs / 2 ^ (i + 1) % val ys)).length≤ys.length:=Nat.le_trans (toL_len_mono (Nat.le_of_lt (Nat.mod_lt _ hyp))) (toL_length_val ys k.2)
  have hxi:=h.lt hidx
  have hsh:xs[i / 32] / 2 ^ (i % 32)<2 ^ 32:=Nat.lt_of_le_of_lt (Nat.div_le_self _ _) hxi
  have hbit:val xs / 2 ^ i % 2<2:=Nat.mod_lt _ (by decide)
  have hrl2:(toL (2 * (val xs / 2 ^ (i + 1) % val ys) + val xs / 2 ^ i % 2)).length≤ys.length + 1:=by
      refine Nat.le_trans (toL_len_mono (show 2 * (val xs / 2 ^ (i + 1) % val ys) + val xs / 2 ^ i % 2≤val ys + val ys by have:=Nat.mod_lt (val xs / 2 ^ (i + 1)) hyp; omega)) ?_
      exact toL_len_add (toL_length_val ys k.2) (toL_length_val ys k.2)
  have hrl3:(toL (2 * (val xs / 2 ^ (i + 1) % val ys))).length≤ys.length + 1:=Nat.le_trans (toL_len_mono (by omega)) hrl2
  refine W.skip<|X.seq<|W.seq<|W.block<|W.seq<|W.region<|L.m rfl rfl<|L.call rfl (c_r1_Shift1 hr hbd (by omega)) rfl ?_
  rintro v68 w6 ⟨h68,hm6⟩
  replace hb58:=Blk.gr hb58 hm6;replace h:=h.gr hm6;replace k:=k.gr hm6;replace hbd:=hbd.gr hm6;replace hm0:=hm0.trans hm6;replace hr:=hr.gr hm6;clear hm6
  rw [val_toL] at h68
  refine L.a rfl rfl<|L.nil<|X.seq<|W.seq<|W.seq<|W.region<|L.m rfl rfl<|L.m rfl rfl<|L.v ((R1.quo rfl rfl (by decide)).as (j:=((i / 32:Nat):Int)) (quo_m1 (by omega))) rfl<|L.v (R1.atU (j:=(i / 32)) rfl rfl (by assumption) tyS24 rfl (by omega)) rfl<|L.v (R1.ldU rfl h tyP67 hidx rfl) rfl ?_
  refine L.m rfl rfl<|L.v ((R1.rem rfl rfl (by decide)).as (j:=((i % 32:Nat):Int)) (rem_m1)) rfl<|L.v (R1.convIL rfl tyI3 tyI90 (by omega)) rfl<|L.v (R1.shrW rfl rfl (by omega)) rfl<|L.v (R1.andW (b:=1) rfl rfl hsh (by decide)) rfl<|L.v ((R1.eq rfl rfl).asB (c:=decide (val xs / 2 ^ i % 2=1)) (by rw [Nat.and_one_is_mod,bit_val hx hidx]; congr 1; apply propext; omega)) rfl<|L.nil<|X.seq<|W.cut (ι:=Value) (fun r1=>[(0,va),(1,vb),(13,.slice (some ⟨g58,0,none⟩) xs.length xs.length),(14,r1),(15,.int .i64 (((i + 1:Nat):Int) - 1))]) (fun r1 w_=>U32 (g58 :: M) w_ r1 (toL (2 * (val xs / 2 ^ (i + 1) % val ys) + val xs / 2 ^ i % 2))∧Blk w_ g58 67 (uarr q)∧U32 (g58 :: M) w_ va xs∧U32 (g58 :: M) w_ vb ys∧Bd (g58 :: M) w_∧Mod [] w w_) ?_ ?_
  ·
   refine W.cond rfl ?_ ?_
   ·
    intro hc79
    try simp only [bq,ne_eq] at hc79
    refine W.region<|L.m rfl rfl ?_
    have hbdz:=hbd
    refine L.build1 rfl rfl tyS24 tyZ67 rfl ?_
    intro g81 w7 hN81
    replace hb58:=Blk.gr hb58 hN81.mod;replace h:=h.gr hN81.mod;replace k:=k.gr hN81.mod;replace hbd:=hbd.gr hN81.mod;replace hm0:=hm0.trans hN81.mod;replace h68:=h68.gr hN81.mod
    have hone:U32 (g58 :: M) w7 (.slice (some ⟨g81,0,none⟩) 1 1) [1]:=U32.of_blk (xs:=[1]) hN81.blk (hbdz.not (New.ge hN81 (Nat.le_refl _))) (by show (1:Nat)≤maxLen; decide) (by simp)
    clear hN81
    refine L.call rfl (c_r1_Add h68 hone hbd (by omega) (by simp)) rfl ?_
    rintro v82 w8 ⟨h82,hm8⟩
    replace hb58:=Blk.gr hb58 hm8;replace h:=h.gr hm8;replace k:=k.gr hm8;replace hbd:=hbd.gr hm8;replace hm0:=hm0.trans hm8;clear hm8
    rw [val_toL] at h82
    replace h82:U32 _ _ _ (toL (2 * (val xs / 2 ^ (i + 1) % val ys) + 1)):=h82
    refine L.a rfl rfl<|L.nil<|X.join v82 ?_ ?_
    · exact ⟨rfl,rfl,rfl,rfl,rfl,trivial⟩
    exact ⟨by rw [hc79]; exact h82,hb58,h,k,hbd,hm0⟩
   intro hc79
   try simp only [bq,ne_eq] at hc79
   refine W.skip<|X.join v68 ?_ ?_
   · exact ⟨rfl,rfl,rfl,rfl,rfl,trivial⟩
   exact ⟨by rw [show val xs / 2 ^ i % 2=0 by omega,Nat.add_zero]; exact h68,hb58,h,k,hbd,hm0⟩
  rintro r1 wj ⟨hr1,hb58,h,k,hbd,hm0⟩
  refine X.seq<|W.seq<|W.region<|L.m rfl rfl<|L.m rfl rfl<|L.call rfl (c_r1_Cmp hr1 k hbd (by omega) (by omega)) rfl ?_
  rintro _ w9 ⟨rfl,hm9⟩
  replace hb58:=Blk.gr hb58 hm9;replace h:=h.gr hm9;replace k:=k.gr hm9;replace hbd:=hbd.gr hm9;replace hm0:=hm0.trans hm9;replace hr1:=hr1.gr hm9;clear hm9
  refine L.v ((R1.ge rfl rfl).asB (c:=decide (val ys≤2 * (val xs / 2 ^ (i + 1) % val ys) + val xs / 2 ^ i % 2)) (by rw [cmpI_ge0,val_toL])) rfl<|L.nil<|X.seq<|W.cut (ι:=Value × List Nat) (fun (r2,q2)=>[(0,va),(1,vb),(13,.slice (some ⟨g58,0,none⟩) xs.length xs.length),(14,r2),(15,.int .i64 (((i + 1:Nat):Int) - 1))]) (fun (r2,q2) w_=>q2.length=xs.length∧(∀ x∈q2,x<4294967296)∧val q2=val xs / 2 ^ i / val ys * 2 ^ i∧U32 (g58 :: M) w_ r2 (toL (val xs / 2 ^ i % val ys))∧Blk w_ g58 67 (uarr q2)∧U32 (g58 :: M) w_ va xs∧U32 (g58 :: M) w_ vb ys∧Bd (g58 :: M) w_∧Mod [] w w_) ?_ ?_
  ·
   refine W.cond rfl ?_ ?_
   ·
    intro hc86
    try simp only [bq,ne_eq] at hc86
    obtain ⟨hg1,hg2⟩:=bit_ge hyp hc86;obtain ⟨ho1,ho2⟩:=bit_or hqx (show i / 32<q.length by omega) hv;have hqj:=hqx _ (List.getElem_mem (show i / 32<q.length by omega))
    have hp2:2 ^ (i % 32)<4294967296:=pow32_le (Nat.mod_lt _ (by decide))
    have hbs:=bit_set (show i / 32<q.length by omega) hv
    refine W.seq<|W.region<|L.m rfl rfl<|L.m rfl rfl<|L.call rfl (c_r1_Sub hr1 k hbd (by omega) (by omega) (by rw [val_toL]; exact hc86)) rfl ?_
    rintro _ w10 ⟨v90,rfl,h90,hm10⟩
    replace hb58:=Blk.gr hb58 hm10;replace h:=h.gr hm10;replace k:=k.gr hm10;replace hbd:=hbd.gr hm10;replace hm0:=hm0.trans hm10;replace hr1:=hr1.gr hm10;clear hm10
    rw [val_toL] at h90
    refine L.m rfl rfl<|L.v (R1.extract rfl rfl) rfl<|L.v (R1.extract rfl rfl) rfl<|L.a rfl rfl<|L.nil<|X.seq<|W.region<|L.m rfl rfl<|L.m rfl rfl<|L.v ((R1.quo rfl rfl (by decide)).as (j:=((i / 32:Nat):Int)) (quo_m1 (by omega))) rfl<|L.m rfl rfl ?_
    refine L.m rfl rfl<|L.v ((R1.quo rfl rfl (by decide)).as (j:=((i / 32:Nat):Int)) (quo_m1 (by omega))) rfl<|L.v (R1.atO (j:=(i / 32)) rfl rfl tyS24 rfl (by omega)) rfl<|L.v (R1.ldO rfl (by assumption) (by omega) tyP67 rfl) rfl<|L.m rfl rfl<|L.v ((R1.rem rfl rfl (by decide)).as (j:=((i % 32:Nat):Int)) (rem_m1)) rfl<|L.v (R1.convIL rfl tyI3 tyI90 (by omega)) rfl<|L.v ((R1.shlW (a:=1) rfl rfl (by omega)).as (j:=((2 ^ (i % 32):Nat):Int)) (by rw [Nat.one_mul,Nat.mod_eq_of_lt hp2])) rfl<|L.v ((R1.orW rfl rfl (by omega) (by omega)).as (j:=((q[i / 32] + 2 ^ (i % 32):Nat):Int)) (congrArg (fun n:Nat=>(n:Int)) ho1)) rfl<|L.v (R1.atO (j:=(i / 32)) rfl rfl tyS24 rfl (by omega)) rfl<|L.storeU rfl rfl hb58 (by omega) tyP67 ?_
    intro w11 hb58' hm11
    replace h:=h.mod hm11 (by simp);replace k:=k.mod hm11 (by simp);replace hbd:=hbd.gr hm11;replace hm0:=hm0.old1 hm11 hge_g58;replace h90:=h90.mod hm11 (by simp);clear hm11;replace hb58:=hb58'; clear hb58'
    refine L.nil<|X.join (v90,q.set (i / 32) (q[i / 32] + 2 ^ (i % 32))) ?_ ?_
    · exact ⟨rfl,rfl,rfl,rfl,rfl,trivial⟩
    exact ⟨by simpa using hql,set_lt hqx ho2,by rw [hbs,hg2],by rw [hg1]; exact h90,hb58,h,k,hbd,hm0⟩
   intro hc86
   try simp only [bq,ne_eq] at hc86
   obtain ⟨hg1,hg2⟩:=bit_lt hyp (Nat.lt_of_not_le hc86)
   refine W.skip<|X.join (r1,q) ?_ ?_
   · exact ⟨rfl,rfl,rfl,rfl,rfl,trivial⟩
   exact ⟨hql,hqx,by rw [hv,hg2,Nat.pow_succ]; grind,by rw [hg1]; exact hr1,hb58,h,k,hbd,hm0⟩
  rintro ⟨r2,q2⟩ wk ⟨hql2,hqx2,hv2,hr2,hb58,h,k,hbd,hm0⟩
  refine X.blockEnd<|X.seq<|W.region<|L.m rfl rfl<|L.v ((R1.sub rfl rfl).as (j:=((i:Nat):Int) - 1) (by rw [wrap_i64 (by omega) (by omega)]; omega)) rfl<|L.a rfl rfl<|L.nil<|X.next (i,r2,q2) ?_ ?_ ?_
  · exact ⟨rfl,rfl,rfl,rfl,rfl,trivial⟩
  ·
   exact ⟨by omega,hql2,hqx2,hv2,hr2,hb58,h,k,hbd,hm0⟩
  first | omega | (dsimp only; omega)
 intro hc64
 try simp only [bq,ne_eq] at hc64
 obtain rfl:m=0:=by omega
 rw [Nat.pow_zero,Nat.div_one,Nat.mul_one] at hv
 rw [Nat.pow_zero,Nat.div_one] at hr
 refine W.exit<|X.thenExit<|X.nextExit<|X.here<|X.seq<|W.seq ?_
 have hU:U32 M w5 (.slice (some ⟨g58,0,none⟩) xs.length xs.length) q:=by
     have hU:=U32.of_blk (M:=M) hb58 (hbd0.not hge_g58) (by unfold maxLen; omega) hqx
     rw [hql] at hU; exact hU
 have hrl9:(toL (val xs % val ys)).length≤ys.length:=Nat.le_trans (toL_len_mono (Nat.le_of_lt (Nat.mod_lt _ hyp))) (toL_length_val ys k.2)
 refine W.region<|L.m rfl rfl<|L.call rfl (c_r1_Trim hU (hbd0.gr hm0) (by omega)) rfl ?_
 rintro v108 w12 ⟨h108,hm12⟩
 replace hm0:=hm0.trans hm12;replace hr:=hr.gr hm12;clear hm12
 refine L.m rfl rfl<|L.call rfl (c_r1_Trim (M:=M) (N9:=M) (hr.sub (by intro b hb; simp [hb])) (hbd0.gr hm0) (by omega)) rfl ?_
 rintro v110 w13 ⟨h110,hm13⟩
 replace hm0:=hm0.trans hm13;replace h108:=h108.gr hm13;clear hm13
 refine L.a rfl rfl<|L.a rfl rfl<|L.a rfl rfl<|L.nil<|X.seq<|W.ret<|X.result3 rfl (.tmp rfl (.tmp rfl (.tmp rfl .nil))) ?_
 rw [hv] at h108
 rw [val_toL] at h110
 exact ⟨_,_,rfl,h108,h110,hm0⟩
theorem c_r1_DivMod {M : List Nat} {w : World} {va vb : Value} {xs ys : List Nat} (h : U32 M w va xs) (k : U32 M w vb ys) (hbd : Bd M w) (hl1 : xs.length ≤ 1099511627776) (hl2 : ys.length ≤ 1099511627776) (hy : val ys ≠ 0) :
    Ret Tryz.prog 62 #[va,vb] w (fun r w'=>∃ v u,r=.tuple #[v,u,.bool true]∧U32 M w' v (toL (val xs / val ys))∧U32 M w' u (toL (val xs % val ys))∧Mod [] w w'):=by
  rcases Nat.lt_or_ge 2 (toL (val xs)).length with hX | hX <;> rcases Nat.lt_or_ge 2 (toL (val ys)).length with hY | hY
  · exact c_r1_DivModE h k hbd hl1 hl2 hy hX hY
  · rcases Nat.lt_or_ge (val ys) 4294967296 with hB | hB
    · exact c_r1_DivModB h k hbd hl1 hl2 hy hX hY hB
    exact c_r1_DivModC h k hbd hl1 hl2 hy hX hY hB
  · exact c_r1_DivModD h k hbd hl1 hl2 hy hX hY
  exact c_r1_DivModA h k hbd hl1 hl2 hy hX hY
theorem c_r1_Gcd {M : List Nat} {w : World} {va vb : Value} {xs ys : List Nat} (h : U32 M w va xs) (k : U32 M w vb ys) (hbd : Bd M w) (hl1 : xs.length ≤ 1099511627776) (hl2 : ys.length ≤ 1099511627776) :
    Ret Tryz.prog 61 #[va,vb] w (fun r w'=>U32 M w' r (toL (Nat.gcd (val xs) (val ys)))∧Mod [] w w'):=by
 have hla:=toL_len_40 h.2 hl1;have hlb:=toL_len_40 k.2 hl2
 refine Ret.of (vs:=[va,vb]) (n:=27) Tryz.func61 rfl rfl rfl rfl ?_
 have hm0:Mod [] w w:=Mod.refl _ _
 refine W.seq<|W.region<|L.a rfl rfl<|L.nil<|X.seq<|W.seq<|W.region<|L.m rfl rfl<|L.call rfl (c_r1_Trim (by assumption) (by assumption) (by omega)) rfl ?_
 rintro v11 w1 ⟨h11,hm1⟩
 replace h:=h.gr hm1;replace k:=k.gr hm1;replace hbd:=hbd.gr hm1;replace hm0:=hm0.trans hm1;clear hm1
 refine L.m rfl rfl<|L.call rfl (c_r1_Trim (by assumption) (by assumption) (by omega)) rfl ?_
 rintro v13 w2 ⟨h13,hm2⟩
 replace h:=h.gr hm2;replace k:=k.gr hm2;replace hbd:=hbd.gr hm2;replace hm0:=hm0.trans hm2;replace h11:=h11.gr hm2;clear hm2
 refine L.a rfl rfl<|L.a rfl rfl<|L.nil<|X.seq<|W.seq<|W.block<|W.loop (ι:=Nat × Nat × Value × Value) (fun (a,b,u1,u2)=>[(5,u1),(6,u2)]) (fun (a,b,u1,u2) w_=>(toL a).length≤1099511627776∧(toL b).length≤1099511627776∧Nat.gcd a b=Nat.gcd (val xs) (val ys)∧U32 M w_ u1 (toL a)∧U32 M w_ u2 (toL b)∧Bd M w_∧Mod [] w w_) (fun (a,b,u1,u2)=>b) (val xs,val ys,v11,v13) ?_ ?_ ?_
 · exact ⟨rfl,rfl,trivial⟩
 ·
  exact ⟨hla,hlb,rfl,h11,h13,hbd,hm0⟩
 rintro ⟨a,b,u1,u2⟩ w3 ⟨hal,hbl,hg,h,k,hbd,hm0⟩
 refine W.seq<|W.seq<|W.region<|L.m rfl rfl<|L.v (R1.lenU rfl (by assumption) tyS24) rfl<|L.v (R1.gt rfl rfl) rfl<|L.nil<|X.seq<|W.cond rfl ?_ ?_
 ·
  intro hc16
  try simp only [bq,ne_eq] at hc16
  have hb0:b≠0:=by
      intro h0
      subst h0
      rw [toL_zero] at hc16; simp at hc16
  refine W.skip<|X.seq<|W.block<|W.seq<|W.region<|L.m rfl rfl<|L.m rfl rfl<|L.call rfl (c_r1_DivMod h k hbd (by omega) (by omega) (by rw [val_toL]; exact hb0)) rfl ?_
  rintro _ w4 ⟨v20,u20,rfl,h20,k20,hm4⟩
  replace k:=k.gr hm4;replace hbd:=hbd.gr hm4;replace hm0:=hm0.trans hm4;clear hm4
  rw [val_toL,val_toL] at k20
  refine L.m rfl rfl<|L.v (R1.extract rfl rfl) rfl<|L.v (R1.extract rfl rfl) rfl<|L.v (R1.extract rfl rfl) rfl<|L.a rfl rfl<|L.a rfl rfl<|L.a rfl rfl<|L.nil<|X.seq<|W.region<|L.m rfl rfl ?_
  refine L.m rfl rfl<|L.a rfl rfl<|L.a rfl rfl<|L.nil<|X.blockEnd<|X.next (b,a % b,u2,u20) ?_ ?_ ?_
  · exact ⟨rfl,rfl,trivial⟩
  ·
   exact ⟨hbl,Nat.le_trans (toL_len_mono (Nat.le_of_lt (Nat.mod_lt _ (Nat.pos_of_ne_zero hb0)))) hbl,by rw [← hg,Nat.gcd_comm a b,Nat.gcd_rec b a,Nat.gcd_comm],k,k20,hbd,hm0⟩
  exact Nat.mod_lt _ (Nat.pos_of_ne_zero hb0)
 intro hc16
 try simp only [bq,ne_eq] at hc16
 have hb0:b=0:=toL_nil.1 (List.eq_nil_of_length_eq_zero (by omega))
 subst hb0
 rw [Nat.gcd_zero_right] at hg
 refine W.exit<|X.thenExit<|X.nextExit<|X.here<|X.seq<|W.seq<|W.region<|L.m rfl rfl<|L.a rfl rfl<|L.nil<|X.seq ?_
 refine W.ret<|X.result1 rfl (.tmp rfl .nil) ?_
 exact ⟨by rw [← hg]; exact h,hm0⟩
end Go.Proofs.YtedokfpoajfflaaGreat
