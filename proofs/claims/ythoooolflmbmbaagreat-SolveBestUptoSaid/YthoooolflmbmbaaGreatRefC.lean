/- Walks: what the functions compute. -/
import Derived.Test.YthoooolflmbmbaaGreatRefB
namespace Go.Proofs.YthoooolflmbmbaaGreat
open Go.RowKit
set_option linter.unusedVariables false
set_option linter.unusedSimpArgs false
set_option maxRecDepth 10000
theorem c_r1_DivModA {M : List Nat} {w : World} {va vb : Value} {xs ys : List Nat} (h : U32 M w va xs) (k : U32 M w vb ys) (hbd : Bd M w) (hl1 : xs.length ≤ 1099511627776) (hl2 : ys.length ≤ 1099511627776) (hy : val ys ≠ 0) (hX :  (toL (val xs)).length ≤ 2) (hY :  (toL (val ys)).length ≤ 2) :
    Ret Tryz.prog 90 #[va,vb] w (fun r w'=>∃ v u,r=.tuple #[v,u,.bool true]∧U32 M w' v (toL (val xs / val ys))∧U32 M w' u (toL (val xs % val ys))∧Mod [] w w'):=by
 have hnz:(toL (val ys)).length≠0:=fun h0=>hy (toL_nil.1 (List.eq_nil_of_length_eq_zero h0))
 have hla:=toL_len_40 h.2 hl1;have hlb:=toL_len_40 k.2 hl2;have hbd0:=hbd;have hx:=h.2;have hx64:=val_lt64 hX;have hy64:=val_lt64 hY
 have hq64:val xs / val ys<18446744073709551616:=Nat.lt_of_le_of_lt (Nat.div_le_self _ _) hx64
 have hr64:val xs % val ys<18446744073709551616:=Nat.lt_trans (Nat.mod_lt _ (Nat.pos_of_ne_zero hy)) hy64
 refine Ret.of (vs:=[va,vb]) (n:=111) Tryz.func90 rfl rfl rfl rfl ?_
 have C0:Mod [] w w:=Mod.refl _ _
 refine W.sr<|L.b rfl<|L.b rfl<|L.b rfl<|L.z<|W.seq<|W.sr<|L.k rfl ?_
 refine L.c rfl (c_r1_Trim (by assumption) (by assumption) (by omega)) ?_
 rintro v17 w1 ⟨h17,C1⟩
 replace h:=h.gr C1;replace k:=k.gr C1;replace hbd:=hbd.gr C1;replace C0:=C0.trans C1;clear C1
 refine L.lU rfl (by assumption) Q38<|L.v ((R1.eq rfl rfl).asB (c:=false) (by rw [decide_eq_false_iff_not]; omega)) rfl<|L.z<|W.condF rfl<|W.skip<|X.seq<|W.sr<|L.k rfl<|L.c rfl (c_r1_To1 h hbd (by omega) hX) ?_
 rintro _ w2 ⟨rfl,C2⟩
 replace h:=h.gr C2;replace k:=k.gr C2;replace hbd:=hbd.gr C2;replace C0:=C0.trans C2;replace h17:=h17.gr C2;clear C2
 refine L.k rfl<|L.ex rfl rfl<|L.ex rfl rfl<|L.b rfl<|L.b rfl<|L.z<|W.sr<|L.k rfl<|L.c rfl (c_r1_To1 k hbd (by omega) hY) ?_
 rintro _ w3 ⟨rfl,C3⟩
 replace h:=h.gr C3;replace k:=k.gr C3;replace hbd:=hbd.gr C3;replace C0:=C0.trans C3;replace h17:=h17.gr C3;clear C3
 refine L.k rfl<|L.ex rfl rfl<|L.ex rfl rfl<|L.b rfl<|L.b rfl<|L.z<|W.seq<|W.sr<|L.k rfl ?_
 refine L.k rfl<|L.p rfl (R1.move rfl)<|L.pT rfl rfl<|L.z<|W.condT rfl<|W.seq<|W.drawW (T:=[]) rfl (by decide +kernel) (NoHang.then (NoHang.then NoHang.post)) (fun w4 C4=>?_)
 replace h:=h.gr C4;replace k:=k.gr C4;replace hbd:=hbd.gr C4;replace C0:=C0.trans C4;replace h17:=h17.gr C4
 have G1:Mod [] w4 w4:=Mod.refl _ _
 clear C4
 refine D.z 0 rfl (by kernel_rfl) rfl G1<|D.z 1 rfl (by kernel_rfl) rfl G1<|D.t 2 rfl (by kernel_rfl) (fun _ hS=>R1.quoL rfl rfl (by omega) (by omega)) G1<|D.z 4 rfl (by kernel_rfl) rfl G1<|D.z 5 rfl (by kernel_rfl) rfl G1<|D.t 6 rfl (by kernel_rfl) (fun _ hS=>R1.remL rfl rfl (by omega)) G1<|D.one 3 rfl (by kernel_rfl) (fun hX=>?_)
 refine L.c rfl (c_r1_Of hq64 (by assumption)) ?_
 rintro v37 w5 ⟨h37,C5⟩
 replace h:=h.gr C5;replace k:=k.gr C5;replace hbd:=hbd.gr C5;replace C0:=C0.trans C5;replace h17:=h17.gr C5;replace G1:=G1.trans C5;clear C5
 refine L.nil (hX _ _ ⟨.inr G1,?_⟩)
 refine D.one 7 rfl (by kernel_rfl) (fun hX=>?_)
 refine L.c rfl (c_r1_Of hr64 (by assumption)) ?_
 rintro v41 w6 ⟨h41,C6⟩
 replace C0:=C0.trans C6;replace h37:=h37.gr C6;replace G1:=G1.trans C6;clear C6
 refine L.nil (hX _ _ ⟨.inr G1,?_⟩)
 refine D.t 8 rfl (by kernel_rfl) (fun _ hS=>R1.assign rfl) G1<|D.t 9 rfl (by kernel_rfl) (fun _ hS=>R1.assign rfl) G1<|D.t 10 rfl (by kernel_rfl) (fun _ hS=>R1.assign rfl) G1<|D.done (by decide +kernel) ?_ _
 refine X.seq<|W.ret<|X.thenRet<|X.result3 rfl (.tmp rfl (.tmp rfl (.tmp rfl .nil))) ?_
 exact ⟨_,_,rfl,h37,h41,C0⟩
theorem c_r1_DivModB {M : List Nat} {w : World} {va vb : Value} {xs ys : List Nat} (h : U32 M w va xs) (k : U32 M w vb ys) (hbd : Bd M w) (hl1 : xs.length ≤ 1099511627776) (hl2 : ys.length ≤ 1099511627776) (hy : val ys ≠ 0) (hX : 2 < (toL (val xs)).length) (hY :  (toL (val ys)).length ≤ 2) (hB : val ys < 4294967296) :
    Ret Tryz.prog 90 #[va,vb] w (fun r w'=>∃ v u,r=.tuple #[v,u,.bool true]∧U32 M w' v (toL (val xs / val ys))∧U32 M w' u (toL (val xs % val ys))∧Mod [] w w'):=by
 have hnz:(toL (val ys)).length≠0:=fun h0=>hy (toL_nil.1 (List.eq_nil_of_length_eq_zero h0))
 have hla:=toL_len_40 h.2 hl1;have hlb:=toL_len_40 k.2 hl2;have hbd0:=hbd;have hx:=h.2
 have hr64:val xs % val ys<18446744073709551616:=Nat.lt_trans (Nat.mod_lt _ (Nat.pos_of_ne_zero hy)) (by omega)
 refine Ret.of (vs:=[va,vb]) (n:=111) Tryz.func90 rfl rfl rfl rfl ?_
 have C0:Mod [] w w:=Mod.refl _ _
 refine W.sr<|L.b rfl<|L.b rfl<|L.b rfl<|L.z<|W.seq<|W.sr<|L.k rfl ?_
 refine L.c rfl (c_r1_Trim (by assumption) (by assumption) (by omega)) ?_
 rintro v17 w1 ⟨h17,C1⟩
 replace h:=h.gr C1;replace k:=k.gr C1;replace hbd:=hbd.gr C1;replace C0:=C0.trans C1;clear C1
 refine L.lU rfl (by assumption) Q38<|L.v ((R1.eq rfl rfl).asB (c:=false) (by rw [decide_eq_false_iff_not]; omega)) rfl<|L.z<|W.condF rfl<|W.skip<|X.seq<|W.sr<|L.k rfl<|L.c rfl (c_r1_To0 h hbd (by omega) hX) ?_
 rintro _ w2 ⟨rfl,C2⟩
 replace h:=h.gr C2;replace k:=k.gr C2;replace hbd:=hbd.gr C2;replace C0:=C0.trans C2;replace h17:=h17.gr C2;clear C2
 refine L.k rfl<|L.ex rfl rfl<|L.ex rfl rfl<|L.b rfl<|L.b rfl<|L.z<|W.sr<|L.k rfl<|L.c rfl (c_r1_To1 k hbd (by omega) hY) ?_
 rintro _ w3 ⟨rfl,C3⟩
 replace h:=h.gr C3;replace k:=k.gr C3;replace hbd:=hbd.gr C3;replace C0:=C0.trans C3;replace h17:=h17.gr C3;clear C3
 refine L.k rfl<|L.ex rfl rfl<|L.ex rfl rfl<|L.b rfl<|L.b rfl<|L.z<|W.seq<|W.sr<|L.k rfl ?_
 refine L.k rfl<|L.o rfl<|L.pF rfl rfl<|L.z<|W.condF rfl<|W.skip<|X.seq<|W.seq<|W.seq<|W.region ?_
 refine L.k rfl<|L.k rfl<|L.p rfl (R1.move rfl)<|L.p rfl ((R1.lt rfl rfl).asB (c:=true) (by rw [decide_eq_true_eq]; omega))<|L.pT rfl rfl<|L.z<|W.condT rfl<|W.sr<|L.k rfl ?_
 refine L.k rfl<|L.c rfl (c_r1_small h (by omega) hB hbd (by omega)) ?_
 rintro _ w4 ⟨v50,rfl,h50,C4⟩
 replace h:=h.gr C4;replace k:=k.gr C4;replace hbd:=hbd.gr C4;replace C0:=C0.trans C4;replace h17:=h17.gr C4;clear C4
 refine L.k rfl<|L.ex rfl rfl<|L.ex rfl rfl<|L.b rfl<|L.b rfl<|L.z<|W.sr<|L.k rfl<|L.k rfl ?_
 refine L.c rfl (c_r1_Of hr64 (by assumption)) ?_
 rintro v55 w5 ⟨h55,C5⟩
 replace C0:=C0.trans C5;replace h50:=h50.gr C5;clear C5
 refine L.b rfl<|L.b rfl<|L.b rfl<|L.z<|W.ret<|X.thenRet<|X.result3 rfl (.tmp rfl (.tmp rfl (.tmp rfl .nil))) ?_
 exact ⟨_,_,rfl,h50,h55,C0⟩
theorem c_r1_DivModC {M : List Nat} {w : World} {va vb : Value} {xs ys : List Nat} (h : U32 M w va xs) (k : U32 M w vb ys) (hbd : Bd M w) (hl1 : xs.length ≤ 1099511627776) (hl2 : ys.length ≤ 1099511627776) (hy : val ys ≠ 0) (hX : 2 < (toL (val xs)).length) (hY :  (toL (val ys)).length ≤ 2) (hB : 4294967296 ≤ val ys) :
    Ret Tryz.prog 90 #[va,vb] w (fun r w'=>∃ v u,r=.tuple #[v,u,.bool true]∧U32 M w' v (toL (val xs / val ys))∧U32 M w' u (toL (val xs % val ys))∧Mod [] w w'):=by
 have hnz:(toL (val ys)).length≠0:=fun h0=>hy (toL_nil.1 (List.eq_nil_of_length_eq_zero h0))
 have hla:=toL_len_40 h.2 hl1;have hlb:=toL_len_40 k.2 hl2;have hbd0:=hbd;have hx:=h.2
 refine Ret.of (vs:=[va,vb]) (n:=111) Tryz.func90 rfl rfl rfl rfl ?_
 have C0:Mod [] w w:=Mod.refl _ _
 refine W.sr<|L.b rfl<|L.b rfl<|L.b rfl<|L.z<|W.seq<|W.sr<|L.k rfl ?_
 refine L.c rfl (c_r1_Trim (by assumption) (by assumption) (by omega)) ?_
 rintro v17 w1 ⟨h17,C1⟩
 replace h:=h.gr C1;replace k:=k.gr C1;replace hbd:=hbd.gr C1;replace C0:=C0.trans C1;clear C1
 refine L.lU rfl (by assumption) Q38<|L.v ((R1.eq rfl rfl).asB (c:=false) (by rw [decide_eq_false_iff_not]; omega)) rfl<|L.z<|W.condF rfl<|W.skip<|X.seq<|W.sr<|L.k rfl<|L.c rfl (c_r1_To0 h hbd (by omega) hX) ?_
 rintro _ w2 ⟨rfl,C2⟩
 replace h:=h.gr C2;replace k:=k.gr C2;replace hbd:=hbd.gr C2;replace C0:=C0.trans C2;replace h17:=h17.gr C2;clear C2
 refine L.k rfl<|L.ex rfl rfl<|L.ex rfl rfl<|L.b rfl<|L.b rfl<|L.z<|W.sr<|L.k rfl<|L.c rfl (c_r1_To1 k hbd (by omega) hY) ?_
 rintro _ w3 ⟨rfl,C3⟩
 replace h:=h.gr C3;replace k:=k.gr C3;replace hbd:=hbd.gr C3;replace C0:=C0.trans C3;replace h17:=h17.gr C3;clear C3
 refine L.k rfl<|L.ex rfl rfl<|L.ex rfl rfl<|L.b rfl<|L.b rfl<|L.z<|W.seq<|W.sr<|L.k rfl ?_
 refine L.k rfl<|L.o rfl<|L.pF rfl rfl<|L.z<|W.condF rfl<|W.skip<|X.seq<|W.seq<|W.seq<|W.region ?_
 refine L.k rfl<|L.k rfl<|L.p rfl (R1.move rfl)<|L.p rfl ((R1.lt rfl rfl).asB (c:=false) (by rw [decide_eq_false_iff_not]; omega))<|L.pT rfl rfl<|L.z<|W.condF rfl<|W.skip<|X.seq<|W.seq ?_
 refine W.region<|L.k rfl<|L.lU rfl h Q38<|L.makeSlice (m:=xs.length) rfl rfl rfl rfl Q38 tyZ90 (by omega) (by unfold maxLen; omega) rfl ?_
 intro g58 w4 D58
 replace h:=h.new D58;replace k:=k.new D58;replace hbd:=hbd.new D58;have K58:=New.ge D58 C0.size;replace C0:=C0.tn D58;replace h17:=h17.new D58;have E58:=D58.blk;clear D58
 rw [uarr_made] at E58
 refine L.b rfl<|L.z<|W.sr<|L.b rfl<|L.z<|W.seq<|W.seq<|W.region ?_
 refine L.k rfl<|L.lU rfl h Q38<|L.v (R1.mulI (a:=32) rfl rfl (by omega)) rfl<|L.v ((R1.sub rfl rfl).as (j:=((32 * xs.length:Nat):Int) - 1) (by rw [wrap_i64 (by omega) (by omega)])) rfl<|L.b rfl<|L.z<|W.block ?_
 have hA0:val xs / 2 ^ (32 * xs.length)=0:=by rw [← pow32]; exact Nat.div_eq_of_lt (val_lt xs hx)
 have hyp:0<val ys:=Nat.pos_of_ne_zero hy
 refine W.loop (ι:=Nat × Value × List Nat) (fun (m,rv,q)=>[(0,va),(1,vb),(13,.slice (some ⟨g58,0,none⟩) xs.length xs.length),(14,rv),(15,.int .i64 ((m:Int) - 1))]) (fun (m,rv,q) w_=>m≤32 * xs.length∧q.length=xs.length∧(∀ x∈q,x<4294967296)∧val q=val xs / 2 ^ m / val ys * 2 ^ m∧U32 (g58 :: M) w_ rv (toL (val xs / 2 ^ m % val ys))∧Blk w_ g58 90 (uarr q)∧U32 (g58 :: M) w_ va xs∧U32 (g58 :: M) w_ vb ys∧Bd (g58 :: M) w_∧Mod [] w w_) (fun (m,rv,q)=>m) (32 * xs.length,.slice none 0 0,List.replicate xs.length 0) ?_ ?_ ?_
 · repeat' constructor
 ·
  exact ⟨Nat.le_refl _,by simp,rep_lt _,by rw [hA0]; simp [val_replicate],by rw [hA0,Nat.zero_mod,toL_zero]; exact U32.nil,E58,h,k,hbd,C0⟩
 rintro ⟨m,rv,q⟩ w5 ⟨hm,hql,hqx,hv,hr,E58,h,k,hbd,C0⟩
 refine W.seq<|W.sr<|L.k rfl<|L.v (R1.ge rfl rfl) rfl<|L.z<|W.cond rfl ?_ ?_
 ·
  intro J64
  try simp only [bq,ne_eq] at J64
  obtain ⟨i,rfl⟩:∃ i,m=i + 1:=⟨m - 1,by omega⟩
  have hidx:i / 32<xs.length:=by omega
  have hrl:(toL (val xs / 2 ^ (i + 1) % val ys)).length≤ys.length:=Nat.le_trans (toL_len_mono (Nat.le_of_lt (Nat.mod_lt _ hyp))) (toL_length_val ys k.2)
  have hxi:=h.lt hidx
  have hsh:xs[i / 32] / 2 ^ (i % 32)<2 ^ 32:=Nat.lt_of_le_of_lt (Nat.div_le_self _ _) hxi
  have hbit:val xs / 2 ^ i % 2<2:=Nat.mod_lt _ (by decide)
  have hrl2:(toL (2 * (val xs / 2 ^ (i + 1) % val ys) + val xs / 2 ^ i % 2)).length≤ys.length + 1:=by
      refine Nat.le_trans (toL_len_mono (show 2 * (val xs / 2 ^ (i + 1) % val ys) + val xs / 2 ^ i % 2≤val ys + val ys by have:=Nat.mod_lt (val xs / 2 ^ (i + 1)) hyp; omega)) ?_
      exact toL_len_add (toL_length_val ys k.2) (toL_length_val ys k.2)
  have hrl3:(toL (2 * (val xs / 2 ^ (i + 1) % val ys))).length≤ys.length + 1:=Nat.le_trans (toL_len_mono (by omega)) hrl2
  refine W.skip<|X.seq<|W.seq<|W.block<|W.sr<|L.k rfl<|L.c rfl (c_r1_Shift1 hr hbd (by omega)) ?_
  rintro v68 w6 ⟨h68,C6⟩
  replace E58:=E58.gr C6;replace h:=h.gr C6;replace k:=k.gr C6;replace hbd:=hbd.gr C6;replace C0:=C0.trans C6;replace hr:=hr.gr C6;clear C6
  rw [val_toL] at h68
  refine L.b rfl<|L.z<|W.seq<|W.sr<|L.k rfl<|L.k rfl<|L.v ((R1.quo rfl rfl (by decide)).as (j:=((i / 32:Nat):Int)) (quo_m1 (by omega))) rfl<|L.v (R1.atU (j:=(i / 32)) rfl rfl (by assumption) Q38 rfl (by omega)) rfl<|L.v (R1.ldU rfl h tyP90 hidx rfl) rfl ?_
  refine L.k rfl<|L.v ((R1.rem rfl rfl (by decide)).as (j:=((i % 32:Nat):Int)) (rem_m1)) rfl<|L.v (R1.convIL rfl tyI3 tyI117 (by omega)) rfl<|L.v (R1.shrW rfl rfl (by omega)) rfl<|L.v (R1.andW (b:=1) rfl rfl hsh (by decide)) rfl<|L.v ((R1.eq rfl rfl).asB (c:=decide (val xs / 2 ^ i % 2=1)) (by rw [Nat.and_one_is_mod,bit_val hx hidx]; congr 1; apply propext; omega)) rfl<|L.z<|W.cut (ι:=Value) (fun r1=>[(0,va),(1,vb),(13,.slice (some ⟨g58,0,none⟩) xs.length xs.length),(14,r1),(15,.int .i64 (((i + 1:Nat):Int) - 1))]) (fun r1 w_=>U32 (g58 :: M) w_ r1 (toL (2 * (val xs / 2 ^ (i + 1) % val ys) + val xs / 2 ^ i % 2))∧Blk w_ g58 90 (uarr q)∧U32 (g58 :: M) w_ va xs∧U32 (g58 :: M) w_ vb ys∧Bd (g58 :: M) w_∧Mod [] w w_) ?_ ?_
  ·
   refine W.cond rfl ?_ ?_
   ·
    intro J79
    try simp only [bq,ne_eq] at J79
    refine W.region<|L.k rfl ?_
    have hbdz:=hbd
    refine L.build1 rfl rfl Q38 tyZ90 rfl ?_
    intro g81 w7 D81
    replace E58:=E58.gr D81.mod;replace h:=h.gr D81.mod;replace k:=k.gr D81.mod;replace hbd:=hbd.gr D81.mod;replace C0:=C0.trans D81.mod;replace h68:=h68.gr D81.mod
    have hone:U32 (g58 :: M) w7 (.slice (some ⟨g81,0,none⟩) 1 1) [1]:=U32.of_blk (xs:=[1]) D81.blk (hbdz.not (New.ge D81 (Nat.le_refl _))) (by show (1:Nat)≤maxLen; decide) (by simp)
    clear D81
    refine L.c rfl (c_r1_Add h68 hone hbd (by omega) (by simp)) ?_
    rintro v82 w8 ⟨h82,C8⟩
    replace E58:=E58.gr C8;replace h:=h.gr C8;replace k:=k.gr C8;replace hbd:=hbd.gr C8;replace C0:=C0.trans C8;clear C8
    rw [val_toL] at h82
    replace h82:U32 _ _ _ (toL (2 * (val xs / 2 ^ (i + 1) % val ys) + 1)):=h82
    refine L.b rfl<|L.nil<|X.join v82 ?_ ?_
    · repeat' constructor
    exact ⟨by rw [J79]; exact h82,E58,h,k,hbd,C0⟩
   intro J79
   try simp only [bq,ne_eq] at J79
   refine W.skip<|X.join v68 ?_ ?_
   · repeat' constructor
   exact ⟨by rw [show val xs / 2 ^ i % 2=0 by omega,Nat.add_zero]; exact h68,E58,h,k,hbd,C0⟩
  rintro r1 wj ⟨hr1,E58,h,k,hbd,C0⟩
  refine X.seq<|W.sr<|L.k rfl<|L.k rfl<|L.c rfl (c_r1_Cmp hr1 k hbd (by omega) (by omega)) ?_
  rintro _ w9 ⟨rfl,C9⟩
  replace E58:=E58.gr C9;replace h:=h.gr C9;replace k:=k.gr C9;replace hbd:=hbd.gr C9;replace C0:=C0.trans C9;replace hr1:=hr1.gr C9;clear C9
  refine L.v ((R1.ge rfl rfl).asB (c:=decide (val ys≤2 * (val xs / 2 ^ (i + 1) % val ys) + val xs / 2 ^ i % 2)) (by rw [cmpI_ge0,val_toL])) rfl<|L.z<|W.cut (ι:=Value × List Nat) (fun (r2,q2)=>[(0,va),(1,vb),(13,.slice (some ⟨g58,0,none⟩) xs.length xs.length),(14,r2),(15,.int .i64 (((i + 1:Nat):Int) - 1))]) (fun (r2,q2) w_=>q2.length=xs.length∧(∀ x∈q2,x<4294967296)∧val q2=val xs / 2 ^ i / val ys * 2 ^ i∧U32 (g58 :: M) w_ r2 (toL (val xs / 2 ^ i % val ys))∧Blk w_ g58 90 (uarr q2)∧U32 (g58 :: M) w_ va xs∧U32 (g58 :: M) w_ vb ys∧Bd (g58 :: M) w_∧Mod [] w w_) ?_ ?_
  ·
   refine W.cond rfl ?_ ?_
   ·
    intro J86
    try simp only [bq,ne_eq] at J86
    obtain ⟨hg1,hg2⟩:=bit_ge hyp J86;obtain ⟨O1,O2⟩:=bit_or hqx (show i / 32<q.length by omega) hv;have hqj:=hqx _ (List.getElem_mem (show i / 32<q.length by omega))
    have hp2:2 ^ (i % 32)<4294967296:=pow32_le (Nat.mod_lt _ (by decide))
    have hbs:=bit_set (show i / 32<q.length by omega) hv
    refine W.sr<|L.k rfl<|L.k rfl<|L.c rfl (c_r1_Sub hr1 k hbd (by omega) (by omega) (by rw [val_toL]; exact J86)) ?_
    rintro _ w10 ⟨v90,rfl,h90,C10⟩
    replace E58:=E58.gr C10;replace h:=h.gr C10;replace k:=k.gr C10;replace hbd:=hbd.gr C10;replace C0:=C0.trans C10;replace hr1:=hr1.gr C10;clear C10
    rw [val_toL] at h90
    refine L.k rfl<|L.ex rfl rfl<|L.ex rfl rfl<|L.b rfl<|L.z<|W.region<|L.k rfl<|L.k rfl<|L.v ((R1.quo rfl rfl (by decide)).as (j:=((i / 32:Nat):Int)) (quo_m1 (by omega))) rfl<|L.k rfl ?_
    refine L.k rfl<|L.v ((R1.quo rfl rfl (by decide)).as (j:=((i / 32:Nat):Int)) (quo_m1 (by omega))) rfl<|L.v (R1.atO (j:=(i / 32)) rfl rfl Q38 rfl (by omega)) rfl<|L.v (R1.ldO rfl (by assumption) (by omega) tyP90 rfl) rfl<|L.k rfl<|L.v ((R1.rem rfl rfl (by decide)).as (j:=((i % 32:Nat):Int)) (rem_m1)) rfl<|L.v (R1.convIL rfl tyI3 tyI117 (by omega)) rfl<|L.v ((R1.shlW (a:=1) rfl rfl (by omega)).as (j:=((2 ^ (i % 32):Nat):Int)) (by rw [Nat.one_mul,Nat.mod_eq_of_lt hp2])) rfl<|L.v ((R1.orW rfl rfl (by omega) (by omega)).as (j:=((q[i / 32] + 2 ^ (i % 32):Nat):Int)) (congrArg (fun n:Nat=>(n:Int)) O1)) rfl<|L.v (R1.atO (j:=(i / 32)) rfl rfl Q38 rfl (by omega)) rfl<|L.storeU rfl rfl E58 (by omega) tyP90 ?_
    intro w11 E58' C11
    replace h:=h.ms C11;replace k:=k.ms C11;replace hbd:=hbd.gr C11;replace C0:=C0.old1 C11 K58;replace h90:=h90.ms C11;clear C11;replace E58:=E58'; clear E58'
    refine L.nil<|X.join (v90,q.set (i / 32) (q[i / 32] + 2 ^ (i % 32))) ?_ ?_
    · repeat' constructor
    exact ⟨by simpa using hql,set_lt hqx O2,by rw [hbs,hg2],by rw [hg1]; exact h90,E58,h,k,hbd,C0⟩
   intro J86
   try simp only [bq,ne_eq] at J86
   obtain ⟨hg1,hg2⟩:=bit_lt hyp (Nat.lt_of_not_le J86)
   refine W.skip<|X.join (r1,q) ?_ ?_
   · repeat' constructor
   exact ⟨hql,hqx,by rw [hv,hg2,Nat.pow_succ]; grind,by rw [hg1]; exact hr1,E58,h,k,hbd,C0⟩
  rintro ⟨r2,q2⟩ wk ⟨hql2,hqx2,hv2,hr2,E58,h,k,hbd,C0⟩
  refine X.blockEnd<|X.seq<|W.region<|L.k rfl<|L.v ((R1.sub rfl rfl).as (j:=((i:Nat):Int) - 1) (by rw [wrap_i64 (by omega) (by omega)]; omega)) rfl<|L.b rfl<|L.nil<|X.next (i,r2,q2) ?_ ?_ ?_
  · repeat' constructor
  ·
   exact ⟨by omega,hql2,hqx2,hv2,hr2,E58,h,k,hbd,C0⟩
  first | omega | (dsimp only; omega)
 intro J64
 try simp only [bq,ne_eq] at J64
 obtain rfl:m=0:=by omega
 rw [Nat.pow_zero,Nat.div_one,Nat.mul_one] at hv
 rw [Nat.pow_zero,Nat.div_one] at hr
 refine W.brk<|W.seq ?_
 have hU:U32 M w5 (.slice (some ⟨g58,0,none⟩) xs.length xs.length) q:=by
     have hU:=U32.of_blk (M:=M) E58 (hbd0.not K58) (by unfold maxLen; omega) hqx
     rw [hql] at hU; exact hU
 have hrl9:(toL (val xs % val ys)).length≤ys.length:=Nat.le_trans (toL_len_mono (Nat.le_of_lt (Nat.mod_lt _ hyp))) (toL_length_val ys k.2)
 refine W.region<|L.k rfl<|L.c rfl (c_r1_Trim hU (hbd0.gr C0) (by omega)) ?_
 rintro v108 w12 ⟨h108,C12⟩
 replace C0:=C0.trans C12;replace hr:=hr.gr C12;clear C12
 refine L.k rfl<|L.c rfl (c_r1_Trim (M:=M) (N9:=M) (hr.sub (by intro b hb; simp [hb])) (hbd0.gr C0) (by omega)) ?_
 rintro v110 w13 ⟨h110,C13⟩
 replace C0:=C0.trans C13;replace h108:=h108.gr C13;clear C13
 refine L.b rfl<|L.b rfl<|L.b rfl<|L.z<|W.ret<|X.result3 rfl (.tmp rfl (.tmp rfl (.tmp rfl .nil))) ?_
 rw [hv] at h108
 rw [val_toL] at h110
 exact ⟨_,_,rfl,h108,h110,C0⟩
theorem c_r1_DivModD {M : List Nat} {w : World} {va vb : Value} {xs ys : List Nat} (h : U32 M w va xs) (k : U32 M w vb ys) (hbd : Bd M w) (hl1 : xs.length ≤ 1099511627776) (hl2 : ys.length ≤ 1099511627776) (hy : val ys ≠ 0) (hX :  (toL (val xs)).length ≤ 2) (hY : 2 < (toL (val ys)).length) :
    Ret Tryz.prog 90 #[va,vb] w (fun r w'=>∃ v u,r=.tuple #[v,u,.bool true]∧U32 M w' v (toL (val xs / val ys))∧U32 M w' u (toL (val xs % val ys))∧Mod [] w w'):=by
 have hnz:(toL (val ys)).length≠0:=fun h0=>hy (toL_nil.1 (List.eq_nil_of_length_eq_zero h0))
 have hla:=toL_len_40 h.2 hl1;have hlb:=toL_len_40 k.2 hl2;have hbd0:=hbd;have hx:=h.2
 refine Ret.of (vs:=[va,vb]) (n:=111) Tryz.func90 rfl rfl rfl rfl ?_
 have C0:Mod [] w w:=Mod.refl _ _
 refine W.sr<|L.b rfl<|L.b rfl<|L.b rfl<|L.z<|W.seq<|W.sr<|L.k rfl ?_
 refine L.c rfl (c_r1_Trim (by assumption) (by assumption) (by omega)) ?_
 rintro v17 w1 ⟨h17,C1⟩
 replace h:=h.gr C1;replace k:=k.gr C1;replace hbd:=hbd.gr C1;replace C0:=C0.trans C1;clear C1
 refine L.lU rfl (by assumption) Q38<|L.v ((R1.eq rfl rfl).asB (c:=false) (by rw [decide_eq_false_iff_not]; omega)) rfl<|L.z<|W.condF rfl<|W.skip<|X.seq<|W.sr<|L.k rfl<|L.c rfl (c_r1_To1 h hbd (by omega) hX) ?_
 rintro _ w2 ⟨rfl,C2⟩
 replace h:=h.gr C2;replace k:=k.gr C2;replace hbd:=hbd.gr C2;replace C0:=C0.trans C2;replace h17:=h17.gr C2;clear C2
 refine L.k rfl<|L.ex rfl rfl<|L.ex rfl rfl<|L.b rfl<|L.b rfl<|L.z<|W.sr<|L.k rfl<|L.c rfl (c_r1_To0 k hbd (by omega) hY) ?_
 rintro _ w3 ⟨rfl,C3⟩
 replace h:=h.gr C3;replace k:=k.gr C3;replace hbd:=hbd.gr C3;replace C0:=C0.trans C3;replace h17:=h17.gr C3;clear C3
 refine L.k rfl<|L.ex rfl rfl<|L.ex rfl rfl<|L.b rfl<|L.b rfl<|L.z<|W.seq<|W.sr<|L.k rfl ?_
 refine L.k rfl<|L.p rfl (R1.move rfl)<|L.pT rfl rfl<|L.z<|W.condF rfl<|W.skip<|X.seq<|W.seq<|W.seq<|W.region ?_
 refine L.k rfl<|L.k rfl<|L.o rfl<|L.o rfl<|L.pF rfl rfl<|L.z<|W.condF rfl<|W.skip<|X.seq<|W.seq ?_
 refine W.region<|L.k rfl<|L.lU rfl h Q38<|L.makeSlice (m:=xs.length) rfl rfl rfl rfl Q38 tyZ90 (by omega) (by unfold maxLen; omega) rfl ?_
 intro g58 w4 D58
 replace h:=h.new D58;replace k:=k.new D58;replace hbd:=hbd.new D58;have K58:=New.ge D58 C0.size;replace C0:=C0.tn D58;replace h17:=h17.new D58;have E58:=D58.blk;clear D58
 rw [uarr_made] at E58
 refine L.b rfl<|L.z<|W.sr<|L.b rfl<|L.z<|W.seq<|W.seq<|W.region ?_
 refine L.k rfl<|L.lU rfl h Q38<|L.v (R1.mulI (a:=32) rfl rfl (by omega)) rfl<|L.v ((R1.sub rfl rfl).as (j:=((32 * xs.length:Nat):Int) - 1) (by rw [wrap_i64 (by omega) (by omega)])) rfl<|L.b rfl<|L.z<|W.block ?_
 have hA0:val xs / 2 ^ (32 * xs.length)=0:=by rw [← pow32]; exact Nat.div_eq_of_lt (val_lt xs hx)
 have hyp:0<val ys:=Nat.pos_of_ne_zero hy
 refine W.loop (ι:=Nat × Value × List Nat) (fun (m,rv,q)=>[(0,va),(1,vb),(13,.slice (some ⟨g58,0,none⟩) xs.length xs.length),(14,rv),(15,.int .i64 ((m:Int) - 1))]) (fun (m,rv,q) w_=>m≤32 * xs.length∧q.length=xs.length∧(∀ x∈q,x<4294967296)∧val q=val xs / 2 ^ m / val ys * 2 ^ m∧U32 (g58 :: M) w_ rv (toL (val xs / 2 ^ m % val ys))∧Blk w_ g58 90 (uarr q)∧U32 (g58 :: M) w_ va xs∧U32 (g58 :: M) w_ vb ys∧Bd (g58 :: M) w_∧Mod [] w w_) (fun (m,rv,q)=>m) (32 * xs.length,.slice none 0 0,List.replicate xs.length 0) ?_ ?_ ?_
 · repeat' constructor
 ·
  exact ⟨Nat.le_refl _,by simp,rep_lt _,by rw [hA0]; simp [val_replicate],by rw [hA0,Nat.zero_mod,toL_zero]; exact U32.nil,E58,h,k,hbd,C0⟩
 rintro ⟨m,rv,q⟩ w5 ⟨hm,hql,hqx,hv,hr,E58,h,k,hbd,C0⟩
 refine W.seq<|W.sr<|L.k rfl<|L.v (R1.ge rfl rfl) rfl<|L.z<|W.cond rfl ?_ ?_
 ·
  intro J64
  try simp only [bq,ne_eq] at J64
  obtain ⟨i,rfl⟩:∃ i,m=i + 1:=⟨m - 1,by omega⟩
  have hidx:i / 32<xs.length:=by omega
  have hrl:(toL (val xs / 2 ^ (i + 1) % val ys)).length≤ys.length:=Nat.le_trans (toL_len_mono (Nat.le_of_lt (Nat.mod_lt _ hyp))) (toL_length_val ys k.2)
  have hxi:=h.lt hidx
  have hsh:xs[i / 32] / 2 ^ (i % 32)<2 ^ 32:=Nat.lt_of_le_of_lt (Nat.div_le_self _ _) hxi
  have hbit:val xs / 2 ^ i % 2<2:=Nat.mod_lt _ (by decide)
  have hrl2:(toL (2 * (val xs / 2 ^ (i + 1) % val ys) + val xs / 2 ^ i % 2)).length≤ys.length + 1:=by
      refine Nat.le_trans (toL_len_mono (show 2 * (val xs / 2 ^ (i + 1) % val ys) + val xs / 2 ^ i % 2≤val ys + val ys by have:=Nat.mod_lt (val xs / 2 ^ (i + 1)) hyp; omega)) ?_
      exact toL_len_add (toL_length_val ys k.2) (toL_length_val ys k.2)
  have hrl3:(toL (2 * (val xs / 2 ^ (i + 1) % val ys))).length≤ys.length + 1:=Nat.le_trans (toL_len_mono (by omega)) hrl2
  refine W.skip<|X.seq<|W.seq<|W.block<|W.sr<|L.k rfl<|L.c rfl (c_r1_Shift1 hr hbd (by omega)) ?_
  rintro v68 w6 ⟨h68,C6⟩
  replace E58:=E58.gr C6;replace h:=h.gr C6;replace k:=k.gr C6;replace hbd:=hbd.gr C6;replace C0:=C0.trans C6;replace hr:=hr.gr C6;clear C6
  rw [val_toL] at h68
  refine L.b rfl<|L.z<|W.seq<|W.sr<|L.k rfl<|L.k rfl<|L.v ((R1.quo rfl rfl (by decide)).as (j:=((i / 32:Nat):Int)) (quo_m1 (by omega))) rfl<|L.v (R1.atU (j:=(i / 32)) rfl rfl (by assumption) Q38 rfl (by omega)) rfl<|L.v (R1.ldU rfl h tyP90 hidx rfl) rfl ?_
  refine L.k rfl<|L.v ((R1.rem rfl rfl (by decide)).as (j:=((i % 32:Nat):Int)) (rem_m1)) rfl<|L.v (R1.convIL rfl tyI3 tyI117 (by omega)) rfl<|L.v (R1.shrW rfl rfl (by omega)) rfl<|L.v (R1.andW (b:=1) rfl rfl hsh (by decide)) rfl<|L.v ((R1.eq rfl rfl).asB (c:=decide (val xs / 2 ^ i % 2=1)) (by rw [Nat.and_one_is_mod,bit_val hx hidx]; congr 1; apply propext; omega)) rfl<|L.z<|W.cut (ι:=Value) (fun r1=>[(0,va),(1,vb),(13,.slice (some ⟨g58,0,none⟩) xs.length xs.length),(14,r1),(15,.int .i64 (((i + 1:Nat):Int) - 1))]) (fun r1 w_=>U32 (g58 :: M) w_ r1 (toL (2 * (val xs / 2 ^ (i + 1) % val ys) + val xs / 2 ^ i % 2))∧Blk w_ g58 90 (uarr q)∧U32 (g58 :: M) w_ va xs∧U32 (g58 :: M) w_ vb ys∧Bd (g58 :: M) w_∧Mod [] w w_) ?_ ?_
  ·
   refine W.cond rfl ?_ ?_
   ·
    intro J79
    try simp only [bq,ne_eq] at J79
    refine W.region<|L.k rfl ?_
    have hbdz:=hbd
    refine L.build1 rfl rfl Q38 tyZ90 rfl ?_
    intro g81 w7 D81
    replace E58:=E58.gr D81.mod;replace h:=h.gr D81.mod;replace k:=k.gr D81.mod;replace hbd:=hbd.gr D81.mod;replace C0:=C0.trans D81.mod;replace h68:=h68.gr D81.mod
    have hone:U32 (g58 :: M) w7 (.slice (some ⟨g81,0,none⟩) 1 1) [1]:=U32.of_blk (xs:=[1]) D81.blk (hbdz.not (New.ge D81 (Nat.le_refl _))) (by show (1:Nat)≤maxLen; decide) (by simp)
    clear D81
    refine L.c rfl (c_r1_Add h68 hone hbd (by omega) (by simp)) ?_
    rintro v82 w8 ⟨h82,C8⟩
    replace E58:=E58.gr C8;replace h:=h.gr C8;replace k:=k.gr C8;replace hbd:=hbd.gr C8;replace C0:=C0.trans C8;clear C8
    rw [val_toL] at h82
    replace h82:U32 _ _ _ (toL (2 * (val xs / 2 ^ (i + 1) % val ys) + 1)):=h82
    refine L.b rfl<|L.nil<|X.join v82 ?_ ?_
    · repeat' constructor
    exact ⟨by rw [J79]; exact h82,E58,h,k,hbd,C0⟩
   intro J79
   try simp only [bq,ne_eq] at J79
   refine W.skip<|X.join v68 ?_ ?_
   · repeat' constructor
   exact ⟨by rw [show val xs / 2 ^ i % 2=0 by omega,Nat.add_zero]; exact h68,E58,h,k,hbd,C0⟩
  rintro r1 wj ⟨hr1,E58,h,k,hbd,C0⟩
  refine X.seq<|W.sr<|L.k rfl<|L.k rfl<|L.c rfl (c_r1_Cmp hr1 k hbd (by omega) (by omega)) ?_
  rintro _ w9 ⟨rfl,C9⟩
  replace E58:=E58.gr C9;replace h:=h.gr C9;replace k:=k.gr C9;replace hbd:=hbd.gr C9;replace C0:=C0.trans C9;replace hr1:=hr1.gr C9;clear C9
  refine L.v ((R1.ge rfl rfl).asB (c:=decide (val ys≤2 * (val xs / 2 ^ (i + 1) % val ys) + val xs / 2 ^ i % 2)) (by rw [cmpI_ge0,val_toL])) rfl<|L.z<|W.cut (ι:=Value × List Nat) (fun (r2,q2)=>[(0,va),(1,vb),(13,.slice (some ⟨g58,0,none⟩) xs.length xs.length),(14,r2),(15,.int .i64 (((i + 1:Nat):Int) - 1))]) (fun (r2,q2) w_=>q2.length=xs.length∧(∀ x∈q2,x<4294967296)∧val q2=val xs / 2 ^ i / val ys * 2 ^ i∧U32 (g58 :: M) w_ r2 (toL (val xs / 2 ^ i % val ys))∧Blk w_ g58 90 (uarr q2)∧U32 (g58 :: M) w_ va xs∧U32 (g58 :: M) w_ vb ys∧Bd (g58 :: M) w_∧Mod [] w w_) ?_ ?_
  ·
   refine W.cond rfl ?_ ?_
   ·
    intro J86
    try simp only [bq,ne_eq] at J86
    obtain ⟨hg1,hg2⟩:=bit_ge hyp J86;obtain ⟨O1,O2⟩:=bit_or hqx (show i / 32<q.length by omega) hv;have hqj:=hqx _ (List.getElem_mem (show i / 32<q.length by omega))
    have hp2:2 ^ (i % 32)<4294967296:=pow32_le (Nat.mod_lt _ (by decide))
    have hbs:=bit_set (show i / 32<q.length by omega) hv
    refine W.sr<|L.k rfl<|L.k rfl<|L.c rfl (c_r1_Sub hr1 k hbd (by omega) (by omega) (by rw [val_toL]; exact J86)) ?_
    rintro _ w10 ⟨v90,rfl,h90,C10⟩
    replace E58:=E58.gr C10;replace h:=h.gr C10;replace k:=k.gr C10;replace hbd:=hbd.gr C10;replace C0:=C0.trans C10;replace hr1:=hr1.gr C10;clear C10
    rw [val_toL] at h90
    refine L.k rfl<|L.ex rfl rfl<|L.ex rfl rfl<|L.b rfl<|L.z<|W.region<|L.k rfl<|L.k rfl<|L.v ((R1.quo rfl rfl (by decide)).as (j:=((i / 32:Nat):Int)) (quo_m1 (by omega))) rfl<|L.k rfl ?_
    refine L.k rfl<|L.v ((R1.quo rfl rfl (by decide)).as (j:=((i / 32:Nat):Int)) (quo_m1 (by omega))) rfl<|L.v (R1.atO (j:=(i / 32)) rfl rfl Q38 rfl (by omega)) rfl<|L.v (R1.ldO rfl (by assumption) (by omega) tyP90 rfl) rfl<|L.k rfl<|L.v ((R1.rem rfl rfl (by decide)).as (j:=((i % 32:Nat):Int)) (rem_m1)) rfl<|L.v (R1.convIL rfl tyI3 tyI117 (by omega)) rfl<|L.v ((R1.shlW (a:=1) rfl rfl (by omega)).as (j:=((2 ^ (i % 32):Nat):Int)) (by rw [Nat.one_mul,Nat.mod_eq_of_lt hp2])) rfl<|L.v ((R1.orW rfl rfl (by omega) (by omega)).as (j:=((q[i / 32] + 2 ^ (i % 32):Nat):Int)) (congrArg (fun n:Nat=>(n:Int)) O1)) rfl<|L.v (R1.atO (j:=(i / 32)) rfl rfl Q38 rfl (by omega)) rfl<|L.storeU rfl rfl E58 (by omega) tyP90 ?_
    intro w11 E58' C11
    replace h:=h.ms C11;replace k:=k.ms C11;replace hbd:=hbd.gr C11;replace C0:=C0.old1 C11 K58;replace h90:=h90.ms C11;clear C11;replace E58:=E58'; clear E58'
    refine L.nil<|X.join (v90,q.set (i / 32) (q[i / 32] + 2 ^ (i % 32))) ?_ ?_
    · repeat' constructor
    exact ⟨by simpa using hql,set_lt hqx O2,by rw [hbs,hg2],by rw [hg1]; exact h90,E58,h,k,hbd,C0⟩
   intro J86
   try simp only [bq,ne_eq] at J86
   obtain ⟨hg1,hg2⟩:=bit_lt hyp (Nat.lt_of_not_le J86)
   refine W.skip<|X.join (r1,q) ?_ ?_
   · repeat' constructor
   exact ⟨hql,hqx,by rw [hv,hg2,Nat.pow_succ]; grind,by rw [hg1]; exact hr1,E58,h,k,hbd,C0⟩
  rintro ⟨r2,q2⟩ wk ⟨hql2,hqx2,hv2,hr2,E58,h,k,hbd,C0⟩
  refine X.blockEnd<|X.seq<|W.region<|L.k rfl<|L.v ((R1.sub rfl rfl).as (j:=((i:Nat):Int) - 1) (by rw [wrap_i64 (by omega) (by omega)]; omega)) rfl<|L.b rfl<|L.nil<|X.next (i,r2,q2) ?_ ?_ ?_
  · repeat' constructor
  ·
   exact ⟨by omega,hql2,hqx2,hv2,hr2,E58,h,k,hbd,C0⟩
  first | omega | (dsimp only; omega)
 intro J64
 try simp only [bq,ne_eq] at J64
 obtain rfl:m=0:=by omega
 rw [Nat.pow_zero,Nat.div_one,Nat.mul_one] at hv
 rw [Nat.pow_zero,Nat.div_one] at hr
 refine W.brk<|W.seq ?_
 have hU:U32 M w5 (.slice (some ⟨g58,0,none⟩) xs.length xs.length) q:=by
     have hU:=U32.of_blk (M:=M) E58 (hbd0.not K58) (by unfold maxLen; omega) hqx
     rw [hql] at hU; exact hU
 have hrl9:(toL (val xs % val ys)).length≤ys.length:=Nat.le_trans (toL_len_mono (Nat.le_of_lt (Nat.mod_lt _ hyp))) (toL_length_val ys k.2)
 refine W.region<|L.k rfl<|L.c rfl (c_r1_Trim hU (hbd0.gr C0) (by omega)) ?_
 rintro v108 w12 ⟨h108,C12⟩
 replace C0:=C0.trans C12;replace hr:=hr.gr C12;clear C12
 refine L.k rfl<|L.c rfl (c_r1_Trim (M:=M) (N9:=M) (hr.sub (by intro b hb; simp [hb])) (hbd0.gr C0) (by omega)) ?_
 rintro v110 w13 ⟨h110,C13⟩
 replace C0:=C0.trans C13;replace h108:=h108.gr C13;clear C13
 refine L.b rfl<|L.b rfl<|L.b rfl<|L.z<|W.ret<|X.result3 rfl (.tmp rfl (.tmp rfl (.tmp rfl .nil))) ?_
 rw [hv] at h108
 rw [val_toL] at h110
 exact ⟨_,_,rfl,h108,h110,C0⟩
theorem c_r1_DivModE {M : List Nat} {w : World} {va vb : Value} {xs ys : List Nat} (h : U32 M w va xs) (k : U32 M w vb ys) (hbd : Bd M w) (hl1 : xs.length ≤ 1099511627776) (hl2 : ys.length ≤ 1099511627776) (hy : val ys ≠ 0) (hX : 2 < (toL (val xs)).length) (hY : 2 < (toL (val ys)).length) :
    Ret Tryz.prog 90 #[va,vb] w (fun r w'=>∃ v u,r=.tuple #[v,u,.bool true]∧U32 M w' v (toL (val xs / val ys))∧U32 M w' u (toL (val xs % val ys))∧Mod [] w w'):=by
 have hnz:(toL (val ys)).length≠0:=fun h0=>hy (toL_nil.1 (List.eq_nil_of_length_eq_zero h0))
 have hla:=toL_len_40 h.2 hl1;have hlb:=toL_len_40 k.2 hl2;have hbd0:=hbd;have hx:=h.2
 refine Ret.of (vs:=[va,vb]) (n:=111) Tryz.func90 rfl rfl rfl rfl ?_
 have C0:Mod [] w w:=Mod.refl _ _
 refine W.sr<|L.b rfl<|L.b rfl<|L.b rfl<|L.z<|W.seq<|W.sr<|L.k rfl ?_
 refine L.c rfl (c_r1_Trim (by assumption) (by assumption) (by omega)) ?_
 rintro v17 w1 ⟨h17,C1⟩
 replace h:=h.gr C1;replace k:=k.gr C1;replace hbd:=hbd.gr C1;replace C0:=C0.trans C1;clear C1
 refine L.lU rfl (by assumption) Q38<|L.v ((R1.eq rfl rfl).asB (c:=false) (by rw [decide_eq_false_iff_not]; omega)) rfl<|L.z<|W.condF rfl<|W.skip<|X.seq<|W.sr<|L.k rfl<|L.c rfl (c_r1_To0 h hbd (by omega) hX) ?_
 rintro _ w2 ⟨rfl,C2⟩
 replace h:=h.gr C2;replace k:=k.gr C2;replace hbd:=hbd.gr C2;replace C0:=C0.trans C2;replace h17:=h17.gr C2;clear C2
 refine L.k rfl<|L.ex rfl rfl<|L.ex rfl rfl<|L.b rfl<|L.b rfl<|L.z<|W.sr<|L.k rfl<|L.c rfl (c_r1_To0 k hbd (by omega) hY) ?_
 rintro _ w3 ⟨rfl,C3⟩
 replace h:=h.gr C3;replace k:=k.gr C3;replace hbd:=hbd.gr C3;replace C0:=C0.trans C3;replace h17:=h17.gr C3;clear C3
 refine L.k rfl<|L.ex rfl rfl<|L.ex rfl rfl<|L.b rfl<|L.b rfl<|L.z<|W.seq<|W.sr<|L.k rfl ?_
 refine L.k rfl<|L.o rfl<|L.pF rfl rfl<|L.z<|W.condF rfl<|W.skip<|X.seq<|W.seq<|W.seq<|W.region ?_
 refine L.k rfl<|L.k rfl<|L.o rfl<|L.o rfl<|L.pF rfl rfl<|L.z<|W.condF rfl<|W.skip<|X.seq<|W.seq ?_
 refine W.region<|L.k rfl<|L.lU rfl h Q38<|L.makeSlice (m:=xs.length) rfl rfl rfl rfl Q38 tyZ90 (by omega) (by unfold maxLen; omega) rfl ?_
 intro g58 w4 D58
 replace h:=h.new D58;replace k:=k.new D58;replace hbd:=hbd.new D58;have K58:=New.ge D58 C0.size;replace C0:=C0.tn D58;replace h17:=h17.new D58;have E58:=D58.blk;clear D58
 rw [uarr_made] at E58
 refine L.b rfl<|L.z<|W.sr<|L.b rfl<|L.z<|W.seq<|W.seq<|W.region ?_
 refine L.k rfl<|L.lU rfl h Q38<|L.v (R1.mulI (a:=32) rfl rfl (by omega)) rfl<|L.v ((R1.sub rfl rfl).as (j:=((32 * xs.length:Nat):Int) - 1) (by rw [wrap_i64 (by omega) (by omega)])) rfl<|L.b rfl<|L.z<|W.block ?_
 have hA0:val xs / 2 ^ (32 * xs.length)=0:=by rw [← pow32]; exact Nat.div_eq_of_lt (val_lt xs hx)
 have hyp:0<val ys:=Nat.pos_of_ne_zero hy
 refine W.loop (ι:=Nat × Value × List Nat) (fun (m,rv,q)=>[(0,va),(1,vb),(13,.slice (some ⟨g58,0,none⟩) xs.length xs.length),(14,rv),(15,.int .i64 ((m:Int) - 1))]) (fun (m,rv,q) w_=>m≤32 * xs.length∧q.length=xs.length∧(∀ x∈q,x<4294967296)∧val q=val xs / 2 ^ m / val ys * 2 ^ m∧U32 (g58 :: M) w_ rv (toL (val xs / 2 ^ m % val ys))∧Blk w_ g58 90 (uarr q)∧U32 (g58 :: M) w_ va xs∧U32 (g58 :: M) w_ vb ys∧Bd (g58 :: M) w_∧Mod [] w w_) (fun (m,rv,q)=>m) (32 * xs.length,.slice none 0 0,List.replicate xs.length 0) ?_ ?_ ?_
 · repeat' constructor
 ·
  exact ⟨Nat.le_refl _,by simp,rep_lt _,by rw [hA0]; simp [val_replicate],by rw [hA0,Nat.zero_mod,toL_zero]; exact U32.nil,E58,h,k,hbd,C0⟩
 rintro ⟨m,rv,q⟩ w5 ⟨hm,hql,hqx,hv,hr,E58,h,k,hbd,C0⟩
 refine W.seq<|W.sr<|L.k rfl<|L.v (R1.ge rfl rfl) rfl<|L.z<|W.cond rfl ?_ ?_
 ·
  intro J64
  try simp only [bq,ne_eq] at J64
  obtain ⟨i,rfl⟩:∃ i,m=i + 1:=⟨m - 1,by omega⟩
  have hidx:i / 32<xs.length:=by omega
  have hrl:(toL (val xs / 2 ^ (i + 1) % val ys)).length≤ys.length:=Nat.le_trans (toL_len_mono (Nat.le_of_lt (Nat.mod_lt _ hyp))) (toL_length_val ys k.2)
  have hxi:=h.lt hidx
  have hsh:xs[i / 32] / 2 ^ (i % 32)<2 ^ 32:=Nat.lt_of_le_of_lt (Nat.div_le_self _ _) hxi
  have hbit:val xs / 2 ^ i % 2<2:=Nat.mod_lt _ (by decide)
  have hrl2:(toL (2 * (val xs / 2 ^ (i + 1) % val ys) + val xs / 2 ^ i % 2)).length≤ys.length + 1:=by
      refine Nat.le_trans (toL_len_mono (show 2 * (val xs / 2 ^ (i + 1) % val ys) + val xs / 2 ^ i % 2≤val ys + val ys by have:=Nat.mod_lt (val xs / 2 ^ (i + 1)) hyp; omega)) ?_
      exact toL_len_add (toL_length_val ys k.2) (toL_length_val ys k.2)
  have hrl3:(toL (2 * (val xs / 2 ^ (i + 1) % val ys))).length≤ys.length + 1:=Nat.le_trans (toL_len_mono (by omega)) hrl2
  refine W.skip<|X.seq<|W.seq<|W.block<|W.sr<|L.k rfl<|L.c rfl (c_r1_Shift1 hr hbd (by omega)) ?_
  rintro v68 w6 ⟨h68,C6⟩
  replace E58:=E58.gr C6;replace h:=h.gr C6;replace k:=k.gr C6;replace hbd:=hbd.gr C6;replace C0:=C0.trans C6;replace hr:=hr.gr C6;clear C6
  rw [val_toL] at h68
  refine L.b rfl<|L.z<|W.seq<|W.sr<|L.k rfl<|L.k rfl<|L.v ((R1.quo rfl rfl (by decide)).as (j:=((i / 32:Nat):Int)) (quo_m1 (by omega))) rfl<|L.v (R1.atU (j:=(i / 32)) rfl rfl (by assumption) Q38 rfl (by omega)) rfl<|L.v (R1.ldU rfl h tyP90 hidx rfl) rfl ?_
  refine L.k rfl<|L.v ((R1.rem rfl rfl (by decide)).as (j:=((i % 32:Nat):Int)) (rem_m1)) rfl<|L.v (R1.convIL rfl tyI3 tyI117 (by omega)) rfl<|L.v (R1.shrW rfl rfl (by omega)) rfl<|L.v (R1.andW (b:=1) rfl rfl hsh (by decide)) rfl<|L.v ((R1.eq rfl rfl).asB (c:=decide (val xs / 2 ^ i % 2=1)) (by rw [Nat.and_one_is_mod,bit_val hx hidx]; congr 1; apply propext; omega)) rfl<|L.z<|W.cut (ι:=Value) (fun r1=>[(0,va),(1,vb),(13,.slice (some ⟨g58,0,none⟩) xs.length xs.length),(14,r1),(15,.int .i64 (((i + 1:Nat):Int) - 1))]) (fun r1 w_=>U32 (g58 :: M) w_ r1 (toL (2 * (val xs / 2 ^ (i + 1) % val ys) + val xs / 2 ^ i % 2))∧Blk w_ g58 90 (uarr q)∧U32 (g58 :: M) w_ va xs∧U32 (g58 :: M) w_ vb ys∧Bd (g58 :: M) w_∧Mod [] w w_) ?_ ?_
  ·
   refine W.cond rfl ?_ ?_
   ·
    intro J79
    try simp only [bq,ne_eq] at J79
    refine W.region<|L.k rfl ?_
    have hbdz:=hbd
    refine L.build1 rfl rfl Q38 tyZ90 rfl ?_
    intro g81 w7 D81
    replace E58:=E58.gr D81.mod;replace h:=h.gr D81.mod;replace k:=k.gr D81.mod;replace hbd:=hbd.gr D81.mod;replace C0:=C0.trans D81.mod;replace h68:=h68.gr D81.mod
    have hone:U32 (g58 :: M) w7 (.slice (some ⟨g81,0,none⟩) 1 1) [1]:=U32.of_blk (xs:=[1]) D81.blk (hbdz.not (New.ge D81 (Nat.le_refl _))) (by show (1:Nat)≤maxLen; decide) (by simp)
    clear D81
    refine L.c rfl (c_r1_Add h68 hone hbd (by omega) (by simp)) ?_
    rintro v82 w8 ⟨h82,C8⟩
    replace E58:=E58.gr C8;replace h:=h.gr C8;replace k:=k.gr C8;replace hbd:=hbd.gr C8;replace C0:=C0.trans C8;clear C8
    rw [val_toL] at h82
    replace h82:U32 _ _ _ (toL (2 * (val xs / 2 ^ (i + 1) % val ys) + 1)):=h82
    refine L.b rfl<|L.nil<|X.join v82 ?_ ?_
    · repeat' constructor
    exact ⟨by rw [J79]; exact h82,E58,h,k,hbd,C0⟩
   intro J79
   try simp only [bq,ne_eq] at J79
   refine W.skip<|X.join v68 ?_ ?_
   · repeat' constructor
   exact ⟨by rw [show val xs / 2 ^ i % 2=0 by omega,Nat.add_zero]; exact h68,E58,h,k,hbd,C0⟩
  rintro r1 wj ⟨hr1,E58,h,k,hbd,C0⟩
  refine X.seq<|W.sr<|L.k rfl<|L.k rfl<|L.c rfl (c_r1_Cmp hr1 k hbd (by omega) (by omega)) ?_
  rintro _ w9 ⟨rfl,C9⟩
  replace E58:=E58.gr C9;replace h:=h.gr C9;replace k:=k.gr C9;replace hbd:=hbd.gr C9;replace C0:=C0.trans C9;replace hr1:=hr1.gr C9;clear C9
  refine L.v ((R1.ge rfl rfl).asB (c:=decide (val ys≤2 * (val xs / 2 ^ (i + 1) % val ys) + val xs / 2 ^ i % 2)) (by rw [cmpI_ge0,val_toL])) rfl<|L.z<|W.cut (ι:=Value × List Nat) (fun (r2,q2)=>[(0,va),(1,vb),(13,.slice (some ⟨g58,0,none⟩) xs.length xs.length),(14,r2),(15,.int .i64 (((i + 1:Nat):Int) - 1))]) (fun (r2,q2) w_=>q2.length=xs.length∧(∀ x∈q2,x<4294967296)∧val q2=val xs / 2 ^ i / val ys * 2 ^ i∧U32 (g58 :: M) w_ r2 (toL (val xs / 2 ^ i % val ys))∧Blk w_ g58 90 (uarr q2)∧U32 (g58 :: M) w_ va xs∧U32 (g58 :: M) w_ vb ys∧Bd (g58 :: M) w_∧Mod [] w w_) ?_ ?_
  ·
   refine W.cond rfl ?_ ?_
   ·
    intro J86
    try simp only [bq,ne_eq] at J86
    obtain ⟨hg1,hg2⟩:=bit_ge hyp J86;obtain ⟨O1,O2⟩:=bit_or hqx (show i / 32<q.length by omega) hv;have hqj:=hqx _ (List.getElem_mem (show i / 32<q.length by omega))
    have hp2:2 ^ (i % 32)<4294967296:=pow32_le (Nat.mod_lt _ (by decide))
    have hbs:=bit_set (show i / 32<q.length by omega) hv
    refine W.sr<|L.k rfl<|L.k rfl<|L.c rfl (c_r1_Sub hr1 k hbd (by omega) (by omega) (by rw [val_toL]; exact J86)) ?_
    rintro _ w10 ⟨v90,rfl,h90,C10⟩
    replace E58:=E58.gr C10;replace h:=h.gr C10;replace k:=k.gr C10;replace hbd:=hbd.gr C10;replace C0:=C0.trans C10;replace hr1:=hr1.gr C10;clear C10
    rw [val_toL] at h90
    refine L.k rfl<|L.ex rfl rfl<|L.ex rfl rfl<|L.b rfl<|L.z<|W.region<|L.k rfl<|L.k rfl<|L.v ((R1.quo rfl rfl (by decide)).as (j:=((i / 32:Nat):Int)) (quo_m1 (by omega))) rfl<|L.k rfl ?_
    refine L.k rfl<|L.v ((R1.quo rfl rfl (by decide)).as (j:=((i / 32:Nat):Int)) (quo_m1 (by omega))) rfl<|L.v (R1.atO (j:=(i / 32)) rfl rfl Q38 rfl (by omega)) rfl<|L.v (R1.ldO rfl (by assumption) (by omega) tyP90 rfl) rfl<|L.k rfl<|L.v ((R1.rem rfl rfl (by decide)).as (j:=((i % 32:Nat):Int)) (rem_m1)) rfl<|L.v (R1.convIL rfl tyI3 tyI117 (by omega)) rfl<|L.v ((R1.shlW (a:=1) rfl rfl (by omega)).as (j:=((2 ^ (i % 32):Nat):Int)) (by rw [Nat.one_mul,Nat.mod_eq_of_lt hp2])) rfl<|L.v ((R1.orW rfl rfl (by omega) (by omega)).as (j:=((q[i / 32] + 2 ^ (i % 32):Nat):Int)) (congrArg (fun n:Nat=>(n:Int)) O1)) rfl<|L.v (R1.atO (j:=(i / 32)) rfl rfl Q38 rfl (by omega)) rfl<|L.storeU rfl rfl E58 (by omega) tyP90 ?_
    intro w11 E58' C11
    replace h:=h.ms C11;replace k:=k.ms C11;replace hbd:=hbd.gr C11;replace C0:=C0.old1 C11 K58;replace h90:=h90.ms C11;clear C11;replace E58:=E58'; clear E58'
    refine L.nil<|X.join (v90,q.set (i / 32) (q[i / 32] + 2 ^ (i % 32))) ?_ ?_
    · repeat' constructor
    exact ⟨by simpa using hql,set_lt hqx O2,by rw [hbs,hg2],by rw [hg1]; exact h90,E58,h,k,hbd,C0⟩
   intro J86
   try simp only [bq,ne_eq] at J86
   obtain ⟨hg1,hg2⟩:=bit_lt hyp (Nat.lt_of_not_le J86)
   refine W.skip<|X.join (r1,q) ?_ ?_
   · repeat' constructor
   exact ⟨hql,hqx,by rw [hv,hg2,Nat.pow_succ]; grind,by rw [hg1]; exact hr1,E58,h,k,hbd,C0⟩
  rintro ⟨r2,q2⟩ wk ⟨hql2,hqx2,hv2,hr2,E58,h,k,hbd,C0⟩
  refine X.blockEnd<|X.seq<|W.region<|L.k rfl<|L.v ((R1.sub rfl rfl).as (j:=((i:Nat):Int) - 1) (by rw [wrap_i64 (by omega) (by omega)]; omega)) rfl<|L.b rfl<|L.nil<|X.next (i,r2,q2) ?_ ?_ ?_
  · repeat' constructor
  ·
   exact ⟨by omega,hql2,hqx2,hv2,hr2,E58,h,k,hbd,C0⟩
  first | omega | (dsimp only; omega)
 intro J64
 try simp only [bq,ne_eq] at J64
 obtain rfl:m=0:=by omega
 rw [Nat.pow_zero,Nat.div_one,Nat.mul_one] at hv
 rw [Nat.pow_zero,Nat.div_one] at hr
 refine W.brk<|W.seq ?_
 have hU:U32 M w5 (.slice (some ⟨g58,0,none⟩) xs.length xs.length) q:=by
     have hU:=U32.of_blk (M:=M) E58 (hbd0.not K58) (by unfold maxLen; omega) hqx
     rw [hql] at hU; exact hU
 have hrl9:(toL (val xs % val ys)).length≤ys.length:=Nat.le_trans (toL_len_mono (Nat.le_of_lt (Nat.mod_lt _ hyp))) (toL_length_val ys k.2)
 refine W.region<|L.k rfl<|L.c rfl (c_r1_Trim hU (hbd0.gr C0) (by omega)) ?_
 rintro v108 w12 ⟨h108,C12⟩
 replace C0:=C0.trans C12;replace hr:=hr.gr C12;clear C12
 refine L.k rfl<|L.c rfl (c_r1_Trim (M:=M) (N9:=M) (hr.sub (by intro b hb; simp [hb])) (hbd0.gr C0) (by omega)) ?_
 rintro v110 w13 ⟨h110,C13⟩
 replace C0:=C0.trans C13;replace h108:=h108.gr C13;clear C13
 refine L.b rfl<|L.b rfl<|L.b rfl<|L.z<|W.ret<|X.result3 rfl (.tmp rfl (.tmp rfl (.tmp rfl .nil))) ?_
 rw [hv] at h108
 rw [val_toL] at h110
 exact ⟨_,_,rfl,h108,h110,C0⟩
theorem c_r1_DivMod {M : List Nat} {w : World} {va vb : Value} {xs ys : List Nat} (h : U32 M w va xs) (k : U32 M w vb ys) (hbd : Bd M w) (hl1 : xs.length ≤ 1099511627776) (hl2 : ys.length ≤ 1099511627776) (hy : val ys ≠ 0) :
    Ret Tryz.prog 90 #[va,vb] w (fun r w'=>∃ v u,r=.tuple #[v,u,.bool true]∧U32 M w' v (toL (val xs / val ys))∧U32 M w' u (toL (val xs % val ys))∧Mod [] w w'):=by
  rcases Nat.lt_or_ge 2 (toL (val xs)).length with hX | hX <;> rcases Nat.lt_or_ge 2 (toL (val ys)).length with hY | hY
  · exact c_r1_DivModE h k hbd hl1 hl2 hy hX hY
  · rcases Nat.lt_or_ge (val ys) 4294967296 with hB | hB
    · exact c_r1_DivModB h k hbd hl1 hl2 hy hX hY hB
    exact c_r1_DivModC h k hbd hl1 hl2 hy hX hY hB
  · exact c_r1_DivModD h k hbd hl1 hl2 hy hX hY
  exact c_r1_DivModA h k hbd hl1 hl2 hy hX hY
theorem c_r1_Gcd {M : List Nat} {w : World} {va vb : Value} {xs ys : List Nat} (h : U32 M w va xs) (k : U32 M w vb ys) (hbd : Bd M w) (hl1 : xs.length ≤ 1099511627776) (hl2 : ys.length ≤ 1099511627776) :
    Ret Tryz.prog 89 #[va,vb] w (fun r w'=>U32 M w' r (toL (Nat.gcd (val xs) (val ys)))∧Mod [] w w'):=by
 have hla:=toL_len_40 h.2 hl1;have hlb:=toL_len_40 k.2 hl2
 refine Ret.of (vs:=[va,vb]) (n:=27) Tryz.func89 rfl rfl rfl rfl ?_
 have C0:Mod [] w w:=Mod.refl _ _
 refine W.sr<|L.b rfl<|L.z<|W.sr<|L.k rfl<|L.c rfl (c_r1_Trim (by assumption) (by assumption) (by omega)) ?_
 rintro v11 w1 ⟨h11,C1⟩
 replace h:=h.gr C1;replace k:=k.gr C1;replace hbd:=hbd.gr C1;replace C0:=C0.trans C1;clear C1
 refine L.k rfl<|L.c rfl (c_r1_Trim (by assumption) (by assumption) (by omega)) ?_
 rintro v13 w2 ⟨h13,C2⟩
 replace h:=h.gr C2;replace k:=k.gr C2;replace hbd:=hbd.gr C2;replace C0:=C0.trans C2;replace h11:=h11.gr C2;clear C2
 refine L.b rfl<|L.b rfl<|L.z<|W.seq<|W.block<|W.loop (ι:=Nat × Nat × Value × Value) (fun (a,b,u1,u2)=>[(5,u1),(6,u2)]) (fun (a,b,u1,u2) w_=>(toL a).length≤1099511627776∧(toL b).length≤1099511627776∧Nat.gcd a b=Nat.gcd (val xs) (val ys)∧U32 M w_ u1 (toL a)∧U32 M w_ u2 (toL b)∧Bd M w_∧Mod [] w w_) (fun (a,b,u1,u2)=>b) (val xs,val ys,v11,v13) ?_ ?_ ?_
 · exact ⟨rfl,rfl,trivial⟩
 ·
  exact ⟨hla,hlb,rfl,h11,h13,hbd,C0⟩
 rintro ⟨a,b,u1,u2⟩ w3 ⟨hal,hbl,hg,h,k,hbd,C0⟩
 refine W.seq<|W.sr<|L.k rfl<|L.lU rfl (by assumption) Q38<|L.v (R1.gt rfl rfl) rfl<|L.z<|W.cond rfl ?_ ?_
 ·
  intro J16
  try simp only [bq,ne_eq] at J16
  have E0:b≠0:=by
      intro h0
      subst h0
      rw [toL_zero] at J16; simp at J16
  refine W.skip<|X.seq<|W.block<|W.sr<|L.k rfl<|L.k rfl<|L.c rfl (c_r1_DivMod h k hbd (by omega) (by omega) (by rw [val_toL]; exact E0)) ?_
  rintro _ w4 ⟨v20,u20,rfl,h20,k20,C4⟩
  replace k:=k.gr C4;replace hbd:=hbd.gr C4;replace C0:=C0.trans C4;clear C4
  rw [val_toL,val_toL] at k20
  refine L.k rfl<|L.ex rfl rfl<|L.ex rfl rfl<|L.ex rfl rfl<|L.b rfl<|L.b rfl<|L.b rfl<|L.z<|W.region<|L.k rfl ?_
  refine L.k rfl<|L.b rfl<|L.b rfl<|L.nil<|X.blockEnd<|X.next (b,a % b,u2,u20) ?_ ?_ ?_
  · exact ⟨rfl,rfl,trivial⟩
  ·
   exact ⟨hbl,Nat.le_trans (toL_len_mono (Nat.le_of_lt (Nat.mod_lt _ (Nat.pos_of_ne_zero E0)))) hbl,by rw [← hg,Nat.gcd_comm a b,Nat.gcd_rec b a,Nat.gcd_comm],k,k20,hbd,C0⟩
  exact Nat.mod_lt _ (Nat.pos_of_ne_zero E0)
 intro J16
 try simp only [bq,ne_eq] at J16
 have E0:b=0:=toL_nil.1 (List.eq_nil_of_length_eq_zero (by omega))
 subst E0
 rw [Nat.gcd_zero_right] at hg
 refine W.brk<|W.sr<|L.k rfl<|L.b rfl<|L.z ?_
 refine W.ret<|X.result1 rfl (.tmp rfl .nil) ?_
 exact ⟨by rw [← hg]; exact h,C0⟩
end Go.Proofs.YthoooolflmbmbaaGreat
