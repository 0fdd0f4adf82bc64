/- Walks: what the functions compute. -/
import Derived.Test.YthoooolflmbmbaaGreatDeC
namespace Go.Proofs.YthoooolflmbmbaaGreat
open Go.RowKit
set_option linter.unusedVariables false
set_option linter.unusedSimpArgs false
set_option maxRecDepth 10000
theorem takenB {n k:Nat} {bs:List Bool} {ts:List TR} {t:TR} {T:List Nat} (hl:n=bs.length) (hbs:∀ x,x<n→bs.getD x false=decide (x∈takenL ts k T)) (h:ts[k]?=some t) (ht:t.v.toNat<n):∀ x,x<n→(bs.set t.v.toNat true).getD x false=decide (x∈takenL ts (k + 1) T):=fun x hx=>by
  obtain ⟨h1,rfl⟩:=List.getElem?_eq_some_iff.1 h;have h2:=hbs x hx
  unfold takenL at h2 ⊢
  rw [List.take_succ_eq_append_getElem h1]
  rw [List.getD_eq_getElem?_getD,List.getElem?_set]
  by_cases e:ts[k].v.toNat=x
  · subst e
    rw [if_pos rfl,if_pos (by omega)]
    refine (decide_eq_true ?_).symm
    rw [List.map_append]
    exact List.mem_append_left _ (List.mem_append_right _ (by simp))
  rw [if_neg e,← List.getD_eq_getElem?_getD,h2,decide_eq_decide]
  simp only [List.map_append,List.map_cons,List.map_nil,List.mem_append,List.mem_cons,List.not_mem_nil,or_false]
  constructor
  · rintro (h3 | h3)
    · exact .inl (.inl h3)
    exact .inr h3
  rintro ((h3 | h3) | h3)
  · exact .inl h3
  · exact absurd h3.symm e
  exact .inr h3
theorem c_r13_enforce {M : List Nat} {w : World} {n B : Nat} {vl v1 : Value} {cs : List CR} {o0 : List Int} (hL : Lay rdC (ownL v1 ++ M) w vl cs) (O1 : w.ownsRow B 3 1 v1 cs.length (intsZ o0)) (hC0 : ChoZ n cs o0) {i0 : Nat} (hi0 : i0 < cs.length) (hno0 : o0.getD i0 0 = -1) (hn : n ≤ 64) :
    Ret Tryz.prog 50 #[vl,v1,.int .i64 ((i0:Nat):Int),.int .i64 ((n:Nat):Int)] w (fun r w'=>w'.ownsRow B 3 1 v1 cs.length (intsZ (enfZ n cs o0 i0))∧Mod (ownL v1) w w'):=by
 obtain ⟨TL,tL,rfl⟩:=hL.form;have hmaxL:=hL.max; unfold maxLen at hmaxL
 refine Ret.of (vs:=[.slice TL cs.length tL,v1,.int .i64 ((i0:Nat):Int),.int .i64 ((n:Nat):Int)]) (n:=96) Tryz.func50 rfl rfl rfl rfl ?_
 have C0:Mod (ownL v1) w w:=Mod.refl _ _
 refine W.sr<|L.k rfl<|L.makeSlice (m:=n) rfl rfl rfl rfl Q110 tyZ4 (by omega) (by unfold maxLen; omega) rfl ?_
 intro g17 w1 D17
 have hoT:=own_madeB (B:=w.heap.size) D17 C0.size (by unfold maxLen; omega);replace hL:=hL.new D17
 have haw_ho1_hoT:Away _ (.slice (some ⟨g17,0,none⟩) n n):=own_away_new O1 D17
 replace O1:=own_gs O1 D17.mod;replace C0:=C0.tn D17;clear D17
 obtain ⟨v17,hv_v17⟩:∃ v,v=Value.slice (some ⟨g17,0,none⟩) n n:=⟨_,rfl⟩
 have hol_v17:ownL v17=[g17]:=by rw [hv_v17]; rfl
 rw [← hv_v17] at hoT ⊢
 replace hL:=hL.sub (of_cons hol_v17)
 rw [← hv_v17] at haw_ho1_hoT
 clear hv_v17 hol_v17
 refine L.b rfl<|L.z<|W.block<|W.loop (ι:=Nat × List Int × Option Nat × List Nat × List Bool) (fun (f,o,oi,T,bs)=>[(0,.slice TL cs.length tL),(1,v1),(2,.int .i64 (fi oi)),(8,v17)]) (fun (f,o,oi,T,bs) w_=>Lay rdC (ownL v17 ++ (ownL v1 ++ M)) w_ (.slice TL cs.length tL) cs∧w_.ownsRow B 3 1 v1 cs.length (intsZ o)∧w_.ownsRow w.heap.size 4 1 v17 n (boolsV bs)∧(∀ x,x<n→bs.getD x false=decide (x∈T))∧EI n cs o0 i0 f o oi T∧Mod (ownL v1) w w_) (fun (f,o,oi,T,bs)=>f) (n + 1,o0,some i0,[],List.replicate n false) ?_ ?_ ?_
 · repeat' constructor
 ·
  exact ⟨hL.su,O1,hoT,(fun x hx=>by simp [List.getD_eq_getElem?_getD,hx]),EI.start hC0 hi0 hno0,C0⟩
 rintro ⟨f,o,oi,T,bs⟩ w2 ⟨hL,O1,hoT,hbs,hE,C0⟩
 refine W.seq<|W.sr<|L.k rfl<|L.v ((R1.ge rfl rfl).asB (c:=(decide (oi≠none))) (fi_geq _)) rfl<|L.z<|W.cond rfl ?_ ?_
 ·
  intro J19
  try simp only [bq,ne_eq] at J19
  obtain ⟨i,rfl⟩:=Option.ne_none_iff_exists'.1 J19;obtain ⟨hC,hi,hnoi,hf0⟩:=hE.cho hC0
  refine W.skip<|X.seq<|W.block<|W.seq<|W.drawW (T:=[]) rfl (by decide +kernel) (NoHang.then (NoHang.block (NoHang.next (NoHang.block NoHang.post)))) (fun w3 C3=>?_)
  replace hL:=hL.gr C3;replace O1:=own_gs O1 C3;replace hoT:=own_gs hoT C3;replace C0:=C0.trans (C3.mono (by simp))
  have G1:Mod [] w3 w3:=Mod.refl _ _
  clear C3
  refine D.z 0 rfl (by kernel_rfl) rfl G1<|D.z 1 rfl (by kernel_rfl) rfl G1<|D.t 2 rfl (by kernel_rfl) (fun _ hS=>R1.atLay (j:=i) rfl rfl (Lay.gr hL hS) Q22 rfl hi) G1<|D.t 3 rfl (by kernel_rfl) (fun _ hS=>R1.fieldAddr rfl tyF42_0) G1 ?_
  obtain ⟨z24,cs24,P24,V24,vt24,ds24,rfl,Y24,vn24,vd24,rfl,I24,H24⟩:=Lay.elemQ hL (j:=i) hi;obtain ⟨T24,t24,rfl⟩:=Y24.form;obtain ⟨A24,c24,rfl⟩:=I24.form;obtain ⟨B24,e24,rfl⟩:=H24.form
  refine D.t 4 rfl (by kernel_rfl) (fun _ hS=>R1.loadEF rfl (SlE.gr V24 hS) rfl tyP3) G1 ?_
  have hmax24:=Y24.max; unfold maxLen at hmax24
  refine D.t 5 rfl (by kernel_rfl) (fun _ hS=>R1.assign rfl) G1<|D.t 6 rfl (by kernel_rfl) (fun _ hS=>R1.assign rfl) G1<|D.done (by decide +kernel) ?_ _
  refine X.seq<|W.seq<|W.sr<|L.b rfl<|L.z<|W.block<|W.loop (ι:=Nat × (Option Nat × Int)) (fun (k,b)=>[(0,.slice TL cs.length tL),(1,v1),(2,.int .i64 ((i:Nat):Int)),(8,v17),(9,.int .i64 (fi b.1)),(10,.int .i64 b.2),(11,.int .i64 ((k:Nat):Int))]) (fun (k,b) w_=>Lay rdC (ownL v17 ++ (ownL v1 ++ M)) w_ (.slice TL cs.length tL) cs∧w_.ownsRow B 3 1 v1 cs.length (intsZ o)∧w_.ownsRow w.heap.size 4 1 v17 n (boolsV bs)∧k≤z24.ts.length∧b=(wkL n cs o T (z24.ts.take k) (none,z24.st))∧Mod (ownL v1) w w_) (fun (k,b)=>z24.ts.length - k) (0,(none,z24.st)) ?_ ?_ ?_
  · repeat' constructor
  ·
   exact ⟨hL.su,O1,hoT,Nat.zero_le _,rfl,C0⟩
  rintro ⟨k,b⟩ w4 ⟨hL,O1,hoT,hk,hbk,C0⟩
  refine W.seq<|W.sr<|L.k rfl<|L.k rfl<|L.k rfl<|L.aL (j:=i) rfl rfl hL Q22 rfl hi<|L.v (R1.fieldAddr rfl tyF42_1) rfl ?_
  obtain ⟨z30,cs30,P30,V30,vt30,ds30,rfl,Y30,vn30,vd30,rfl,I30,H30⟩:=Lay.elemQ hL (j:=i) hi;obtain ⟨T30,t30,rfl⟩:=Y30.form;obtain ⟨A30,c30,rfl⟩:=I30.form;obtain ⟨B30,e30,rfl⟩:=H30.form
  obtain rfl:z24=z30:=by have h9:=P30; rw [P24] at h9; injection h9
  refine L.v (R1.loadEF rfl V30 rfl tyP37) rfl<|L.lL rfl Y30 Q37<|L.lt rfl rfl<|L.z<|W.cond rfl ?_ ?_
  ·
   intro J32
   try simp only [bq,ne_eq] at J32
   refine W.skip<|X.seq<|W.seq<|W.block<|W.sr<|L.k rfl<|L.k rfl<|L.aL (j:=i) rfl rfl hL Q22 rfl hi<|L.v (R1.fieldAddr rfl tyF42_1) rfl ?_
   obtain ⟨z39,cs39,P39,V39,vt39,ds39,rfl,Y39,vn39,vd39,rfl,I39,H39⟩:=Lay.elemQ hL (j:=i) hi;obtain ⟨T39,t39,rfl⟩:=Y39.form;obtain ⟨A39,c39,rfl⟩:=I39.form;obtain ⟨B39,e39,rfl⟩:=H39.form
   obtain rfl:z24=z39:=by have h9:=P39; rw [P24] at h9; injection h9
   refine L.v (R1.loadEF rfl V39 rfl tyP37) rfl<|L.k rfl<|L.aL (j:=k) rfl rfl Y39 Q37 rfl (by omega)<|L.v (R1.fieldAddr rfl tyF47_0) rfl ?_
   obtain ⟨z43,cs43,P43,V43,ds43,rfl,vn43,vd43,rfl,I43,H43⟩:=Lay.elemQ Y39 (j:=k) (by omega);obtain ⟨A43,c43,rfl⟩:=I43.form;obtain ⟨B43,e43,rfl⟩:=H43.form
   refine L.v ((R1.loadEF rfl V43 rfl tyP3).asV (v:=.int .i64 ((z43.v.toNat:Nat):Int)) (by rw [Int.toNat_of_nonneg (hC.var P24 (List.mem_of_getElem? P43)).2])) rfl ?_
   obtain ⟨H1,H2⟩:=hC.var P24 (List.mem_of_getElem? P43)
   refine L.b rfl<|L.z<|W.sr<|L.k rfl<|L.k rfl<|L.k rfl ?_
   have hO9:=Lay.of_Z (M:=[]) O1 (by simp)
   refine L.c rfl (c_walk hL hO9 hC H1) ?_
   rintro _ w5 ⟨rfl,C5⟩
   replace hL:=hL.gr C5;replace O1:=own_gs O1 C5;replace hoT:=own_gs hoT C5;replace C0:=C0.trans (C5.mono (by simp));clear C5
   refine L.b rfl<|L.z<|W.sr<|L.k rfl<|L.k rfl<|L.v (R1.atOwn (i:=z43.v.toNat) rfl rfl hoT Q110 rfl H1) rfl<|L.v (R1.ldBo rfl hoT H1 tyP4) rfl<|L.v (R1.not rfl) rfl<|L.k rfl ?_
   cases W53:(!(bs.getD z43.v.toNat false))
   ·
    simp only [Bool.not_eq_true',Bool.not_eq_false'] at W53
    rw [hbs _ H1,decide_eq_true_eq] at W53
    refine L.o rfl<|L.o rfl<|L.o rfl<|L.pF rfl rfl<|L.z<|W.condF rfl<|W.skip<|X.blockEnd<|X.seq<|W.region ?_
    refine L.k rfl<|L.inc rfl rfl (by omega)<|L.b rfl<|L.nil<|X.next (k + 1,b) ?_ ?_ ?_
    · repeat' constructor
    ·
     have hsn:=wkL_snoc (n:=n) (cs:=cs) (o:=o) (T:=T) (b:=(none,z24.st)) P43
     rw [if_neg (fun h9=>h9.1 W53)] at hsn
     exact ⟨hL.su,O1,hoT,by omega,by rw [hsn,hbk],C0⟩
    first | omega | (dsimp only; omega)
   simp only [Bool.not_eq_true',Bool.not_eq_false'] at W53
   rw [hbs _ H1,decide_eq_false_iff_not] at W53
   refine L.p rfl (R1.move rfl)<|L.p rfl (R1.move rfl)<|L.p rfl ((R1.gt rfl rfl).asB (c:=(decide (b.2<(strZ n cs o z43.v.toNat)))) (rfl))<|L.pT rfl rfl<|L.z<|W.cond rfl ?_ ?_
   ·
    intro J57
    try simp only [bq,ne_eq] at J57
    refine W.region<|L.k rfl<|L.k rfl<|L.b rfl<|L.b rfl<|L.nil<|X.blockEnd<|X.seq<|W.region<|L.k rfl<|L.inc rfl rfl (by omega) ?_
    refine L.b rfl<|L.nil<|X.next (k + 1,(some z43.v.toNat,(strZ n cs o z43.v.toNat))) ?_ ?_ ?_
    · repeat' constructor
    ·
     have hsn:=wkL_snoc (n:=n) (cs:=cs) (o:=o) (T:=T) (b:=(none,z24.st)) P43
     rw [if_pos ⟨W53,by rw [← hbk]; exact J57⟩] at hsn
     exact ⟨hL.su,O1,hoT,by omega,hsn.symm,C0⟩
    first | omega | (dsimp only; omega)
   intro J57
   try simp only [bq,ne_eq] at J57
   refine W.skip<|X.blockEnd<|X.seq<|W.region<|L.k rfl<|L.inc rfl rfl (by omega)<|L.b rfl<|L.nil<|X.next (k + 1,b) ?_ ?_ ?_
   · repeat' constructor
   ·
    have hsn:=wkL_snoc (n:=n) (cs:=cs) (o:=o) (T:=T) (b:=(none,z24.st)) P43
    rw [if_neg (fun h9=>absurd h9.2 (by rw [← hbk]; omega))] at hsn
    exact ⟨hL.su,O1,hoT,by omega,by rw [hsn,hbk],C0⟩
   first | omega | (dsimp only; omega)
  intro J32
  try simp only [bq,ne_eq] at J32
  obtain rfl:k=z24.ts.length:=by omega
  have hwb:wkZ n cs o i T=b.1:=by rw [hC.wk_ P24,hbk,List.take_length]
  refine W.brk<|W.seq<|W.sr<|L.k rfl<|L.v ((R1.lt rfl rfl).asB (c:=(decide (b.1=none))) (fi_neg _)) rfl<|L.nil ?_
  refine X.seq<|W.cond rfl ?_ ?_
  ·
   intro J61
   try simp only [bq,ne_eq] at J61
   have hEo:=hE.stop (hwb.trans J61)
   refine W.ret<|X.thenRet<|X.blockRet<|X.nextRet<|X.blockRet<|X.result0 rfl ?_
   rw [hEo] at O1
   exact ⟨O1,C0⟩
  intro J61
  try simp only [bq,ne_eq] at J61
  obtain ⟨v,hvb⟩:=Option.ne_none_iff_exists'.1 J61;have hwk:=hwb.trans hvb;have hv:=hC.wk_lt P24 hwk
  have hfv:fi b.1=(v:Int):=by rw [hvb]; rfl
  obtain ⟨V2,hby⟩:=hE.next hC0 hi0 hno0 P24 hwk;have hol:=hC.len
  refine W.skip<|X.seq<|W.sr<|L.k rfl<|L.v ((R1.move rfl).asV (v:=.int .i64 ((v:Nat):Int)) (by rw [hfv])) rfl ?_
  have hO9:=Lay.of_Z (M:=[]) O1 (by simp)
  refine L.c rfl (c_who hO9) ?_
  rintro _ w6 ⟨rfl,C6⟩
  replace hL:=hL.gr C6;replace O1:=own_gs O1 C6;replace hoT:=own_gs hoT C6;replace C0:=C0.trans (C6.mono (by simp));replace Y30:=Y30.gr C6;replace I30:=I30.gr C6;replace H30:=H30.gr C6;clear C6
  refine L.b rfl<|L.z<|W.seq<|W.sr<|L.k rfl<|L.v ((R1.ge rfl rfl).asB (c:=(decide (who o v≠none))) (fi_geq _)) rfl<|L.z<|W.cut (ι:=Unit) (fun _=>[(0,.slice TL cs.length tL),(1,v1),(2,.int .i64 ((i:Nat):Int)),(8,v17),(9,.int .i64 (fi b.1)),(14,.int .i64 (fi (who o v)))]) (fun _ w_=>Lay rdC (ownL v17 ++ (ownL v1 ++ M)) w_ (.slice TL cs.length tL) cs∧w_.ownsRow B 3 1 v1 cs.length (intsZ (outP o (who o v)))∧w_.ownsRow w.heap.size 4 1 v17 n (boolsV bs)∧Mod (ownL v1) w w_) ?_ ?_
  ·
   refine W.cond rfl ?_ ?_
   ·
    intro J66
    try simp only [bq,ne_eq] at J66
    obtain ⟨j,hwj⟩:=Option.ne_none_iff_exists'.1 J66;have hj:=hC.lt hwj
    have hfj:fi (who o v)=(j:Int):=by rw [hwj]; rfl
    refine W.region<|L.k rfl<|L.k rfl<|L.v (R1.atOwn (i:=j) rfl rfl O1 Q26 hfj hj) rfl<|L.storeZ rfl rfl O1 hj tyP3 ?_
    intro w7 O1' C7
    replace hL:=hL.mo C7;replace hoT:=own_away (s':=1) (el':=0) (k':=0) (B':=0) (ys:=[]) hoT C7 (by first | assumption | exact Away.symm (by assumption));replace C0:=C0.trans (C7.mono (by intro b hb; simp [hb]));replace Y30:=Y30.mo C7;replace I30:=I30.mo C7;replace H30:=H30.mo C7;clear C7;replace O1:=O1'; clear O1'
    refine L.nil<|X.join () ?_ ?_
    · repeat' constructor
    exact ⟨hL.su,by rw [hwj]; exact O1,hoT,C0⟩
   intro J66
   try simp only [bq,ne_eq] at J66
   refine W.skip<|X.join () ?_ ?_
   · repeat' constructor
   exact ⟨hL.su,by rw [J66]; exact O1,hoT,C0⟩
  rintro _ wj ⟨hL,O1,hoT,C0⟩
  refine X.seq<|W.sr<|L.k rfl<|L.k rfl<|L.k rfl<|L.v (R1.atOwn (i:=i) rfl rfl O1 Q26 rfl hi) rfl<|L.storeZ rfl rfl O1 hi tyP3 ?_
  intro w8 O1' C8
  replace hL:=hL.mo C8;replace hoT:=own_away (s':=1) (el':=0) (k':=0) (B':=0) (ys:=[]) hoT C8 (by first | assumption | exact Away.symm (by assumption));replace C0:=C0.trans (C8.mono (by intro b hb; simp [hb]));clear C8;replace O1:=O1'; clear O1'
  refine L.z<|W.seq<|W.sr<|L.b rfl<|L.z<|W.block<|W.loop (ι:=Nat × List Bool) (fun (k,bs2)=>[(0,.slice TL cs.length tL),(1,v1),(2,.int .i64 ((i:Nat):Int)),(8,v17),(14,.int .i64 (fi (who o v))),(15,.int .i64 ((k:Nat):Int))]) (fun (k,bs2) w_=>Lay rdC (ownL v17 ++ (ownL v1 ++ M)) w_ (.slice TL cs.length tL) cs∧w_.ownsRow B 3 1 v1 cs.length (intsZ ((outP o (who o v)).set i (v:Int)))∧w_.ownsRow w.heap.size 4 1 v17 n (boolsV bs2)∧(∀ x,x<n→bs2.getD x false=decide (x∈(takenL z24.ts k T)))∧k≤z24.ts.length∧Mod (ownL v1) w w_) (fun (k,bs2)=>z24.ts.length - k) (0,bs) ?_ ?_ ?_
  · repeat' constructor
  ·
   exact ⟨hL.su,by rw [hfv] at O1; exact O1,hoT,hbs,Nat.zero_le _,C0⟩
  rintro ⟨k,bs2⟩ w9 ⟨hL,O1,hoT,hbs,hk,C0⟩
  refine W.seq<|W.sr<|L.k rfl<|L.k rfl<|L.k rfl<|L.aL (j:=i) rfl rfl hL Q22 rfl hi<|L.v (R1.fieldAddr rfl tyF42_1) rfl ?_
  obtain ⟨z79,cs79,P79,V79,vt79,ds79,rfl,Y79,vn79,vd79,rfl,I79,H79⟩:=Lay.elemQ hL (j:=i) hi;obtain ⟨T79,t79,rfl⟩:=Y79.form;obtain ⟨A79,c79,rfl⟩:=I79.form;obtain ⟨B79,e79,rfl⟩:=H79.form
  obtain rfl:z24=z79:=by have h9:=P79; rw [P24] at h9; injection h9
  refine L.v (R1.loadEF rfl V79 rfl tyP37) rfl<|L.lL rfl Y79 Q37<|L.lt rfl rfl<|L.z<|W.cond rfl ?_ ?_
  ·
   intro J81
   try simp only [bq,ne_eq] at J81
   refine W.skip<|X.seq<|W.seq<|W.block<|W.region<|L.k rfl<|L.k rfl<|L.k rfl<|L.aL (j:=i) rfl rfl hL Q22 rfl hi<|L.v (R1.fieldAddr rfl tyF42_1) rfl ?_
   obtain ⟨z89,cs89,P89,V89,vt89,ds89,rfl,Y89,vn89,vd89,rfl,I89,H89⟩:=Lay.elemQ hL (j:=i) hi;obtain ⟨T89,t89,rfl⟩:=Y89.form;obtain ⟨A89,c89,rfl⟩:=I89.form;obtain ⟨B89,e89,rfl⟩:=H89.form
   obtain rfl:z24=z89:=by have h9:=P89; rw [P24] at h9; injection h9
   refine L.v (R1.loadEF rfl V89 rfl tyP37) rfl<|L.k rfl<|L.aL (j:=k) rfl rfl Y89 Q37 rfl (by omega)<|L.v (R1.fieldAddr rfl tyF47_0) rfl ?_
   obtain ⟨z93,cs93,P93,V93,ds93,rfl,vn93,vd93,rfl,I93,H93⟩:=Lay.elemQ Y89 (j:=k) (by omega);obtain ⟨A93,c93,rfl⟩:=I93.form;obtain ⟨B93,e93,rfl⟩:=H93.form
   refine L.v (R1.loadEF rfl V93 rfl tyP3) rfl ?_
   obtain ⟨H1,H2⟩:=hC.var P24 (List.mem_of_getElem? P93)
   refine L.v (R1.atOwn (i:=z93.v.toNat) rfl rfl hoT Q110 (Int.toNat_of_nonneg H2).symm H1) rfl<|L.storeBo rfl rfl hoT H1 tyP4 ?_
   intro w10 hoT' C10
   replace hL:=hL.mo C10;replace O1:=own_away (s':=1) (el':=0) (k':=0) (B':=0) (ys:=[]) O1 C10 (by first | assumption | exact Away.symm (by assumption));replace C0:=Mod.oldOwn C0 C10 hoT;replace Y79:=Y79.mo C10;replace I79:=I79.mo C10;replace H79:=H79.mo C10;replace Y89:=Y89.mo C10;replace I89:=I89.mo C10;replace H89:=H89.mo C10;replace I93:=I93.mo C10;replace H93:=H93.mo C10;clear C10;replace hoT:=hoT'; clear hoT'
   refine L.nil<|X.blockEnd<|X.seq<|W.region<|L.k rfl<|L.inc rfl rfl (by omega)<|L.b rfl<|L.nil ?_
   have hlb:n=bs2.length:=by have h9:=own_lenB hoT; rw [List.length_set] at h9; exact h9
   refine X.next (k + 1,bs2.set z93.v.toNat true) ?_ ?_ ?_
   · repeat' constructor
   ·
    exact ⟨hL.su,O1,hoT,takenB hlb hbs P93 H1,by omega,C0⟩
   first | omega | (dsimp only; omega)
  intro J81
  try simp only [bq,ne_eq] at J81
  obtain rfl:k=z24.ts.length:=by omega
  refine W.brk<|W.region<|L.k rfl<|L.b rfl<|L.nil<|X.blockEnd<|X.next (f - 1,((outP o (who o v)).set i (v:Int)),who o v,vsOf z24 ++ T,bs2) ?_ ?_ ?_
  · repeat' constructor
  ·
   exact ⟨hL.su,O1,hoT,(by rw [takenL_full] at hbs; exact hbs),V2,C0⟩
  first | omega | (dsimp only; omega)
 intro J19
 try simp only [bq,ne_eq] at J19
 subst J19
 refine W.exit<|X.thenExit<|X.nextExit<|X.here<|X.fall0 rfl ?_
 rw [show o=enfZ n cs o0 i0 from hE] at O1
 exact ⟨O1,C0⟩
theorem ext_getD {xs ys:List Int} (h:xs.length=ys.length) (h2:∀ j,j<xs.length→xs.getD j 0=ys.getD j 0):xs=ys:=by
  apply List.ext_getElem h
  intro i h3 h4
  have:=h2 i h3
  rwa [List.getD_eq_getElem?_getD,List.getD_eq_getElem?_getD,List.getElem?_eq_getElem h3,List.getElem?_eq_getElem h4] at this
def cmpZ (a b:Int):Int:=if a<b then -1 else if b<a then 1 else 0
theorem cmpZ_neg (a b:Int):decide (cmpZ a b<0)=decide (a<b):=by
  rw [decide_eq_decide]; unfold cmpZ; split <;> (try split) <;> omega
def CmpT (P:Program) (w:World) (f:FuncId) (us:List Value) (m:Nat) (ss:List Int) (G:List Nat):Prop:=∀ (w1:World) (a b:Nat),a<m→b<m→Mod G w w1→Ret P f ([Value.int .i64 (a:Int),Value.int .i64 (b:Int)] ++ us).toArray w1 (fun r w2=>r=.int .i64 (cmpZ (ss.getD a 0) (ss.getD b 0))∧Mod [] w1 w2)
theorem CmpT.mod {P:Program} {w w':World} {f:FuncId} {us:List Value} {m:Nat} {ss:List Int} {G:List Nat} (h:CmpT P w f us m ss G) (hm:Mod [] w w'):CmpT P w' f us m ss G:=fun w1 a b ha hb C1=>h w1 a b ha hb ((hm.mono (by simp)).trans C1)
theorem getD_mid {A B:List Nat} {x:Nat}:(A ++ x :: B).getD A.length 0=x:=by simp [List.getD_eq_getElem?_getD]
theorem getD_ahead {A B:List Nat} {x y:Nat}:((A ++ [y]) ++ x :: B).getD A.length 0=y:=by simp [List.getD_eq_getElem?_getD]
theorem set_swap {A B:List Nat} {x y:Nat}:(((A ++ [y]) ++ x :: B).set (A ++ [y]).length y).set A.length x=A ++ x :: y :: B:=by
  rw [List.set_append_right _ _ (Nat.le_refl _)]
  simp
theorem drop_range {n i:Nat} (h:i<n):(List.range n).drop i=i :: (List.range n).drop (i + 1):=by
  rw [List.drop_eq_getElem_cons (by simpa using h)]; simp
theorem Srt.start {ss:List Int} {n:Nat}:Srt ss (min 1 n) ((List.range n).take 1):=by
  cases n with
  | zero=>exact ⟨by simp,by simp⟩
  | succ n =>
    have e:min 1 (n + 1)=1:=by omega
    rw [e,List.range_succ_eq_map]
    exact ⟨by simp,fun x=>by simp⟩
theorem Srt.len {ss:List Int} {n:Nat} {A:List Nat} (h:Srt ss n A):A.length=n:=by
  have:=(Srt.ins (m:=n) h).len
  simpa using this
theorem snoc_inj {A C:List Nat} {x y:Nat} (h:A ++ [x]=C ++ [y]):x=y:=by
  have h8:=(List.append_inj' h rfl).2
  simpa using h8
theorem snoc_of {A:List Nat} (h:0<A.length):∃ A0 y,A=A0 ++ [y]:=by
  rcases List.eq_nil_or_concat A with e | ⟨A0,y,e⟩
  · subst e; cases h
  exact ⟨A0,y,by rw [e,List.concat_eq_append]⟩
theorem Ins.all {m:Nat} {ss:List Int} {i:Nat} {A B:List Nat} (h:Ins m ss i A B) (h2:∀ (A0:List Nat) (y:Nat),A=A0 ++ [y]→ss.getD y 0≤ss.getD i 0) {n:Nat} (hi:i<n):Srt ss (min (i + 1) n) (A ++ i :: B):=by
  rw [Nat.min_eq_left hi]; exact h.done h2
theorem c_isNaN {w : World} {a : Int} :
    Ret Tryz.prog 72 #[.int .i64 a] w (fun r w'=>r=.bool false∧Mod [] w w'):=by
 refine Ret.of (vs:=[.int .i64 a]) (n:=6) Tryz.func72 rfl rfl rfl rfl ?_
 have C0:Mod [] w w:=Mod.refl _ _
 refine W.sr<|L.b rfl<|L.z<|W.sr<|L.k rfl<|L.k rfl<|L.v ((R1.ne rfl rfl).asB (c:=false) (by simp)) rfl<|L.b rfl ?_
 refine L.z<|W.ret<|X.result1 rfl (.tmp rfl .nil) ?_
 exact ⟨rfl,C0⟩
theorem c_Compare {w : World} {a b : Int} :
    Ret Tryz.prog 37 #[.int .i64 a,.int .i64 b] w (fun r w'=>r=.int .i64 (cmpZ a b)∧Mod [] w w'):=by
 refine Ret.of (vs:=[.int .i64 a,.int .i64 b]) (n:=20) Tryz.func37 rfl rfl rfl rfl ?_
 have C0:Mod [] w w:=Mod.refl _ _
 refine W.sr<|L.b rfl<|L.z<|W.sr<|L.k rfl<|L.c rfl (c_isNaN) ?_
 rintro _ w1 ⟨rfl,C1⟩
 replace C0:=C0.trans C1;clear C1
 refine L.b rfl<|L.z<|W.sr<|L.k rfl<|L.c rfl (c_isNaN) ?_
 rintro _ w2 ⟨rfl,C2⟩
 replace C0:=C0.trans C2;clear C2
 refine L.b rfl<|L.z<|W.seq<|W.sr<|L.k rfl<|L.z<|W.condF rfl<|W.skip ?_
 refine X.seq<|W.seq<|W.sr<|L.k rfl<|L.z<|W.condF rfl<|W.skip<|X.seq<|W.seq ?_
 refine W.sr<|L.k rfl<|L.k rfl<|L.lt rfl rfl<|L.z<|W.cond rfl ?_ ?_
 ·
  intro J16
  try simp only [bq,ne_eq] at J16
  refine W.sr<|L.b rfl<|L.z<|W.ret<|X.thenRet<|X.result1 rfl (.tmp rfl .nil) ?_
  rw [show cmpZ a b=-1 from if_pos J16]
  exact ⟨rfl,C0⟩
 intro J16
 try simp only [bq,ne_eq] at J16
 refine W.skip<|X.seq<|W.seq<|W.sr<|L.k rfl<|L.k rfl<|L.v (R1.gt rfl rfl) rfl<|L.z<|W.cond rfl ?_ ?_
 ·
  intro J19
  try simp only [bq,ne_eq] at J19
  refine W.sr<|L.b rfl<|L.z<|W.ret<|X.thenRet<|X.result1 rfl (.tmp rfl .nil) ?_
  rw [show cmpZ a b=1 by unfold cmpZ; rw [if_neg (by omega),if_pos (by omega)]]
  exact ⟨rfl,C0⟩
 intro J19
 try simp only [bq,ne_eq] at J19
 refine W.skip<|X.seq<|W.sr<|L.b rfl<|L.z<|W.ret<|X.result1 rfl (.tmp rfl .nil) ?_
 rw [show cmpZ a b=0 by unfold cmpZ; rw [if_neg (by omega),if_neg (by omega)]]
 exact ⟨rfl,C0⟩
theorem c_cmpF {M : List Nat} {w : World} {g : Nat} {vl : Value} {cs : List CR} {a b : Nat} (hb : Blk w g 22 #[vl]) (hL : Lay rdC M w vl cs) (ha : a < cs.length) (E9 : b < cs.length) :
    Ret Tryz.prog 36 #[.int .i64 ((a:Nat):Int),.int .i64 ((b:Nat):Int),.pointer (some ⟨g,0,none⟩)] w (fun r w'=>r=.int .i64 (cmpZ ((stS cs).getD a 0) ((stS cs).getD b 0))∧Mod [] w w'):=by
 obtain ⟨TL,tL,rfl⟩:=hL.form
 refine Ret.of (vs:=[.int .i64 ((a:Nat):Int),.int .i64 ((b:Nat):Int),.pointer (some ⟨g,0,none⟩)]) (n:=17) Tryz.func36 rfl rfl rfl rfl ?_
 have C0:Mod [] w w:=Mod.refl _ _
 refine W.sr<|L.b rfl<|L.z<|W.seq<|W.drawW (T:=[]) rfl (by decide +kernel) (NoHang.then NoHang.post) (fun w1 C1=>?_)
 replace hb:=hb.gr C1;replace hL:=hL.gr C1;replace C0:=C0.trans C1
 have G1:Mod [] w1 w1:=Mod.refl _ _
 clear C1;have hb_s:=hb
 refine D.t 0 rfl (by kernel_rfl) (fun _ hS=>R1.loadFld rfl (hb_s.gr hS) rfl tyP22) G1<|D.z 1 rfl (by kernel_rfl) rfl G1<|D.t 2 rfl (by kernel_rfl) (fun _ hS=>R1.atLay (j:=a) rfl rfl (Lay.gr hL hS) Q22 rfl ha) G1<|D.t 3 rfl (by kernel_rfl) (fun _ hS=>R1.fieldAddr rfl tyF42_0) G1 ?_
 obtain ⟨z10,cs10,P10,V10,vt10,ds10,rfl,Y10,vn10,vd10,rfl,I10,H10⟩:=Lay.elemQ hL (j:=a) ha;obtain ⟨T10,t10,rfl⟩:=Y10.form;obtain ⟨A10,c10,rfl⟩:=I10.form;obtain ⟨B10,e10,rfl⟩:=H10.form
 refine D.t 4 rfl (by kernel_rfl) (fun _ hS=>R1.loadEF rfl (SlE.gr V10 hS) rfl tyP3) G1<|D.t 5 rfl (by kernel_rfl) (fun _ hS=>R1.loadFld rfl (hb_s.gr hS) rfl tyP22) G1<|D.z 6 rfl (by kernel_rfl) rfl G1<|D.t 7 rfl (by kernel_rfl) (fun _ hS=>R1.atLay (j:=b) rfl rfl (Lay.gr hL hS) Q22 rfl E9) G1<|D.t 8 rfl (by kernel_rfl) (fun _ hS=>R1.fieldAddr rfl tyF42_0) G1 ?_
 obtain ⟨z15,cs15,P15,V15,vt15,ds15,rfl,Y15,vn15,vd15,rfl,I15,H15⟩:=Lay.elemQ hL (j:=b) E9;obtain ⟨T15,t15,rfl⟩:=Y15.form;obtain ⟨A15,c15,rfl⟩:=I15.form;obtain ⟨B15,e15,rfl⟩:=H15.form
 refine D.t 9 rfl (by kernel_rfl) (fun _ hS=>R1.loadEF rfl (SlE.gr V15 hS) rfl tyP3) G1<|D.one 10 rfl (by kernel_rfl) (fun hX=>?_)
 refine L.c rfl (c_Compare) ?_
 rintro _ w2 ⟨rfl,C2⟩
 replace C0:=C0.trans C2;replace G1:=G1.trans C2;clear C2
 refine L.nil (hX _ _ ⟨.inr G1,?_⟩)
 refine D.t 11 rfl (by kernel_rfl) (fun _ hS=>R1.assign rfl) G1<|D.done (by decide +kernel) ?_ _
 refine X.seq<|W.ret<|X.result1 rfl (.tmp rfl .nil) ?_
 rw [stS_get P10,stS_get P15]
 exact ⟨rfl,C0⟩
theorem c_insort {w : World} {v : Value} {B n : Nat} {f : FuncId} {us : List Value} {ss : List Int} (ho : w.ownsRow B 3 1 v n (ints (List.range n))) (hT : CmpT Tryz.prog w f us n ss (ownL v)) (hn : n ≤ 20) :
    Ret Tryz.prog 107 #[v,.int .i64 ((0:Nat):Int),.int .i64 ((n:Nat):Int),.func (.func f) #[] us.toArray] w (fun r w'=>∃ L,Srt ss n L∧w'.ownsRow B 3 1 v n (ints L)∧Mod (ownL v) w w'):=by
 refine Ret.of (vs:=[v,.int .i64 ((0:Nat):Int),.int .i64 ((n:Nat):Int),.func (.func f) #[] us.toArray]) (n:=53) Tryz.func107 rfl rfl rfl rfl ?_
 have C0:Mod (ownL v) w w:=Mod.refl _ _
 refine W.sr<|L.k rfl<|L.inc rfl rfl (by omega)<|L.b rfl<|L.z<|W.block<|W.loop (ι:=Nat × List Nat) (fun (i,A)=>[(0,v),(1,.int .i64 ((0:Nat):Int)),(2,.int .i64 ((n:Nat):Int)),(3,.func (.func f) #[] us.toArray),(8,.int .i64 ((i:Nat):Int))]) (fun (i,A) w_=>w_.ownsRow B 3 1 v n (ints (A ++ (List.range n).drop i))∧Srt ss (min i n) A∧1≤i∧i≤max n 1∧Mod (ownL v) w w_) (fun (i,A)=>n + 1 - i) (1,(List.range n).take 1) ?_ ?_ ?_
 · repeat' constructor
 ·
  exact ⟨by rw [List.take_append_drop]; exact ho,Srt.start,Nat.le_refl _,by omega,C0⟩
 rintro ⟨i,A⟩ w1 ⟨ho,hs,hi1,hi,C0⟩
 refine W.seq<|W.sr<|L.k rfl<|L.k rfl<|L.lt rfl rfl<|L.z<|W.cond rfl ?_ ?_
 ·
  intro J14
  try simp only [bq,ne_eq] at J14
  have hin:i<n:=by omega
  refine W.skip<|X.seq<|W.seq<|W.block<|W.sr<|L.k rfl<|L.b rfl<|L.z<|W.block ?_
  have hmin:min i n=i:=by omega
  rw [hmin] at hs
  have hAl:A.length=i:=hs.len
  refine W.loop (ι:=List Nat × List Nat) (fun (A1,B1)=>[(0,v),(1,.int .i64 ((0:Nat):Int)),(2,.int .i64 ((n:Nat):Int)),(3,.func (.func f) #[] us.toArray),(8,.int .i64 ((i:Nat):Int)),(9,.int .i64 ((A1.length:Nat):Int))]) (fun (A1,B1) w_=>w_.ownsRow B 3 1 v n (ints (A1 ++ i :: (B1 ++ (List.range n).drop (i + 1))))∧Ins n ss i A1 B1∧Mod (ownL v) w w_) (fun (A1,B1)=>A1.length) (A,[]) ?_ ?_ ?_
  · exact ⟨rfl,rfl,rfl,rfl,rfl,by rw [hAl]; rfl,trivial⟩
  ·
   exact ⟨by rw [drop_range hin] at ho; exact ho,hs.ins,C0⟩
  rintro ⟨A1,B1⟩ w2 ⟨ho,hI,C0⟩
  refine W.seq<|W.seq<|W.drawW (T:=[]) rfl (by decide +kernel) (NoHang.then (NoHang.then (NoHang.next (NoHang.block (NoHang.block (NoHang.then (NoHang.next (NoHang.block NoHang.post)))))))) (fun w3 C3=>?_)
  replace ho:=own_gs ho C3;replace C0:=C0.trans (C3.mono (by simp))
  have G1:Mod [] w3 w3:=Mod.refl _ _
  clear C3
  refine D.z 0 rfl (by kernel_rfl) rfl G1<|D.z 1 rfl (by kernel_rfl) rfl G1<|D.t 2 rfl (by kernel_rfl) (fun _ hS=>(R1.gt rfl rfl).asB (c:=(decide (0<A1.length))) (by rw [decide_eq_decide]; omega)) G1<|D.z 3 rfl (by kernel_rfl) rfl G1 ?_
  cases W21:(decide (0<A1.length))
  ·
   try simp only [bq,ne_eq] at W21
   refine D.o 4 rfl rfl (by kernel_rfl) G1<|D.o 5 rfl rfl (by kernel_rfl) G1<|D.o 6 rfl rfl (by kernel_rfl) G1<|D.o 7 rfl rfl (by kernel_rfl) G1<|D.o 8 rfl rfl (by kernel_rfl) G1<|D.o 9 rfl rfl (by kernel_rfl) G1<|D.o 10 rfl rfl (by kernel_rfl) G1<|D.o 11 rfl rfl (by kernel_rfl) G1<|D.o 12 rfl rfl (by kernel_rfl) G1<|D.o 13 rfl rfl (by kernel_rfl) G1<|D.o 14 rfl rfl (by kernel_rfl) G1 ?_
   refine D.o 15 rfl rfl (by kernel_rfl) G1<|D.t 16 rfl (by kernel_rfl) (fun _ hS=>R1.pickF rfl rfl) G1<|D.done (by decide +kernel) ?_ _
   refine X.seq<|W.condF rfl<|W.exit<|X.thenExit<|X.nextExit<|X.here<|X.blockEnd<|X.seq<|W.region<|L.k rfl<|L.inc rfl rfl (by omega) ?_
   refine L.b rfl<|L.nil<|X.next (i + 1,A1 ++ i :: B1) ?_ ?_ ?_
   · repeat' constructor
   ·
    have hmin:A1.length + B1.length=i:=hI.len
    exact ⟨own_congr ho rfl (by simp),hI.all (fun A0 y e=>by rw [e] at W21; simp at W21) hin,by omega,by omega,C0⟩
   first | omega | (dsimp only; omega)
  try simp only [bq,ne_eq] at W21
  obtain ⟨A0,y,rfl⟩:=snoc_of W21;have hlen:=hI.len
  have hjn:(A0 ++ [y]).length<n:=by omega
  have hj0:A0.length<n:=by rw [List.length_append] at hjn; omega
  have hyn:y<n:=Nat.lt_trans ((hI.mem y).1 (by simp)) hin
  have hDj:=getD_mid (A:=A0 ++ [y]) (B:=B1 ++ (List.range n).drop (i + 1)) (x:=i);have hDy:=getD_ahead (A:=A0) (B:=B1 ++ (List.range n).drop (i + 1)) (x:=i) (y:=y)
  refine D.u 4 rfl rfl (by kernel_rfl) (fun _ hS=>R1.move rfl) G1<|D.u 5 rfl rfl (by kernel_rfl) (fun _ hS=>R1.move rfl) G1<|D.u 6 rfl rfl (by kernel_rfl) (fun _ hS=>R1.move rfl) G1<|D.u 7 rfl rfl (by kernel_rfl) (fun _ hS=>R1.atOwn (i:=(A0 ++ [y]).length) rfl rfl (own_gs ho hS) Q26 rfl hjn) G1<|D.u 8 rfl rfl (by kernel_rfl) (fun _ hS=>(R1.ldLab rfl (own_gs ho hS) hjn tyP3).asV (v:=.int .i64 ((i:Nat):Int)) (by rw [hDj])) G1<|D.u 9 rfl rfl (by kernel_rfl) (fun _ hS=>R1.move rfl) G1<|D.u 10 rfl rfl (by kernel_rfl) (fun _ hS=>R1.move rfl) G1<|D.u 11 rfl rfl (by kernel_rfl) (fun _ hS=>(R1.subI (b:=1) rfl rfl (by omega) (by omega)).as (j:=((A0.length:Nat):Int)) (by simp)) G1<|D.u 12 rfl rfl (by kernel_rfl) (fun _ hS=>R1.atOwn (i:=A0.length) rfl rfl (own_gs ho hS) Q26 rfl hj0) G1<|D.u 13 rfl rfl (by kernel_rfl) (fun _ hS=>(R1.ldLab rfl (own_gs ho hS) hj0 tyP3).asV (v:=.int .i64 ((y:Nat):Int)) (by rw [hDy])) G1<|D.one 14 rfl (by kernel_rfl) (fun hX=>?_)
  refine L.guardOn rfl rfl rfl<|L.callV rfl rfl (hT _ i y hin hyn C0) rfl ?_
  rintro _ w4 ⟨rfl,C4⟩
  replace ho:=own_gs ho C4;replace C0:=C0.trans (C4.mono (by simp));replace G1:=G1.trans C4;clear C4
  refine L.nil (hX _ _ ⟨.inr G1,?_⟩)
  refine D.u 15 rfl rfl (by kernel_rfl) (fun _ hS=>(R1.lt rfl rfl).asB (c:=(decide (ss.getD i 0<ss.getD y 0))) (cmpZ_neg _ _)) G1<|D.t 16 rfl (by kernel_rfl) (fun _ hS=>R1.pickT rfl rfl) G1<|D.done (by decide +kernel) ?_ _
  refine X.seq<|W.cond rfl ?_ ?_
  ·
   intro J34
   try simp only [bq,ne_eq] at J34
   refine W.skip<|X.seq<|W.seq<|W.block<|W.drawW (T:=[2,3,4,15,16,17]) rfl (by decide +kernel) (NoHang.block (NoHang.then (NoHang.next (NoHang.block (NoHang.block (NoHang.then (NoHang.next (NoHang.block NoHang.post)))))))) (fun w5 C5=>?_)
   replace ho:=own_gs ho C5;replace C0:=C0.trans (C5.mono (by simp))
   have G2:Mod [] w5 w5:=Mod.refl _ _
   clear C5
   refine D.takeW 2 rfl (by kernel_rfl) rfl (fun w_=>(R1.move rfl)) rfl<|D.takeW 3 rfl (by kernel_rfl) rfl (fun w_=>(R1.move rfl)) rfl<|D.takeW 4 rfl (by kernel_rfl) rfl (fun w_=>((R1.subI (b:=1) rfl rfl (by omega) (by omega)).as (j:=((A0.length:Nat):Int)) (by simp))) rfl<|D.shrink (T1:=[15,16,17]) (by decide +kernel)<|D.z 0 rfl (by kernel_rfl) rfl G2<|D.z 1 rfl (by kernel_rfl) rfl G2<|D.z 5 rfl (by kernel_rfl) rfl G2<|D.z 6 rfl (by kernel_rfl) rfl G2<|D.t 7 rfl (by kernel_rfl) (fun _ hS=>(R1.subI (b:=1) rfl rfl (by omega) (by omega)).as (j:=((A0.length:Nat):Int)) (by simp)) G2<|D.t 8 rfl (by kernel_rfl) (fun _ hS=>R1.atOwn (i:=A0.length) rfl rfl (own_gs ho hS) Q26 rfl hj0) G2<|D.t 9 rfl (by kernel_rfl) (fun _ hS=>(R1.ldLab rfl (own_gs ho hS) hj0 tyP3).asV (v:=.int .i64 ((y:Nat):Int)) (by rw [hDy])) G2 ?_
   refine D.z 10 rfl (by kernel_rfl) rfl G2<|D.z 11 rfl (by kernel_rfl) rfl G2<|D.t 12 rfl (by kernel_rfl) (fun _ hS=>R1.atOwn (i:=(A0 ++ [y]).length) rfl rfl (own_gs ho hS) Q26 rfl hjn) G2<|D.t 13 rfl (by kernel_rfl) (fun _ hS=>(R1.ldLab rfl (own_gs ho hS) hjn tyP3).asV (v:=.int .i64 ((i:Nat):Int)) (by rw [hDj])) G2<|D.t 14 rfl (by kernel_rfl) (fun _ hS=>R1.atOwn (i:=(A0 ++ [y]).length) rfl rfl (own_gs ho hS) Q26 rfl hjn) G2<|D.one 15 rfl (by kernel_rfl) (fun hX=>?_)
   refine L.storeLab rfl rfl ho hjn tyP3 ?_
   intro w6 ho' C6
   replace C0:=C0.trans (C6.mono (by intro b hb; simp [hb]));clear C6;replace ho:=ho'; clear ho'
   refine L.nil (hX _ _ ⟨.inl rfl,?_⟩)
   refine D.one 16 rfl (by kernel_rfl) (fun hX=>?_)
   refine L.v (R1.atOwn (i:=A0.length) rfl rfl ho Q26 rfl hj0) rfl (L.nil (hX _ _ ⟨.inl rfl,?_⟩))
   refine D.one 17 rfl (by kernel_rfl) (fun hX=>?_)
   refine L.storeLab rfl rfl ho hj0 tyP3 ?_
   intro w7 ho' C7
   replace C0:=C0.trans (C7.mono (by intro b hb; simp [hb]));clear C7;replace ho:=ho'; clear ho'
   refine L.nil (hX _ _ ⟨.inl rfl,?_⟩)
   refine D.done (by decide +kernel) ?_ _
   refine X.blockEnd<|X.seq<|W.region<|L.k rfl<|L.v ((R1.subI (b:=1) rfl rfl (by omega) (by omega)).as (j:=((A0.length:Nat):Int)) (by simp)) rfl<|L.b rfl<|L.nil<|X.next (A0,y :: B1) ?_ ?_ ?_
   · repeat' constructor
   ·
    exact ⟨own_congr ho rfl (by rw [set_swap]; rfl),hI.step J34,C0⟩
   dsimp only; rw [List.length_append]; exact Nat.lt_succ_self _
  intro J34
  try simp only [bq,ne_eq] at J34
  refine W.exit<|X.thenExit<|X.nextExit<|X.here<|X.blockEnd<|X.seq<|W.region<|L.k rfl<|L.inc rfl rfl (by omega)<|L.b rfl<|L.nil ?_
  refine X.next (i + 1,(A0 ++ [y]) ++ i :: B1) ?_ ?_ ?_
  · repeat' constructor
  ·
   have hlen9:=hI.len
   exact ⟨own_congr ho rfl (by simp),hI.all (fun A9 y9 e=>by rw [← snoc_inj e]; omega) hin,by omega,by omega,C0⟩
  first | omega | (dsimp only; omega)
 intro J14
 try simp only [bq,ne_eq] at J14
 refine W.exit<|X.thenExit<|X.nextExit<|X.here<|X.fall0 rfl ?_
 have hmin:min i n=n:=by omega
 rw [hmin] at hs
 exact ⟨A,hs,own_congr ho rfl (by rw [List.drop_eq_nil_of_le (by simp; omega),List.append_nil]),C0⟩
theorem c_insN {w : World} {v : Value} {B n : Nat} {f : FuncId} {us : List Value} {ss : List Int} {L0 : List Nat} (ho : w.ownsRow B 3 1 v n (ints L0)) (h0 : Srt ss n L0) (hn : n ≤ 20) :
    Ret Tryz.prog 107 #[v,.int .i64 ((n:Nat):Int),.int .i64 ((n:Nat):Int),.func (.func f) #[] us.toArray] w (fun r w'=>∃ L,Srt ss n L∧w'.ownsRow B 3 1 v n (ints L)∧Mod (ownL v) w w'):=by
 refine Ret.of (vs:=[v,.int .i64 ((n:Nat):Int),.int .i64 ((n:Nat):Int),.func (.func f) #[] us.toArray]) (n:=53) Tryz.func107 rfl rfl rfl rfl ?_
 have C0:Mod (ownL v) w w:=Mod.refl _ _
 refine W.sr<|L.k rfl<|L.inc rfl rfl (by omega)<|L.b rfl<|L.z<|W.block<|W.loop (ι:=Unit) (fun _=>[(0,v),(1,.int .i64 ((n:Nat):Int)),(2,.int .i64 ((n:Nat):Int)),(3,.func (.func f) #[] us.toArray),(8,.int .i64 (((n + 1):Nat):Int))]) (fun _ w_=>w_.ownsRow B 3 1 v n (ints L0)∧Mod (ownL v) w w_) (fun _=>0) () ?_ ?_ ?_
 · repeat' constructor
 ·
  exact ⟨ho,C0⟩
 rintro _ w1 ⟨ho,C0⟩
 refine W.seq<|W.sr<|L.k rfl<|L.k rfl<|L.lt rfl rfl<|L.z<|W.cond rfl ?_ ?_
 ·
  intro J14
  try simp only [bq,ne_eq] at J14
  omega
 intro J14
 try simp only [bq,ne_eq] at J14
 refine W.exit<|X.thenExit<|X.nextExit<|X.here<|X.fall0 rfl ?_
 exact ⟨L0,h0,ho,C0⟩
theorem c_insort2 {w:World} {v:Value} {B n a:Nat} {f:FuncId} {us:List Value} {ss:List Int} {L0:List Nat} (ho:w.ownsRow B 3 1 v n (ints L0)) (h0:(a=0∧L0=List.range n)∨(a=20∧n=20∧Srt ss n L0)) (hT:CmpT Tryz.prog w f us n ss (ownL v)) (hn:n≤20):Ret Tryz.prog 107 #[v,.int .i64 ((a:Nat):Int),.int .i64 ((n:Nat):Int),.func (.func f) #[] us.toArray] w (fun r w'=>∃ L,Srt ss n L∧w'.ownsRow B 3 1 v n (ints L)∧Mod (ownL v) w w'):=by
  rcases h0 with ⟨rfl,rfl⟩ | ⟨rfl,rfl,h0⟩
  · exact c_insort ho hT hn
  exact c_insN ho h0 hn
theorem c_stable {w : World} {v : Value} {B n : Nat} {f : FuncId} {us : List Value} {ss : List Int} (ho : w.ownsRow B 3 1 v n (ints (List.range n))) (hT : CmpT Tryz.prog w f us n ss (ownL v)) (hn : n ≤ 20) :
    Ret Tryz.prog 71 #[v,.int .i64 ((n:Nat):Int),.func (.func f) #[] us.toArray] w (fun r w'=>∃ L,Srt ss n L∧w'.ownsRow B 3 1 v n (ints L)∧Mod (ownL v) w w'):=by
 refine Ret.of (vs:=[v,.int .i64 ((n:Nat):Int),.func (.func f) #[] us.toArray]) (n:=63) Tryz.func71 rfl rfl rfl rfl ?_
 have C0:Mod (ownL v) w w:=Mod.refl _ _
 refine W.sr<|L.b rfl<|L.z<|W.sr<|L.k rfl<|L.b rfl<|L.b rfl<|L.nil ?_
 refine X.seq<|W.seq<|W.block<|W.loop (ι:=Nat × List Nat) (fun (a,L0)=>[(0,v),(1,.int .i64 ((n:Nat):Int)),(2,.func (.func f) #[] us.toArray),(6,.int .i64 ((20:Nat):Int)),(7,.int .i64 ((a:Nat):Int)),(8,.int .i64 (((a + 20):Nat):Int))]) (fun (a,L0) w_=>w_.ownsRow B 3 1 v n (ints L0)∧((a=0∧L0=List.range n)∨(a=20∧n=20∧Srt ss n L0))∧Mod (ownL v) w w_) (fun (a,L0)=>20 - a) (0,List.range n) ?_ ?_ ?_
 · repeat' constructor
 ·
  exact ⟨ho,.inl ⟨rfl,rfl⟩,C0⟩
 rintro ⟨a,L0⟩ w1 ⟨ho,h0,C0⟩
 refine W.seq<|W.sr<|L.k rfl<|L.k rfl<|L.v (R1.le rfl rfl) rfl<|L.z<|W.cond rfl ?_ ?_
 ·
  intro J13
  try simp only [bq,ne_eq] at J13
  obtain ⟨rfl,rfl⟩:a=0∧L0=List.range n:=by rcases h0 with h | h; exact h; omega
  obtain rfl:n=20:=by omega
  refine W.skip<|X.seq<|W.block<|W.sr<|L.k rfl<|L.k rfl<|L.k rfl<|L.k rfl<|L.c rfl (c_insort2 ho (.inl ⟨rfl,rfl⟩) (fun w1 a b ha hb hm=>hT w1 a b ha hb (C0.trans hm)) hn) ?_
  rintro _ w2 ⟨L9,hL9,O9,C2⟩
  replace C0:=C0.trans (C2.mono (by intro b hb; simp [hb]));clear C2;replace ho:=O9;clear O9
  refine L.z<|W.sr<|L.k rfl<|L.b rfl<|L.z<|W.region<|L.k rfl<|L.k rfl ?_
  refine L.v (R1.addI rfl rfl (by omega)) rfl<|L.b rfl<|L.nil<|X.blockEnd<|X.next (20,L9) ?_ ?_ ?_
  · repeat' constructor
  ·
   exact ⟨ho,.inr ⟨rfl,rfl,hL9⟩,C0⟩
  first | omega | (dsimp only; omega)
 intro J13
 try simp only [bq,ne_eq] at J13
 refine W.brk<|W.sr<|L.k rfl<|L.k rfl<|L.k rfl<|L.k rfl ?_
 refine L.c rfl (c_insort2 ho h0 (fun w1 a b ha hb hm=>hT w1 a b ha hb (C0.trans hm)) hn) ?_
 rintro _ w3 ⟨L9,hL9,O9,C3⟩
 replace C0:=C0.trans (C3.mono (by intro b hb; simp [hb]));clear C3;replace ho:=O9;clear O9
 refine L.z<|W.block<|W.loop (ι:=Unit) (fun _=>[(0,v),(1,.int .i64 ((n:Nat):Int)),(2,.func (.func f) #[] us.toArray),(6,.int .i64 ((20:Nat):Int))]) (fun _ w_=>w_.ownsRow B 3 1 v n (ints L9)∧Mod (ownL v) w w_) (fun _=>0) () ?_ ?_ ?_
 · repeat' constructor
 ·
  exact ⟨ho,C0⟩
 rintro _ w4 ⟨ho,C0⟩
 refine W.seq<|W.sr<|L.k rfl<|L.k rfl<|L.lt rfl rfl<|L.z<|W.cond rfl ?_ ?_
 ·
  intro J30
  try simp only [bq,ne_eq] at J30
  omega
 intro J30
 try simp only [bq,ne_eq] at J30
 refine W.exit<|X.thenExit<|X.nextExit<|X.here<|X.fall0 rfl ?_
 exact ⟨L9,hL9,ho,C0⟩
theorem c_SortStable {w : World} {v : Value} {B n : Nat} {f : FuncId} {us : List Value} {ss : List Int} (ho : w.ownsRow B 3 1 v n (ints (List.range n))) (hT : CmpT Tryz.prog w f us n ss (ownL v)) (hn : n ≤ 20) :
    Ret Tryz.prog 35 #[v,.func (.func f) #[] us.toArray] w (fun r w'=>∃ L,Srt ss n L∧w'.ownsRow B 3 1 v n (ints L)∧Mod (ownL v) w w'):=by
 refine Ret.of (vs:=[v,.func (.func f) #[] us.toArray]) (n:=9) Tryz.func35 rfl rfl rfl rfl ?_
 have C0:Mod (ownL v) w w:=Mod.refl _ _
 refine W.region<|L.k rfl<|L.k rfl<|L.v (R1.lenOwn rfl ho Q26) rfl<|L.k rfl<|L.c rfl (c_stable ho hT hn) ?_
 rintro _ w1 ⟨L9,hL9,O9,C1⟩
 replace C0:=C0.trans (C1.mono (by intro b hb; simp [hb]));clear C1;replace ho:=O9;clear O9
 refine L.nil<|X.fall0 rfl ?_
 exact ⟨L9,hL9,ho,C0⟩
theorem c_EqualI {N9 N8 : List Nat} {w : World} {va vb : Value} {xs ys : List Int} (h : Lay rdI N9 w va xs) (k : Lay rdI N8 w vb ys) :
    Ret Tryz.prog 38 #[va,vb] w (fun r w'=>r=.bool (decide (xs=ys))∧Mod [] w w'):=by
 have hmax:=h.max; unfold maxLen at hmax
 refine Ret.of (vs:=[va,vb]) (n:=26) Tryz.func38 rfl rfl rfl rfl ?_
 have C0:Mod [] w w:=Mod.refl _ _
 refine W.sr<|L.b rfl<|L.z<|W.seq<|W.sr<|L.k rfl<|L.lL rfl h Q26<|L.k rfl ?_
 refine L.lL rfl k Q26<|L.v (R1.ne rfl rfl) rfl<|L.z<|W.cond rfl ?_ ?_
 ·
  intro J10
  try simp only [bq,ne_eq] at J10
  refine W.sr<|L.b rfl<|L.z<|W.ret<|X.thenRet<|X.result1 rfl (.tmp rfl .nil) ?_
  rw [decide_eq_false (fun e=>J10 (by rw [e]))]
  exact ⟨rfl,C0⟩
 intro J10
 try simp only [bq,ne_eq] at J10
 have hlen:xs.length=ys.length:=by omega
 refine W.skip<|X.seq<|W.seq<|W.sr<|L.k rfl<|L.lL rfl h Q26<|L.k rfl<|L.z<|W.block ?_
 refine W.loop (ι:=Nat) (fun i=>[(0,va),(1,vb),(12,.int .i64 ((xs.length:Nat):Int)),(13,.int .i64 ((i:Nat):Int))]) (fun i w_=>Lay rdI N9 w_ va xs∧Lay rdI N8 w_ vb ys∧i≤xs.length∧(∀ j,j<i→xs.getD j 0=ys.getD j 0)∧Mod [] w w_) (fun i=>xs.length - i) 0 ?_ ?_ ?_
 · repeat' constructor
 ·
  exact ⟨h.su,k.su,Nat.zero_le _,(fun j h=>by omega),C0⟩
 rintro i w1 ⟨h,k,hi,he,C0⟩
 refine W.sr<|L.lt rfl rfl<|L.z<|W.seq<|W.cond rfl ?_ ?_
 ·
  intro J14
  try simp only [bq,ne_eq] at J14
  refine W.skip<|X.seq<|W.seq<|W.block<|W.sr<|L.k rfl<|L.b rfl<|L.z<|W.seq ?_
  refine W.drawW (T:=[]) rfl (by decide +kernel) (NoHang.then (NoHang.block (NoHang.then (NoHang.next (NoHang.block (NoHang.then NoHang.post)))))) (fun w2 C2=>?_)
  replace h:=h.gr C2;replace k:=k.gr C2;replace C0:=C0.trans C2
  have G1:Mod [] w2 w2:=Mod.refl _ _
  clear C2
  refine D.z 0 rfl (by kernel_rfl) rfl G1<|D.z 1 rfl (by kernel_rfl) rfl G1<|D.t 2 rfl (by kernel_rfl) (fun _ hS=>R1.atLay (j:=i) rfl rfl (Lay.gr h hS) Q26 rfl (by omega)) G1<|D.t 3 rfl (by kernel_rfl) (fun _ hS=>R1.loadLI rfl (Lay.gr h hS) tyP3 (by omega) (getD_at _)) G1<|D.z 4 rfl (by kernel_rfl) rfl G1<|D.z 5 rfl (by kernel_rfl) rfl G1<|D.t 6 rfl (by kernel_rfl) (fun _ hS=>R1.atLay (j:=i) rfl rfl (Lay.gr k hS) Q26 rfl (by omega)) G1<|D.t 7 rfl (by kernel_rfl) (fun _ hS=>R1.loadLI rfl (Lay.gr k hS) tyP3 (by omega) (getD_at _)) G1<|D.t 8 rfl (by kernel_rfl) (fun _ hS=>R1.ne rfl rfl) G1<|D.done (by decide +kernel) ?_ _
  refine X.seq<|W.cond rfl ?_ ?_
  ·
   intro J24
   try simp only [bq,ne_eq] at J24
   refine W.sr<|L.b rfl<|L.z<|W.ret<|X.blockRet<|X.thenRet<|X.nextRet<|X.blockRet<|X.thenRet ?_
   refine X.result1 rfl (.tmp rfl .nil) ?_
   rw [decide_eq_false (fun e=>J24 (by rw [e]))]
   exact ⟨rfl,C0⟩
  intro J24
  try simp only [bq,ne_eq] at J24
  refine W.skip<|X.blockEnd<|X.seq<|W.region<|L.inc rfl rfl (by omega)<|L.k rfl<|L.nil<|X.next (i + 1) ?_ ?_ ?_
  · repeat' constructor
  ·
   exact ⟨h.su,k.su,by omega,(fun j hj=>by rcases Nat.lt_or_ge j i with h9 | h9; exact he j h9; obtain rfl:j=i:=(by omega); assumption),C0⟩
  first | omega | (dsimp only; omega)
 intro J14
 try simp only [bq,ne_eq] at J14
 obtain rfl:i=xs.length:=by omega
 refine W.brk<|W.sr<|L.b rfl<|L.z<|W.ret ?_
 refine X.result1 rfl (.tmp rfl .nil) ?_
 rw [decide_eq_true (ext_getD hlen (fun j hj=>he j (by omega)))]
 exact ⟨rfl,C0⟩
theorem c_same {N9 N8 : List Nat} {w : World} {va vb : Value} {xs ys : List Int} (h : Lay rdI N9 w va xs) (k : Lay rdI N8 w vb ys) (hlen : xs.length = ys.length) :
    Ret Tryz.prog 51 #[va,vb] w (fun r w'=>r=.bool (decide (xs=ys))∧Mod [] w w'):=by
 have hmax:=h.max; unfold maxLen at hmax
 refine Ret.of (vs:=[va,vb]) (n:=21) Tryz.func51 rfl rfl rfl rfl ?_
 have C0:Mod [] w w:=Mod.refl _ _
 refine W.sr<|L.b rfl<|L.z<|W.seq<|W.sr<|L.b rfl<|L.z ?_
 refine W.block<|W.loop (ι:=Nat) (fun i=>[(0,va),(1,vb),(5,.int .i64 ((i:Nat):Int))]) (fun i w_=>Lay rdI N9 w_ va xs∧Lay rdI N8 w_ vb ys∧i≤xs.length∧(∀ j,j<i→xs.getD j 0=ys.getD j 0)∧Mod [] w w_) (fun i=>xs.length - i) 0 ?_ ?_ ?_
 · exact ⟨rfl,rfl,rfl,trivial⟩
 ·
  exact ⟨h.su,k.su,Nat.zero_le _,(fun j h=>by omega),C0⟩
 rintro i w1 ⟨h,k,hi,he,C0⟩
 refine W.seq<|W.sr<|L.k rfl<|L.k rfl<|L.lL rfl h Q26<|L.lt rfl rfl<|L.z<|W.cond rfl ?_ ?_
 ·
  intro J9
  try simp only [bq,ne_eq] at J9
  refine W.skip<|X.seq<|W.seq<|W.block<|W.seq<|W.drawW (T:=[]) rfl (by decide +kernel) (NoHang.then (NoHang.block (NoHang.then (NoHang.next (NoHang.block (NoHang.then NoHang.post)))))) (fun w2 C2=>?_)
  replace h:=h.gr C2;replace k:=k.gr C2;replace C0:=C0.trans C2
  have G1:Mod [] w2 w2:=Mod.refl _ _
  clear C2
  refine D.z 0 rfl (by kernel_rfl) rfl G1<|D.z 1 rfl (by kernel_rfl) rfl G1<|D.t 2 rfl (by kernel_rfl) (fun _ hS=>R1.atLay (j:=i) rfl rfl (Lay.gr h hS) Q26 rfl (by omega)) G1<|D.t 3 rfl (by kernel_rfl) (fun _ hS=>R1.loadLI rfl (Lay.gr h hS) tyP3 (by omega) (getD_at _)) G1<|D.z 4 rfl (by kernel_rfl) rfl G1<|D.z 5 rfl (by kernel_rfl) rfl G1<|D.t 6 rfl (by kernel_rfl) (fun _ hS=>R1.atLay (j:=i) rfl rfl (Lay.gr k hS) Q26 rfl (by omega)) G1<|D.t 7 rfl (by kernel_rfl) (fun _ hS=>R1.loadLI rfl (Lay.gr k hS) tyP3 (by omega) (getD_at _)) G1<|D.t 8 rfl (by kernel_rfl) (fun _ hS=>R1.ne rfl rfl) G1<|D.done (by decide +kernel) ?_ _
  refine X.seq<|W.cond rfl ?_ ?_
  ·
   intro J20
   try simp only [bq,ne_eq] at J20
   refine W.sr<|L.b rfl<|L.z<|W.ret<|X.blockRet<|X.thenRet<|X.nextRet<|X.blockRet<|X.thenRet ?_
   refine X.result1 rfl (.tmp rfl .nil) ?_
   rw [decide_eq_false (fun e=>J20 (by rw [e]))]
   exact ⟨rfl,C0⟩
  intro J20
  try simp only [bq,ne_eq] at J20
  refine W.skip<|X.blockEnd<|X.seq<|W.region<|L.k rfl<|L.inc rfl rfl (by omega)<|L.b rfl<|L.nil<|X.next (i + 1) ?_ ?_ ?_
  · exact ⟨rfl,rfl,rfl,trivial⟩
  ·
   exact ⟨h.su,k.su,by omega,(fun j hj=>by rcases Nat.lt_or_ge j i with h9 | h9; exact he j h9; obtain rfl:j=i:=(by omega); assumption),C0⟩
  first | omega | (dsimp only; omega)
 intro J9
 try simp only [bq,ne_eq] at J9
 obtain rfl:i=xs.length:=by omega
 refine W.brk<|W.sr<|L.b rfl<|L.z<|W.ret ?_
 refine X.result1 rfl (.tmp rfl .nil) ?_
 rw [decide_eq_true (ext_getD hlen (fun j hj=>he j (by omega)))]
 exact ⟨rfl,C0⟩
end Go.Proofs.YthoooolflmbmbaaGreat
