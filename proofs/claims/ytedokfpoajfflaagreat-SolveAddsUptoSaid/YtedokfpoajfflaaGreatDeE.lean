/- Walks: what the functions compute. -/
import Derived.Test.YtedokfpoajfflaaGreatDeC
namespace Go.Proofs.YtedokfpoajfflaaGreat
open Go.RowKit
set_option linter.unusedVariables false
set_option linter.unusedSimpArgs false
set_option maxRecDepth 10000
theorem takenB {n k:Nat} {bs:List Bool} {ts:List TR} {t:TR} {T:List Nat} (hl:n=bs.length) (hbs:∀ x,x<n→bs.getD x false=decide (x∈takenL ts k T)) (h:ts[k]?=some t) (ht:t.v.toNat<n):∀ x,x<n→(bs.set t.v.toNat true).getD x false=decide (x∈takenL ts (k + 1) T):=fun x hx=>by
  obtain ⟨h1,rfl⟩:=List.getElem?_eq_some_iff.1 h;have h2:=hbs x hx
  unfold takenL at h2 ⊢
  rw [List.take_succ_eq_append_getElem h1]
  rw [List.getD_eq_getElem?_getD,List.getElem?_set]
  by_cases e:ts[k].v.toNat=x
  · subst e
    rw [if_pos rfl,if_pos (by omega)]
    refine (decide_eq_true ?_).symm
    rw [List.map_append]
    exact List.mem_append_left _ (List.mem_append_right _ (by simp))
  rw [if_neg e,← List.getD_eq_getElem?_getD,h2,decide_eq_decide]
  simp only [List.map_append,List.map_cons,List.map_nil,List.mem_append,List.mem_cons,List.not_mem_nil,or_false]
  constructor
  · rintro (h3 | h3)
    · exact .inl (.inl h3)
    exact .inr h3
  rintro ((h3 | h3) | h3)
  · exact .inl h3
  · exact absurd h3.symm e
  exact .inr h3
theorem c_r13_enforce {M : List Nat} {w : World} {n B : Nat} {vl v1 : Value} {cs : List CR} {o0 : List Int} (hL : Lay rdC (ownL v1 ++ M) w vl cs) (ho1 : w.ownsRow B 3 1 v1 cs.length (intsZ o0)) (hC0 : ChoZ n cs o0) {i0 : Nat} (hi0 : i0 < cs.length) (hno0 : o0.getD i0 0 = -1) (hn : n ≤ 64) :
    Ret Tryz.prog 52 #[vl,v1,.int .i64 ((i0:Nat):Int),.int .i64 ((n:Nat):Int)] w (fun r w'=>w'.ownsRow B 3 1 v1 cs.length (intsZ (enfZ n cs o0 i0))∧Mod (ownL v1) w w'):=by
 obtain ⟨TL,tL,rfl⟩:=hL.form;have hmaxL:=hL.max; unfold maxLen at hmaxL
 refine Ret.of (vs:=[.slice TL cs.length tL,v1,.int .i64 ((i0:Nat):Int),.int .i64 ((n:Nat):Int)]) (n:=96) Tryz.func52 rfl rfl rfl rfl ?_
 have hm0:Mod (ownL v1) w w:=Mod.refl _ _
 refine W.seq<|W.region<|L.m rfl rfl<|L.makeSlice (m:=n) rfl rfl rfl rfl tyS109 tyZ4 (by omega) (by unfold maxLen; omega) rfl ?_
 intro g17 w1 hN17
 have hoT:=own_madeB (B:=w.heap.size) hN17 hm0.size (by unfold maxLen; omega);replace hL:=hL.new hN17
 have haw_ho1_hoT:Away _ (.slice (some ⟨g17,0,none⟩) n n):=own_away_new ho1 hN17
 replace ho1:=own_gr ho1 hN17.mod (by simp);replace hm0:=hm0.trans (hN17.mod.mono (by simp));clear hN17
 obtain ⟨v17,hv_v17⟩:∃ v,v=Value.slice (some ⟨g17,0,none⟩) n n:=⟨_,rfl⟩
 have hol_v17:ownL v17=[g17]:=by rw [hv_v17]; rfl
 rw [← hv_v17] at hoT ⊢
 replace hL:=hL.sub (of_cons hol_v17)
 rw [← hv_v17] at haw_ho1_hoT
 clear hv_v17 hol_v17
 refine L.a rfl rfl<|L.nil<|X.seq<|W.block<|W.loop (ι:=Nat × List Int × Option Nat × List Nat × List Bool) (fun (f,o,oi,T,bs)=>[(0,.slice TL cs.length tL),(1,v1),(2,.int .i64 (fi oi)),(8,v17)]) (fun (f,o,oi,T,bs) w_=>Lay rdC (ownL v17 ++ (ownL v1 ++ M)) w_ (.slice TL cs.length tL) cs∧w_.ownsRow B 3 1 v1 cs.length (intsZ o)∧w_.ownsRow w.heap.size 4 1 v17 n (boolsV bs)∧(∀ x,x<n→bs.getD x false=decide (x∈T))∧EI n cs o0 i0 f o oi T∧Mod (ownL v1) w w_) (fun (f,o,oi,T,bs)=>f) (n + 1,o0,some i0,[],List.replicate n false) ?_ ?_ ?_
 · exact ⟨rfl,rfl,rfl,rfl,trivial⟩
 ·
  exact ⟨hL.su,ho1,hoT,(fun x hx=>by simp [List.getD_eq_getElem?_getD,hx]),EI.start hC0 hi0 hno0,hm0⟩
 rintro ⟨f,o,oi,T,bs⟩ w2 ⟨hL,ho1,hoT,hbs,hE,hm0⟩
 refine W.seq<|W.seq<|W.region<|L.m rfl rfl<|L.v ((R1.ge rfl rfl).asB (c:=(decide (oi≠none))) (fi_geq _)) rfl<|L.nil<|X.seq<|W.cond rfl ?_ ?_
 ·
  intro hc19
  try simp only [bq,ne_eq] at hc19
  obtain ⟨i,rfl⟩:=Option.ne_none_iff_exists'.1 hc19;obtain ⟨hC,hi,hnoi,hf0⟩:=hE.cho hC0
  refine W.skip<|X.seq<|W.block<|W.seq<|W.drawW (T:=[]) rfl (by decide +kernel) (NoHang.then (NoHang.block (NoHang.next (NoHang.block NoHang.post)))) (fun w3 hm3=>?_)
  replace hL:=hL.gr hm3;replace ho1:=own_gr ho1 hm3 (by simp);replace hoT:=own_gr hoT hm3 (by simp);replace hm0:=hm0.trans (hm3.mono (by simp))
  have hS1:Mod [] w3 w3:=Mod.refl _ _
  clear hm3
  refine D.m 0 rfl (by kernel_rfl) rfl hS1 rfl<|D.m 1 rfl (by kernel_rfl) rfl hS1 rfl<|D.take 2 rfl (by kernel_rfl) (fun w_ hS=>(R1.atLay (j:=i) rfl rfl (Lay.gr hL hS) tyS22 rfl hi)) hS1 rfl<|D.take 3 rfl (by kernel_rfl) (fun w_ hS=>(R1.fieldAddr rfl tyF47_0)) hS1 rfl ?_
  obtain ⟨z24,cs24,hz24,hE24,vt24,ds24,rfl,ht24,vn24,vd24,rfl,hn24,hd24⟩:=Lay.elemQ hL (j:=i) hi;obtain ⟨T24,t24,rfl⟩:=ht24.form;obtain ⟨A24,c24,rfl⟩:=hn24.form;obtain ⟨B24,e24,rfl⟩:=hd24.form
  refine D.take 4 rfl (by kernel_rfl) (fun w_ hS=>(R1.loadEF rfl (SlE.gr hE24 hS) rfl tyP3)) hS1 rfl ?_
  have hmax24:=ht24.max; unfold maxLen at hmax24
  refine D.take 5 rfl (by kernel_rfl) (fun w_ hS=>(R1.assign rfl)) hS1 rfl<|D.take 6 rfl (by kernel_rfl) (fun w_ hS=>(R1.assign rfl)) hS1 rfl<|D.done (by decide +kernel) ?_ _
  refine X.seq<|W.seq<|W.seq<|W.region<|L.a rfl rfl<|L.nil<|X.seq<|W.block<|W.loop (ι:=Nat × (Option Nat × Int)) (fun (k,b)=>[(0,.slice TL cs.length tL),(1,v1),(2,.int .i64 ((i:Nat):Int)),(8,v17),(9,.int .i64 (fi b.1)),(10,.int .i64 b.2),(11,.int .i64 ((k:Nat):Int))]) (fun (k,b) w_=>Lay rdC (ownL v17 ++ (ownL v1 ++ M)) w_ (.slice TL cs.length tL) cs∧w_.ownsRow B 3 1 v1 cs.length (intsZ o)∧w_.ownsRow w.heap.size 4 1 v17 n (boolsV bs)∧k≤z24.ts.length∧b=(wkL n cs o T (z24.ts.take k) (none,z24.st))∧Mod (ownL v1) w w_) (fun (k,b)=>z24.ts.length - k) (0,(none,z24.st)) ?_ ?_ ?_
  · exact ⟨rfl,rfl,rfl,rfl,rfl,rfl,rfl,trivial⟩
  ·
   exact ⟨hL.su,ho1,hoT,Nat.zero_le _,rfl,hm0⟩
  rintro ⟨k,b⟩ w4 ⟨hL,ho1,hoT,hk,hbk,hm0⟩
  refine W.seq<|W.seq<|W.region<|L.m rfl rfl<|L.m rfl rfl<|L.m rfl rfl<|L.v (R1.atLay (j:=i) rfl rfl hL tyS22 rfl hi) rfl<|L.v (R1.fieldAddr rfl tyF47_1) rfl ?_
  obtain ⟨z30,cs30,hz30,hE30,vt30,ds30,rfl,ht30,vn30,vd30,rfl,hn30,hd30⟩:=Lay.elemQ hL (j:=i) hi;obtain ⟨T30,t30,rfl⟩:=ht30.form;obtain ⟨A30,c30,rfl⟩:=hn30.form;obtain ⟨B30,e30,rfl⟩:=hd30.form
  obtain rfl:z24=z30:=by have h9:=hz30; rw [hz24] at h9; injection h9
  refine L.v (R1.loadEF rfl hE30 rfl tyP44) rfl<|L.v (R1.lenLay rfl ht30 tyS44) rfl<|L.v (R1.lt rfl rfl) rfl<|L.nil<|X.seq<|W.cond rfl ?_ ?_
  ·
   intro hc32
   try simp only [bq,ne_eq] at hc32
   refine W.skip<|X.seq<|W.seq<|W.block<|W.seq<|W.region<|L.m rfl rfl<|L.m rfl rfl<|L.v (R1.atLay (j:=i) rfl rfl hL tyS22 rfl hi) rfl<|L.v (R1.fieldAddr rfl tyF47_1) rfl ?_
   obtain ⟨z39,cs39,hz39,hE39,vt39,ds39,rfl,ht39,vn39,vd39,rfl,hn39,hd39⟩:=Lay.elemQ hL (j:=i) hi;obtain ⟨T39,t39,rfl⟩:=ht39.form;obtain ⟨A39,c39,rfl⟩:=hn39.form;obtain ⟨B39,e39,rfl⟩:=hd39.form
   obtain rfl:z24=z39:=by have h9:=hz39; rw [hz24] at h9; injection h9
   refine L.v (R1.loadEF rfl hE39 rfl tyP44) rfl<|L.m rfl rfl<|L.v (R1.atLay (j:=k) rfl rfl ht39 tyS44 rfl (by omega)) rfl<|L.v (R1.fieldAddr rfl tyF43_0) rfl ?_
   obtain ⟨z43,cs43,hz43,hE43,ds43,rfl,vn43,vd43,rfl,hn43,hd43⟩:=Lay.elemQ ht39 (j:=k) (by omega);obtain ⟨A43,c43,rfl⟩:=hn43.form;obtain ⟨B43,e43,rfl⟩:=hd43.form
   refine L.v ((R1.loadEF rfl hE43 rfl tyP3).asV (v:=.int .i64 ((z43.v.toNat:Nat):Int)) (by rw [Int.toNat_of_nonneg (hC.var hz24 (List.mem_of_getElem? hz43)).2])) rfl ?_
   obtain ⟨hd1,hd2⟩:=hC.var hz24 (List.mem_of_getElem? hz43)
   refine L.a rfl rfl<|L.nil<|X.seq<|W.seq<|W.region<|L.m rfl rfl<|L.m rfl rfl<|L.m rfl rfl ?_
   have hO9:=Lay.of_Z (M:=[]) ho1 (by simp)
   refine L.call rfl (c_walk hL hO9 hC hd1) rfl ?_
   rintro _ w5 ⟨rfl,hm5⟩
   replace hL:=hL.gr hm5;replace ho1:=own_gr ho1 hm5 (by simp);replace hoT:=own_gr hoT hm5 (by simp);replace hm0:=hm0.trans (hm5.mono (by simp));clear hm5
   refine L.a rfl rfl<|L.nil<|X.seq<|W.seq<|W.region<|L.m rfl rfl<|L.m rfl rfl<|L.v (R1.atOwn (i:=z43.v.toNat) rfl rfl hoT tyS109 rfl hd1) rfl<|L.v (R1.ldBo rfl hoT hd1 tyP4) rfl<|L.v (R1.not rfl) rfl<|L.m rfl rfl ?_
   cases hgd53:(!(bs.getD z43.v.toNat false))
   ·
    simp only [Bool.not_eq_true',Bool.not_eq_false'] at hgd53
    rw [hbs _ hd1,decide_eq_true_eq] at hgd53
    refine L.off rfl rfl rfl rfl rfl<|L.off rfl rfl rfl rfl rfl<|L.off rfl rfl rfl rfl rfl<|L.v (R1.pickF rfl rfl) rfl<|L.nil<|X.seq<|W.condF rfl<|W.skip<|X.blockEnd<|X.seq<|W.region ?_
    refine L.m rfl rfl<|L.v (R1.addI (b:=1) rfl rfl (by omega)) rfl<|L.a rfl rfl<|L.nil<|X.next (k + 1,b) ?_ ?_ ?_
    · exact ⟨rfl,rfl,rfl,rfl,rfl,rfl,rfl,trivial⟩
    ·
     have hsn:=wkL_snoc (n:=n) (cs:=cs) (o:=o) (T:=T) (b:=(none,z24.st)) hz43
     rw [if_neg (fun h9=>h9.1 hgd53)] at hsn
     exact ⟨hL.su,ho1,hoT,by omega,by rw [hsn,hbk],hm0⟩
    first | omega | (dsimp only; omega)
   simp only [Bool.not_eq_true',Bool.not_eq_false'] at hgd53
   rw [hbs _ hd1,decide_eq_false_iff_not] at hgd53
   refine L.on rfl rfl rfl (R1.move rfl) rfl<|L.on rfl rfl rfl (R1.move rfl) rfl<|L.on rfl rfl rfl ((R1.gt rfl rfl).asB (c:=(decide (b.2<(strZ n cs o z43.v.toNat)))) (rfl)) rfl<|L.v (R1.pickT rfl rfl) rfl<|L.nil<|X.seq<|W.cond rfl ?_ ?_
   ·
    intro hc57
    try simp only [bq,ne_eq] at hc57
    refine W.region<|L.m rfl rfl<|L.m rfl rfl<|L.a rfl rfl<|L.a rfl rfl<|L.nil<|X.blockEnd<|X.seq<|W.region<|L.m rfl rfl<|L.v (R1.addI (b:=1) rfl rfl (by omega)) rfl ?_
    refine L.a rfl rfl<|L.nil<|X.next (k + 1,(some z43.v.toNat,(strZ n cs o z43.v.toNat))) ?_ ?_ ?_
    · exact ⟨rfl,rfl,rfl,rfl,rfl,rfl,rfl,trivial⟩
    ·
     have hsn:=wkL_snoc (n:=n) (cs:=cs) (o:=o) (T:=T) (b:=(none,z24.st)) hz43
     rw [if_pos ⟨hgd53,by rw [← hbk]; exact hc57⟩] at hsn
     exact ⟨hL.su,ho1,hoT,by omega,hsn.symm,hm0⟩
    first | omega | (dsimp only; omega)
   intro hc57
   try simp only [bq,ne_eq] at hc57
   refine W.skip<|X.blockEnd<|X.seq<|W.region<|L.m rfl rfl<|L.v (R1.addI (b:=1) rfl rfl (by omega)) rfl<|L.a rfl rfl<|L.nil<|X.next (k + 1,b) ?_ ?_ ?_
   · exact ⟨rfl,rfl,rfl,rfl,rfl,rfl,rfl,trivial⟩
   ·
    have hsn:=wkL_snoc (n:=n) (cs:=cs) (o:=o) (T:=T) (b:=(none,z24.st)) hz43
    rw [if_neg (fun h9=>absurd h9.2 (by rw [← hbk]; omega))] at hsn
    exact ⟨hL.su,ho1,hoT,by omega,by rw [hsn,hbk],hm0⟩
   first | omega | (dsimp only; omega)
  intro hc32
  try simp only [bq,ne_eq] at hc32
  obtain rfl:k=z24.ts.length:=by omega
  have hwb:wkZ n cs o i T=b.1:=by rw [hC.wk_ hz24,hbk,List.take_length]
  refine W.exit<|X.thenExit<|X.nextExit<|X.here<|X.seq<|W.seq<|W.seq<|W.region<|L.m rfl rfl<|L.v ((R1.lt rfl rfl).asB (c:=(decide (b.1=none))) (fi_neg _)) rfl<|L.nil ?_
  refine X.seq<|W.cond rfl ?_ ?_
  ·
   intro hc61
   try simp only [bq,ne_eq] at hc61
   have hEo:=hE.stop (hwb.trans hc61)
   refine W.ret<|X.thenRet<|X.blockRet<|X.nextRet<|X.blockRet<|X.result0 rfl ?_
   rw [hEo] at ho1
   exact ⟨ho1,hm0⟩
  intro hc61
  try simp only [bq,ne_eq] at hc61
  obtain ⟨v,hvb⟩:=Option.ne_none_iff_exists'.1 hc61;have hwk:=hwb.trans hvb;have hv:=hC.wk_lt hz24 hwk
  have hfv:fi b.1=(v:Int):=by rw [hvb]; rfl
  obtain ⟨hE2,hby⟩:=hE.next hC0 hi0 hno0 hz24 hwk;have hol:=hC.len
  refine W.skip<|X.seq<|W.seq<|W.region<|L.m rfl rfl<|L.v ((R1.move rfl).asV (v:=.int .i64 ((v:Nat):Int)) (by rw [hfv])) rfl ?_
  have hO9:=Lay.of_Z (M:=[]) ho1 (by simp)
  refine L.call rfl (c_who hO9) rfl ?_
  rintro _ w6 ⟨rfl,hm6⟩
  replace hL:=hL.gr hm6;replace ho1:=own_gr ho1 hm6 (by simp);replace hoT:=own_gr hoT hm6 (by simp);replace hm0:=hm0.trans (hm6.mono (by simp));replace ht30:=ht30.gr hm6;replace hn30:=hn30.gr hm6;replace hd30:=hd30.gr hm6;clear hm6
  refine L.a rfl rfl<|L.nil<|X.seq<|W.seq<|W.seq<|W.region<|L.m rfl rfl<|L.v ((R1.ge rfl rfl).asB (c:=(decide (who o v≠none))) (fi_geq _)) rfl<|L.nil<|X.seq<|W.cut (ι:=Unit) (fun _=>[(0,.slice TL cs.length tL),(1,v1),(2,.int .i64 ((i:Nat):Int)),(8,v17),(9,.int .i64 (fi b.1)),(14,.int .i64 (fi (who o v)))]) (fun _ w_=>Lay rdC (ownL v17 ++ (ownL v1 ++ M)) w_ (.slice TL cs.length tL) cs∧w_.ownsRow B 3 1 v1 cs.length (intsZ (outP o (who o v)))∧w_.ownsRow w.heap.size 4 1 v17 n (boolsV bs)∧Mod (ownL v1) w w_) ?_ ?_
  ·
   refine W.cond rfl ?_ ?_
   ·
    intro hc66
    try simp only [bq,ne_eq] at hc66
    obtain ⟨j,hwj⟩:=Option.ne_none_iff_exists'.1 hc66;have hj:=hC.lt hwj
    have hfj:fi (who o v)=(j:Int):=by rw [hwj]; rfl
    refine W.region<|L.m rfl rfl<|L.m rfl rfl<|L.v (R1.atOwn (i:=j) rfl rfl ho1 tyS29 hfj hj) rfl<|L.storeZ rfl rfl ho1 hj tyP3 ?_
    intro w7 ho1' hm7
    replace hL:=hL.mo hm7;replace hoT:=own_away (s':=1) (el':=0) (k':=0) (B':=0) (ys:=[]) hoT hm7 (by first | assumption | exact Away.symm (by assumption));replace hm0:=hm0.trans (hm7.mono (by intro b hb; simp [hb]));replace ht30:=ht30.mo hm7;replace hn30:=hn30.mo hm7;replace hd30:=hd30.mo hm7;clear hm7;replace ho1:=ho1'; clear ho1'
    refine L.nil<|X.join () ?_ ?_
    · exact ⟨rfl,rfl,rfl,rfl,rfl,rfl,trivial⟩
    exact ⟨hL.su,by rw [hwj]; exact ho1,hoT,hm0⟩
   intro hc66
   try simp only [bq,ne_eq] at hc66
   refine W.skip<|X.join () ?_ ?_
   · exact ⟨rfl,rfl,rfl,rfl,rfl,rfl,trivial⟩
   exact ⟨hL.su,by rw [hc66]; exact ho1,hoT,hm0⟩
  rintro _ wj ⟨hL,ho1,hoT,hm0⟩
  refine X.seq<|W.seq<|W.region<|L.m rfl rfl<|L.m rfl rfl<|L.m rfl rfl<|L.v (R1.atOwn (i:=i) rfl rfl ho1 tyS29 rfl hi) rfl<|L.storeZ rfl rfl ho1 hi tyP3 ?_
  intro w8 ho1' hm8
  replace hL:=hL.mo hm8;replace hoT:=own_away (s':=1) (el':=0) (k':=0) (B':=0) (ys:=[]) hoT hm8 (by first | assumption | exact Away.symm (by assumption));replace hm0:=hm0.trans (hm8.mono (by intro b hb; simp [hb]));clear hm8;replace ho1:=ho1'; clear ho1'
  refine L.nil<|X.seq<|W.seq<|W.seq<|W.region<|L.a rfl rfl<|L.nil<|X.seq<|W.block<|W.loop (ι:=Nat × List Bool) (fun (k,bs2)=>[(0,.slice TL cs.length tL),(1,v1),(2,.int .i64 ((i:Nat):Int)),(8,v17),(14,.int .i64 (fi (who o v))),(15,.int .i64 ((k:Nat):Int))]) (fun (k,bs2) w_=>Lay rdC (ownL v17 ++ (ownL v1 ++ M)) w_ (.slice TL cs.length tL) cs∧w_.ownsRow B 3 1 v1 cs.length (intsZ ((outP o (who o v)).set i (v:Int)))∧w_.ownsRow w.heap.size 4 1 v17 n (boolsV bs2)∧(∀ x,x<n→bs2.getD x false=decide (x∈(takenL z24.ts k T)))∧k≤z24.ts.length∧Mod (ownL v1) w w_) (fun (k,bs2)=>z24.ts.length - k) (0,bs) ?_ ?_ ?_
  · exact ⟨rfl,rfl,rfl,rfl,rfl,rfl,trivial⟩
  ·
   exact ⟨hL.su,by rw [hfv] at ho1; exact ho1,hoT,hbs,Nat.zero_le _,hm0⟩
  rintro ⟨k,bs2⟩ w9 ⟨hL,ho1,hoT,hbs,hk,hm0⟩
  refine W.seq<|W.seq<|W.region<|L.m rfl rfl<|L.m rfl rfl<|L.m rfl rfl<|L.v (R1.atLay (j:=i) rfl rfl hL tyS22 rfl hi) rfl<|L.v (R1.fieldAddr rfl tyF47_1) rfl ?_
  obtain ⟨z79,cs79,hz79,hE79,vt79,ds79,rfl,ht79,vn79,vd79,rfl,hn79,hd79⟩:=Lay.elemQ hL (j:=i) hi;obtain ⟨T79,t79,rfl⟩:=ht79.form;obtain ⟨A79,c79,rfl⟩:=hn79.form;obtain ⟨B79,e79,rfl⟩:=hd79.form
  obtain rfl:z24=z79:=by have h9:=hz79; rw [hz24] at h9; injection h9
  refine L.v (R1.loadEF rfl hE79 rfl tyP44) rfl<|L.v (R1.lenLay rfl ht79 tyS44) rfl<|L.v (R1.lt rfl rfl) rfl<|L.nil<|X.seq<|W.cond rfl ?_ ?_
  ·
   intro hc81
   try simp only [bq,ne_eq] at hc81
   refine W.skip<|X.seq<|W.seq<|W.block<|W.region<|L.m rfl rfl<|L.m rfl rfl<|L.m rfl rfl<|L.v (R1.atLay (j:=i) rfl rfl hL tyS22 rfl hi) rfl<|L.v (R1.fieldAddr rfl tyF47_1) rfl ?_
   obtain ⟨z89,cs89,hz89,hE89,vt89,ds89,rfl,ht89,vn89,vd89,rfl,hn89,hd89⟩:=Lay.elemQ hL (j:=i) hi;obtain ⟨T89,t89,rfl⟩:=ht89.form;obtain ⟨A89,c89,rfl⟩:=hn89.form;obtain ⟨B89,e89,rfl⟩:=hd89.form
   obtain rfl:z24=z89:=by have h9:=hz89; rw [hz24] at h9; injection h9
   refine L.v (R1.loadEF rfl hE89 rfl tyP44) rfl<|L.m rfl rfl<|L.v (R1.atLay (j:=k) rfl rfl ht89 tyS44 rfl (by omega)) rfl<|L.v (R1.fieldAddr rfl tyF43_0) rfl ?_
   obtain ⟨z93,cs93,hz93,hE93,ds93,rfl,vn93,vd93,rfl,hn93,hd93⟩:=Lay.elemQ ht89 (j:=k) (by omega);obtain ⟨A93,c93,rfl⟩:=hn93.form;obtain ⟨B93,e93,rfl⟩:=hd93.form
   refine L.v (R1.loadEF rfl hE93 rfl tyP3) rfl ?_
   obtain ⟨hd1,hd2⟩:=hC.var hz24 (List.mem_of_getElem? hz93)
   refine L.v (R1.atOwn (i:=z93.v.toNat) rfl rfl hoT tyS109 (Int.toNat_of_nonneg hd2).symm hd1) rfl<|L.storeBo rfl rfl hoT hd1 tyP4 ?_
   intro w10 hoT' hm10
   replace hL:=hL.mo hm10;replace ho1:=own_away (s':=1) (el':=0) (k':=0) (B':=0) (ys:=[]) ho1 hm10 (by first | assumption | exact Away.symm (by assumption));replace hm0:=Mod.oldOwn hm0 hm10 hoT;replace ht79:=ht79.mo hm10;replace hn79:=hn79.mo hm10;replace hd79:=hd79.mo hm10;replace ht89:=ht89.mo hm10;replace hn89:=hn89.mo hm10;replace hd89:=hd89.mo hm10;replace hn93:=hn93.mo hm10;replace hd93:=hd93.mo hm10;clear hm10;replace hoT:=hoT'; clear hoT'
   refine L.nil<|X.blockEnd<|X.seq<|W.region<|L.m rfl rfl<|L.v (R1.addI (b:=1) rfl rfl (by omega)) rfl<|L.a rfl rfl<|L.nil ?_
   have hlb:n=bs2.length:=by have h9:=own_lenB hoT; rw [List.length_set] at h9; exact h9
   refine X.next (k + 1,bs2.set z93.v.toNat true) ?_ ?_ ?_
   · exact ⟨rfl,rfl,rfl,rfl,rfl,rfl,trivial⟩
   ·
    exact ⟨hL.su,ho1,hoT,takenB hlb hbs hz93 hd1,by omega,hm0⟩
   first | omega | (dsimp only; omega)
  intro hc81
  try simp only [bq,ne_eq] at hc81
  obtain rfl:k=z24.ts.length:=by omega
  refine W.exit<|X.thenExit<|X.nextExit<|X.here<|X.seq<|W.region<|L.m rfl rfl<|L.a rfl rfl<|L.nil<|X.blockEnd<|X.next (f - 1,((outP o (who o v)).set i (v:Int)),who o v,vsOf z24 ++ T,bs2) ?_ ?_ ?_
  · exact ⟨rfl,rfl,rfl,rfl,trivial⟩
  ·
   exact ⟨hL.su,ho1,hoT,(by rw [takenL_full] at hbs; exact hbs),hE2,hm0⟩
  first | omega | (dsimp only; omega)
 intro hc19
 try simp only [bq,ne_eq] at hc19
 subst hc19
 refine W.exit<|X.thenExit<|X.nextExit<|X.here<|X.fall0 rfl ?_
 rw [show o=enfZ n cs o0 i0 from hE] at ho1
 exact ⟨ho1,hm0⟩
theorem ext_getD {xs ys:List Int} (h:xs.length=ys.length) (h2:∀ j,j<xs.length→xs.getD j 0=ys.getD j 0):xs=ys:=by
  apply List.ext_getElem h
  intro i h3 h4
  have:=h2 i h3
  rwa [List.getD_eq_getElem?_getD,List.getD_eq_getElem?_getD,List.getElem?_eq_getElem h3,List.getElem?_eq_getElem h4] at this
def cmpZ (a b:Int):Int:=if a<b then -1 else if b<a then 1 else 0
theorem cmpZ_neg (a b:Int):decide (cmpZ a b<0)=decide (a<b):=by
  rw [decide_eq_decide]; unfold cmpZ; split <;> (try split) <;> omega
def CmpT (P:Program) (w:World) (f:FuncId) (us:List Value) (m:Nat) (ss:List Int) (G:List Nat):Prop:=∀ (w1:World) (a b:Nat),a<m→b<m→Mod G w w1→Ret P f ([Value.int .i64 (a:Int),Value.int .i64 (b:Int)] ++ us).toArray w1 (fun r w2=>r=.int .i64 (cmpZ (ss.getD a 0) (ss.getD b 0))∧Mod [] w1 w2)
theorem CmpT.mod {P:Program} {w w':World} {f:FuncId} {us:List Value} {m:Nat} {ss:List Int} {G:List Nat} (h:CmpT P w f us m ss G) (hm:Mod [] w w'):CmpT P w' f us m ss G:=fun w1 a b ha hb hm1=>h w1 a b ha hb ((hm.mono (by simp)).trans hm1)
theorem getD_mid {A B:List Nat} {x:Nat}:(A ++ x :: B).getD A.length 0=x:=by simp [List.getD_eq_getElem?_getD]
theorem getD_ahead {A B:List Nat} {x y:Nat}:((A ++ [y]) ++ x :: B).getD A.length 0=y:=by simp [List.getD_eq_getElem?_getD]
theorem set_swap {A B:List Nat} {x y:Nat}:(((A ++ [y]) ++ x :: B).set (A ++ [y]).length y).set A.length x=A ++ x :: y :: B:=by
  rw [List.set_append_right _ _ (Nat.le_refl _)]
  simp
theorem drop_range {n i:Nat} (h:i<n):(List.range n).drop i=i :: (List.range n).drop (i + 1):=by
  rw [List.drop_eq_getElem_cons (by simpa using h)]; simp
theorem Srt.start {ss:List Int} {n:Nat}:Srt ss (min 1 n) ((List.range n).take 1):=by
  cases n with
  | zero=>exact ⟨by simp,by simp⟩
  | succ n =>
    have e:min 1 (n + 1)=1:=by omega
    rw [e,List.range_succ_eq_map]
    exact ⟨by simp,fun x=>by simp⟩
theorem Srt.len {ss:List Int} {n:Nat} {A:List Nat} (h:Srt ss n A):A.length=n:=by
  have:=(Srt.ins (m:=n) h).len
  simpa using this
theorem snoc_inj {A C:List Nat} {x y:Nat} (h:A ++ [x]=C ++ [y]):x=y:=by
  have h8:=(List.append_inj' h rfl).2
  simpa using h8
theorem snoc_of {A:List Nat} (h:0<A.length):∃ A0 y,A=A0 ++ [y]:=by
  rcases List.eq_nil_or_concat A with e | ⟨A0,y,e⟩
  · subst e; cases h
  exact ⟨A0,y,by rw [e,List.concat_eq_append]⟩
theorem Ins.all {m:Nat} {ss:List Int} {i:Nat} {A B:List Nat} (h:Ins m ss i A B) (h2:∀ (A0:List Nat) (y:Nat),A=A0 ++ [y]→ss.getD y 0≤ss.getD i 0) {n:Nat} (hi:i<n):Srt ss (min (i + 1) n) (A ++ i :: B):=by
  rw [Nat.min_eq_left hi]; exact h.done h2
theorem c_isNaN {w : World} {a : Int} :
    Ret Tryz.prog 72 #[.int .i64 a] w (fun r w'=>r=.bool false∧Mod [] w w'):=by
 refine Ret.of (vs:=[.int .i64 a]) (n:=6) Tryz.func72 rfl rfl rfl rfl ?_
 have hm0:Mod [] w w:=Mod.refl _ _
 refine W.seq<|W.region<|L.a rfl rfl<|L.nil<|X.seq<|W.seq<|W.region<|L.m rfl rfl<|L.m rfl rfl<|L.v ((R1.ne rfl rfl).asB (c:=false) (by simp)) rfl<|L.a rfl rfl ?_
 refine L.nil<|X.seq<|W.ret<|X.result1 rfl (.tmp rfl .nil) ?_
 exact ⟨rfl,hm0⟩
theorem c_Compare {w : World} {a b : Int} :
    Ret Tryz.prog 40 #[.int .i64 a,.int .i64 b] w (fun r w'=>r=.int .i64 (cmpZ a b)∧Mod [] w w'):=by
 refine Ret.of (vs:=[.int .i64 a,.int .i64 b]) (n:=20) Tryz.func40 rfl rfl rfl rfl ?_
 have hm0:Mod [] w w:=Mod.refl _ _
 refine W.seq<|W.region<|L.a rfl rfl<|L.nil<|X.seq<|W.seq<|W.region<|L.m rfl rfl<|L.call rfl (c_isNaN) rfl ?_
 rintro _ w1 ⟨rfl,hm1⟩
 replace hm0:=hm0.trans hm1;clear hm1
 refine L.a rfl rfl<|L.nil<|X.seq<|W.seq<|W.region<|L.m rfl rfl<|L.call rfl (c_isNaN) rfl ?_
 rintro _ w2 ⟨rfl,hm2⟩
 replace hm0:=hm0.trans hm2;clear hm2
 refine L.a rfl rfl<|L.nil<|X.seq<|W.seq<|W.seq<|W.region<|L.m rfl rfl<|L.nil<|X.seq<|W.condF rfl<|W.skip ?_
 refine X.seq<|W.seq<|W.seq<|W.region<|L.m rfl rfl<|L.nil<|X.seq<|W.condF rfl<|W.skip<|X.seq<|W.seq ?_
 refine W.seq<|W.region<|L.m rfl rfl<|L.m rfl rfl<|L.v (R1.lt rfl rfl) rfl<|L.nil<|X.seq<|W.cond rfl ?_ ?_
 ·
  intro hc16
  try simp only [bq,ne_eq] at hc16
  refine W.seq<|W.region<|L.a rfl rfl<|L.nil<|X.seq<|W.ret<|X.thenRet<|X.result1 rfl (.tmp rfl .nil) ?_
  rw [show cmpZ a b=-1 from if_pos hc16]
  exact ⟨rfl,hm0⟩
 intro hc16
 try simp only [bq,ne_eq] at hc16
 refine W.skip<|X.seq<|W.seq<|W.seq<|W.region<|L.m rfl rfl<|L.m rfl rfl<|L.v (R1.gt rfl rfl) rfl<|L.nil<|X.seq<|W.cond rfl ?_ ?_
 ·
  intro hc19
  try simp only [bq,ne_eq] at hc19
  refine W.seq<|W.region<|L.a rfl rfl<|L.nil<|X.seq<|W.ret<|X.thenRet<|X.result1 rfl (.tmp rfl .nil) ?_
  rw [show cmpZ a b=1 by unfold cmpZ; rw [if_neg (by omega),if_pos (by omega)]]
  exact ⟨rfl,hm0⟩
 intro hc19
 try simp only [bq,ne_eq] at hc19
 refine W.skip<|X.seq<|W.seq<|W.region<|L.a rfl rfl<|L.nil<|X.seq<|W.ret<|X.result1 rfl (.tmp rfl .nil) ?_
 rw [show cmpZ a b=0 by unfold cmpZ; rw [if_neg (by omega),if_neg (by omega)]]
 exact ⟨rfl,hm0⟩
theorem c_cmpF {M : List Nat} {w : World} {g : Nat} {vl : Value} {cs : List CR} {a b : Nat} (hb : Blk w g 22 #[vl]) (hL : Lay rdC M w vl cs) (ha : a < cs.length) (hb9 : b < cs.length) :
    Ret Tryz.prog 39 #[.int .i64 ((a:Nat):Int),.int .i64 ((b:Nat):Int),.pointer (some ⟨g,0,none⟩)] w (fun r w'=>r=.int .i64 (cmpZ ((stS cs).getD a 0) ((stS cs).getD b 0))∧Mod [] w w'):=by
 obtain ⟨TL,tL,rfl⟩:=hL.form
 refine Ret.of (vs:=[.int .i64 ((a:Nat):Int),.int .i64 ((b:Nat):Int),.pointer (some ⟨g,0,none⟩)]) (n:=17) Tryz.func39 rfl rfl rfl rfl ?_
 have hm0:Mod [] w w:=Mod.refl _ _
 refine W.seq<|W.region<|L.a rfl rfl<|L.nil<|X.seq<|W.seq<|W.drawW (T:=[]) rfl (by decide +kernel) (NoHang.then NoHang.post) (fun w1 hm1=>?_)
 replace hb:=Blk.gr hb hm1;replace hL:=hL.gr hm1;replace hm0:=hm0.trans hm1
 have hS1:Mod [] w1 w1:=Mod.refl _ _
 clear hm1;have hb_s:=hb
 refine D.take 0 rfl (by kernel_rfl) (fun w_ hS=>(R1.loadFld rfl (Blk.gr hb_s hS) rfl tyP22)) hS1 rfl<|D.m 1 rfl (by kernel_rfl) rfl hS1 rfl<|D.take 2 rfl (by kernel_rfl) (fun w_ hS=>(R1.atLay (j:=a) rfl rfl (Lay.gr hL hS) tyS22 rfl ha)) hS1 rfl<|D.take 3 rfl (by kernel_rfl) (fun w_ hS=>(R1.fieldAddr rfl tyF47_0)) hS1 rfl ?_
 obtain ⟨z10,cs10,hz10,hE10,vt10,ds10,rfl,ht10,vn10,vd10,rfl,hn10,hd10⟩:=Lay.elemQ hL (j:=a) ha;obtain ⟨T10,t10,rfl⟩:=ht10.form;obtain ⟨A10,c10,rfl⟩:=hn10.form;obtain ⟨B10,e10,rfl⟩:=hd10.form
 refine D.take 4 rfl (by kernel_rfl) (fun w_ hS=>(R1.loadEF rfl (SlE.gr hE10 hS) rfl tyP3)) hS1 rfl<|D.take 5 rfl (by kernel_rfl) (fun w_ hS=>(R1.loadFld rfl (Blk.gr hb_s hS) rfl tyP22)) hS1 rfl<|D.m 6 rfl (by kernel_rfl) rfl hS1 rfl<|D.take 7 rfl (by kernel_rfl) (fun w_ hS=>(R1.atLay (j:=b) rfl rfl (Lay.gr hL hS) tyS22 rfl hb9)) hS1 rfl<|D.take 8 rfl (by kernel_rfl) (fun w_ hS=>(R1.fieldAddr rfl tyF47_0)) hS1 rfl ?_
 obtain ⟨z15,cs15,hz15,hE15,vt15,ds15,rfl,ht15,vn15,vd15,rfl,hn15,hd15⟩:=Lay.elemQ hL (j:=b) hb9;obtain ⟨T15,t15,rfl⟩:=ht15.form;obtain ⟨A15,c15,rfl⟩:=hn15.form;obtain ⟨B15,e15,rfl⟩:=hd15.form
 refine D.take 9 rfl (by kernel_rfl) (fun w_ hS=>(R1.loadEF rfl (SlE.gr hE15 hS) rfl tyP3)) hS1 rfl<|D.one 10 rfl (by kernel_rfl) (fun hX=>?_)
 refine L.call rfl (c_Compare) rfl ?_
 rintro _ w2 ⟨rfl,hm2⟩
 replace hm0:=hm0.trans hm2;replace hS1:=hS1.trans hm2;clear hm2
 refine L.nil (hX _ _ ⟨.inr hS1,?_⟩)
 refine D.take 11 rfl (by kernel_rfl) (fun w_ hS=>(R1.assign rfl)) hS1 rfl<|D.done (by decide +kernel) ?_ _
 refine X.seq<|W.ret<|X.result1 rfl (.tmp rfl .nil) ?_
 rw [stS_get hz10,stS_get hz15]
 exact ⟨rfl,hm0⟩
theorem c_insort {w : World} {v : Value} {B n : Nat} {f : FuncId} {us : List Value} {ss : List Int} (ho : w.ownsRow B 3 1 v n (ints (List.range n))) (hT : CmpT Tryz.prog w f us n ss (ownL v)) (hn : n ≤ 20) :
    Ret Tryz.prog 100 #[v,.int .i64 ((0:Nat):Int),.int .i64 ((n:Nat):Int),.func (.func f) #[] us.toArray] w (fun r w'=>∃ L,Srt ss n L∧w'.ownsRow B 3 1 v n (ints L)∧Mod (ownL v) w w'):=by
 refine Ret.of (vs:=[v,.int .i64 ((0:Nat):Int),.int .i64 ((n:Nat):Int),.func (.func f) #[] us.toArray]) (n:=53) Tryz.func100 rfl rfl rfl rfl ?_
 have hm0:Mod (ownL v) w w:=Mod.refl _ _
 refine W.seq<|W.region<|L.m rfl rfl<|L.v (R1.addI (b:=1) rfl rfl (by omega)) rfl<|L.a rfl rfl<|L.nil<|X.seq<|W.block<|W.loop (ι:=Nat × List Nat) (fun (i,A)=>[(0,v),(1,.int .i64 ((0:Nat):Int)),(2,.int .i64 ((n:Nat):Int)),(3,.func (.func f) #[] us.toArray),(8,.int .i64 ((i:Nat):Int))]) (fun (i,A) w_=>w_.ownsRow B 3 1 v n (ints (A ++ (List.range n).drop i))∧Srt ss (min i n) A∧1≤i∧i≤max n 1∧Mod (ownL v) w w_) (fun (i,A)=>n + 1 - i) (1,(List.range n).take 1) ?_ ?_ ?_
 · exact ⟨rfl,rfl,rfl,rfl,rfl,trivial⟩
 ·
  exact ⟨by rw [List.take_append_drop]; exact ho,Srt.start,Nat.le_refl _,by omega,hm0⟩
 rintro ⟨i,A⟩ w1 ⟨ho,hs,hi1,hi,hm0⟩
 refine W.seq<|W.seq<|W.region<|L.m rfl rfl<|L.m rfl rfl<|L.v (R1.lt rfl rfl) rfl<|L.nil<|X.seq<|W.cond rfl ?_ ?_
 ·
  intro hc14
  try simp only [bq,ne_eq] at hc14
  have hin:i<n:=by omega
  refine W.skip<|X.seq<|W.seq<|W.block<|W.seq<|W.region<|L.m rfl rfl<|L.a rfl rfl<|L.nil<|X.seq<|W.block ?_
  have hmin:min i n=i:=by omega
  rw [hmin] at hs
  have hAl:A.length=i:=hs.len
  refine W.loop (ι:=List Nat × List Nat) (fun (A1,B1)=>[(0,v),(1,.int .i64 ((0:Nat):Int)),(2,.int .i64 ((n:Nat):Int)),(3,.func (.func f) #[] us.toArray),(8,.int .i64 ((i:Nat):Int)),(9,.int .i64 ((A1.length:Nat):Int))]) (fun (A1,B1) w_=>w_.ownsRow B 3 1 v n (ints (A1 ++ i :: (B1 ++ (List.range n).drop (i + 1))))∧Ins n ss i A1 B1∧Mod (ownL v) w w_) (fun (A1,B1)=>A1.length) (A,[]) ?_ ?_ ?_
  · exact ⟨rfl,rfl,rfl,rfl,rfl,by rw [hAl]; rfl,trivial⟩
  ·
   exact ⟨by rw [drop_range hin] at ho; exact ho,hs.ins,hm0⟩
  rintro ⟨A1,B1⟩ w2 ⟨ho,hI,hm0⟩
  refine W.seq<|W.seq<|W.drawW (T:=[]) rfl (by decide +kernel) (NoHang.then (NoHang.then (NoHang.next (NoHang.block (NoHang.block (NoHang.then (NoHang.next (NoHang.block NoHang.post)))))))) (fun w3 hm3=>?_)
  replace ho:=own_gr ho hm3 (by simp);replace hm0:=hm0.trans (hm3.mono (by simp))
  have hS1:Mod [] w3 w3:=Mod.refl _ _
  clear hm3
  refine D.m 0 rfl (by kernel_rfl) rfl hS1 rfl<|D.m 1 rfl (by kernel_rfl) rfl hS1 rfl<|D.take 2 rfl (by kernel_rfl) (fun w_ hS=>((R1.gt rfl rfl).asB (c:=(decide (0<A1.length))) (by rw [decide_eq_decide]; omega))) hS1 rfl<|D.m 3 rfl (by kernel_rfl) rfl hS1 rfl ?_
  cases hgd21:(decide (0<A1.length))
  ·
   try simp only [bq,ne_eq] at hgd21
   refine D.off 4 rfl rfl rfl rfl rfl (by kernel_rfl) hS1 rfl<|D.off 5 rfl rfl rfl rfl rfl (by kernel_rfl) hS1 rfl<|D.off 6 rfl rfl rfl rfl rfl (by kernel_rfl) hS1 rfl<|D.off 7 rfl rfl rfl rfl rfl (by kernel_rfl) hS1 rfl<|D.off 8 rfl rfl rfl rfl rfl (by kernel_rfl) hS1 rfl<|D.off 9 rfl rfl rfl rfl rfl (by kernel_rfl) hS1 rfl<|D.off 10 rfl rfl rfl rfl rfl (by kernel_rfl) hS1 rfl<|D.off 11 rfl rfl rfl rfl rfl (by kernel_rfl) hS1 rfl<|D.off 12 rfl rfl rfl rfl rfl (by kernel_rfl) hS1 rfl<|D.off 13 rfl rfl rfl rfl rfl (by kernel_rfl) hS1 rfl<|D.off 14 rfl rfl rfl rfl rfl (by kernel_rfl) hS1 rfl ?_
   refine D.off 15 rfl rfl rfl rfl rfl (by kernel_rfl) hS1 rfl<|D.take 16 rfl (by kernel_rfl) (fun w_ hS=>(R1.pickF rfl rfl)) hS1 rfl<|D.done (by decide +kernel) ?_ _
   refine X.seq<|W.condF rfl<|W.exit<|X.thenExit<|X.nextExit<|X.here<|X.blockEnd<|X.seq<|W.region<|L.m rfl rfl<|L.v (R1.addI (b:=1) rfl rfl (by omega)) rfl ?_
   refine L.a rfl rfl<|L.nil<|X.next (i + 1,A1 ++ i :: B1) ?_ ?_ ?_
   · exact ⟨rfl,rfl,rfl,rfl,rfl,trivial⟩
   ·
    have hmin:A1.length + B1.length=i:=hI.len
    exact ⟨own_congr ho rfl (by simp),hI.all (fun A0 y e=>by rw [e] at hgd21; simp at hgd21) hin,by omega,by omega,hm0⟩
   first | omega | (dsimp only; omega)
  try simp only [bq,ne_eq] at hgd21
  obtain ⟨A0,y,rfl⟩:=snoc_of hgd21;have hlen:=hI.len
  have hjn:(A0 ++ [y]).length<n:=by omega
  have hj0:A0.length<n:=by rw [List.length_append] at hjn; omega
  have hyn:y<n:=Nat.lt_trans ((hI.mem y).1 (by simp)) hin
  have hDj:=getD_mid (A:=A0 ++ [y]) (B:=B1 ++ (List.range n).drop (i + 1)) (x:=i);have hDy:=getD_ahead (A:=A0) (B:=B1 ++ (List.range n).drop (i + 1)) (x:=i) (y:=y)
  refine D.takeOn 4 rfl rfl rfl rfl (by kernel_rfl) (fun w_ hS=>(R1.move rfl)) hS1 rfl<|D.takeOn 5 rfl rfl rfl rfl (by kernel_rfl) (fun w_ hS=>(R1.move rfl)) hS1 rfl<|D.takeOn 6 rfl rfl rfl rfl (by kernel_rfl) (fun w_ hS=>(R1.move rfl)) hS1 rfl<|D.takeOn 7 rfl rfl rfl rfl (by kernel_rfl) (fun w_ hS=>(R1.atOwn (i:=(A0 ++ [y]).length) rfl rfl (own_gr ho hS (by simp)) tyS29 rfl hjn)) hS1 rfl<|D.takeOn 8 rfl rfl rfl rfl (by kernel_rfl) (fun w_ hS=>((R1.ldLab rfl (own_gr ho hS (by simp)) hjn tyP3).asV (v:=.int .i64 ((i:Nat):Int)) (by rw [hDj]))) hS1 rfl<|D.takeOn 9 rfl rfl rfl rfl (by kernel_rfl) (fun w_ hS=>(R1.move rfl)) hS1 rfl<|D.takeOn 10 rfl rfl rfl rfl (by kernel_rfl) (fun w_ hS=>(R1.move rfl)) hS1 rfl<|D.takeOn 11 rfl rfl rfl rfl (by kernel_rfl) (fun w_ hS=>((R1.subI (b:=1) rfl rfl (by omega) (by omega)).as (j:=((A0.length:Nat):Int)) (by simp))) hS1 rfl<|D.takeOn 12 rfl rfl rfl rfl (by kernel_rfl) (fun w_ hS=>(R1.atOwn (i:=A0.length) rfl rfl (own_gr ho hS (by simp)) tyS29 rfl hj0)) hS1 rfl<|D.takeOn 13 rfl rfl rfl rfl (by kernel_rfl) (fun w_ hS=>((R1.ldLab rfl (own_gr ho hS (by simp)) hj0 tyP3).asV (v:=.int .i64 ((y:Nat):Int)) (by rw [hDy]))) hS1 rfl<|D.one 14 rfl (by kernel_rfl) (fun hX=>?_)
  refine L.guardOn rfl rfl rfl<|L.callV rfl rfl (hT _ i y hin hyn hm0) rfl ?_
  rintro _ w4 ⟨rfl,hm4⟩
  replace ho:=own_gr ho hm4 (by simp);replace hm0:=hm0.trans (hm4.mono (by simp));replace hS1:=hS1.trans hm4;clear hm4
  refine L.nil (hX _ _ ⟨.inr hS1,?_⟩)
  refine D.takeOn 15 rfl rfl rfl rfl (by kernel_rfl) (fun w_ hS=>((R1.lt rfl rfl).asB (c:=(decide (ss.getD i 0<ss.getD y 0))) (cmpZ_neg _ _))) hS1 rfl<|D.take 16 rfl (by kernel_rfl) (fun w_ hS=>(R1.pickT rfl rfl)) hS1 rfl<|D.done (by decide +kernel) ?_ _
  refine X.seq<|W.cond rfl ?_ ?_
  ·
   intro hc34
   try simp only [bq,ne_eq] at hc34
   refine W.skip<|X.seq<|W.seq<|W.block<|W.drawW (T:=[2,3,4,15,16,17]) rfl (by decide +kernel) (NoHang.block (NoHang.then (NoHang.next (NoHang.block (NoHang.block (NoHang.then (NoHang.next (NoHang.block NoHang.post)))))))) (fun w5 hm5=>?_)
   replace ho:=own_gr ho hm5 (by simp);replace hm0:=hm0.trans (hm5.mono (by simp))
   have hS2:Mod [] w5 w5:=Mod.refl _ _
   clear hm5
   refine D.takeW 2 rfl (by kernel_rfl) rfl (fun w_=>(R1.move rfl)) rfl<|D.takeW 3 rfl (by kernel_rfl) rfl (fun w_=>(R1.move rfl)) rfl<|D.takeW 4 rfl (by kernel_rfl) rfl (fun w_=>((R1.subI (b:=1) rfl rfl (by omega) (by omega)).as (j:=((A0.length:Nat):Int)) (by simp))) rfl<|D.shrink (T1:=[15,16,17]) (by decide +kernel)<|D.m 0 rfl (by kernel_rfl) rfl hS2 rfl<|D.m 1 rfl (by kernel_rfl) rfl hS2 rfl<|D.m 5 rfl (by kernel_rfl) rfl hS2 rfl<|D.m 6 rfl (by kernel_rfl) rfl hS2 rfl<|D.take 7 rfl (by kernel_rfl) (fun w_ hS=>((R1.subI (b:=1) rfl rfl (by omega) (by omega)).as (j:=((A0.length:Nat):Int)) (by simp))) hS2 rfl<|D.take 8 rfl (by kernel_rfl) (fun w_ hS=>(R1.atOwn (i:=A0.length) rfl rfl (own_gr ho hS (by simp)) tyS29 rfl hj0)) hS2 rfl<|D.take 9 rfl (by kernel_rfl) (fun w_ hS=>((R1.ldLab rfl (own_gr ho hS (by simp)) hj0 tyP3).asV (v:=.int .i64 ((y:Nat):Int)) (by rw [hDy]))) hS2 rfl ?_
   refine D.m 10 rfl (by kernel_rfl) rfl hS2 rfl<|D.m 11 rfl (by kernel_rfl) rfl hS2 rfl<|D.take 12 rfl (by kernel_rfl) (fun w_ hS=>(R1.atOwn (i:=(A0 ++ [y]).length) rfl rfl (own_gr ho hS (by simp)) tyS29 rfl hjn)) hS2 rfl<|D.take 13 rfl (by kernel_rfl) (fun w_ hS=>((R1.ldLab rfl (own_gr ho hS (by simp)) hjn tyP3).asV (v:=.int .i64 ((i:Nat):Int)) (by rw [hDj]))) hS2 rfl<|D.take 14 rfl (by kernel_rfl) (fun w_ hS=>(R1.atOwn (i:=(A0 ++ [y]).length) rfl rfl (own_gr ho hS (by simp)) tyS29 rfl hjn)) hS2 rfl<|D.one 15 rfl (by kernel_rfl) (fun hX=>?_)
   refine L.storeLab rfl rfl ho hjn tyP3 ?_
   intro w6 ho' hm6
   replace hm0:=hm0.trans (hm6.mono (by intro b hb; simp [hb]));clear hm6;replace ho:=ho'; clear ho'
   refine L.nil (hX _ _ ⟨.inl rfl,?_⟩)
   refine D.one 16 rfl (by kernel_rfl) (fun hX=>?_)
   refine L.v (R1.atOwn (i:=A0.length) rfl rfl ho tyS29 rfl hj0) rfl (L.nil (hX _ _ ⟨.inl rfl,?_⟩))
   refine D.one 17 rfl (by kernel_rfl) (fun hX=>?_)
   refine L.storeLab rfl rfl ho hj0 tyP3 ?_
   intro w7 ho' hm7
   replace hm0:=hm0.trans (hm7.mono (by intro b hb; simp [hb]));clear hm7;replace ho:=ho'; clear ho'
   refine L.nil (hX _ _ ⟨.inl rfl,?_⟩)
   refine D.done (by decide +kernel) ?_ _
   refine X.blockEnd<|X.seq<|W.region<|L.m rfl rfl<|L.v ((R1.subI (b:=1) rfl rfl (by omega) (by omega)).as (j:=((A0.length:Nat):Int)) (by simp)) rfl<|L.a rfl rfl<|L.nil<|X.next (A0,y :: B1) ?_ ?_ ?_
   · exact ⟨rfl,rfl,rfl,rfl,rfl,rfl,trivial⟩
   ·
    exact ⟨own_congr ho rfl (by rw [set_swap]; rfl),hI.step hc34,hm0⟩
   dsimp only; rw [List.length_append]; exact Nat.lt_succ_self _
  intro hc34
  try simp only [bq,ne_eq] at hc34
  refine W.exit<|X.thenExit<|X.nextExit<|X.here<|X.blockEnd<|X.seq<|W.region<|L.m rfl rfl<|L.v (R1.addI (b:=1) rfl rfl (by omega)) rfl<|L.a rfl rfl<|L.nil ?_
  refine X.next (i + 1,(A0 ++ [y]) ++ i :: B1) ?_ ?_ ?_
  · exact ⟨rfl,rfl,rfl,rfl,rfl,trivial⟩
  ·
   have hlen9:=hI.len
   exact ⟨own_congr ho rfl (by simp),hI.all (fun A9 y9 e=>by rw [← snoc_inj e]; omega) hin,by omega,by omega,hm0⟩
  first | omega | (dsimp only; omega)
 intro hc14
 try simp only [bq,ne_eq] at hc14
 refine W.exit<|X.thenExit<|X.nextExit<|X.here<|X.fall0 rfl ?_
 have hmin:min i n=n:=by omega
 rw [hmin] at hs
 exact ⟨A,hs,own_congr ho rfl (by rw [List.drop_eq_nil_of_le (by simp; omega),List.append_nil]),hm0⟩
theorem c_insN {w : World} {v : Value} {B n : Nat} {f : FuncId} {us : List Value} {ss : List Int} {L0 : List Nat} (ho : w.ownsRow B 3 1 v n (ints L0)) (h0 : Srt ss n L0) (hn : n ≤ 20) :
    Ret Tryz.prog 100 #[v,.int .i64 ((n:Nat):Int),.int .i64 ((n:Nat):Int),.func (.func f) #[] us.toArray] w (fun r w'=>∃ L,Srt ss n L∧w'.ownsRow B 3 1 v n (ints L)∧Mod (ownL v) w w'):=by
 refine Ret.of (vs:=[v,.int .i64 ((n:Nat):Int),.int .i64 ((n:Nat):Int),.func (.func f) #[] us.toArray]) (n:=53) Tryz.func100 rfl rfl rfl rfl ?_
 have hm0:Mod (ownL v) w w:=Mod.refl _ _
 refine W.seq<|W.region<|L.m rfl rfl<|L.v (R1.addI (b:=1) rfl rfl (by omega)) rfl<|L.a rfl rfl<|L.nil<|X.seq<|W.block<|W.loop (ι:=Unit) (fun _=>[(0,v),(1,.int .i64 ((n:Nat):Int)),(2,.int .i64 ((n:Nat):Int)),(3,.func (.func f) #[] us.toArray),(8,.int .i64 (((n + 1):Nat):Int))]) (fun _ w_=>w_.ownsRow B 3 1 v n (ints L0)∧Mod (ownL v) w w_) (fun _=>0) () ?_ ?_ ?_
 · exact ⟨rfl,rfl,rfl,rfl,rfl,trivial⟩
 ·
  exact ⟨ho,hm0⟩
 rintro _ w1 ⟨ho,hm0⟩
 refine W.seq<|W.seq<|W.region<|L.m rfl rfl<|L.m rfl rfl<|L.v (R1.lt rfl rfl) rfl<|L.nil<|X.seq<|W.cond rfl ?_ ?_
 ·
  intro hc14
  try simp only [bq,ne_eq] at hc14
  omega
 intro hc14
 try simp only [bq,ne_eq] at hc14
 refine W.exit<|X.thenExit<|X.nextExit<|X.here<|X.fall0 rfl ?_
 exact ⟨L0,h0,ho,hm0⟩
theorem c_insort2 {w:World} {v:Value} {B n a:Nat} {f:FuncId} {us:List Value} {ss:List Int} {L0:List Nat} (ho:w.ownsRow B 3 1 v n (ints L0)) (h0:(a=0∧L0=List.range n)∨(a=20∧n=20∧Srt ss n L0)) (hT:CmpT Tryz.prog w f us n ss (ownL v)) (hn:n≤20):Ret Tryz.prog 100 #[v,.int .i64 ((a:Nat):Int),.int .i64 ((n:Nat):Int),.func (.func f) #[] us.toArray] w (fun r w'=>∃ L,Srt ss n L∧w'.ownsRow B 3 1 v n (ints L)∧Mod (ownL v) w w'):=by
  rcases h0 with ⟨rfl,rfl⟩ | ⟨rfl,rfl,h0⟩
  · exact c_insort ho hT hn
  exact c_insN ho h0 hn
theorem c_stable {w : World} {v : Value} {B n : Nat} {f : FuncId} {us : List Value} {ss : List Int} (ho : w.ownsRow B 3 1 v n (ints (List.range n))) (hT : CmpT Tryz.prog w f us n ss (ownL v)) (hn : n ≤ 20) :
    Ret Tryz.prog 71 #[v,.int .i64 ((n:Nat):Int),.func (.func f) #[] us.toArray] w (fun r w'=>∃ L,Srt ss n L∧w'.ownsRow B 3 1 v n (ints L)∧Mod (ownL v) w w'):=by
 refine Ret.of (vs:=[v,.int .i64 ((n:Nat):Int),.func (.func f) #[] us.toArray]) (n:=63) Tryz.func71 rfl rfl rfl rfl ?_
 have hm0:Mod (ownL v) w w:=Mod.refl _ _
 refine W.seq<|W.region<|L.a rfl rfl<|L.nil<|X.seq<|W.seq<|W.region<|L.m rfl rfl<|L.a rfl rfl<|L.a rfl rfl<|L.nil ?_
 refine X.seq<|W.seq<|W.block<|W.loop (ι:=Nat × List Nat) (fun (a,L0)=>[(0,v),(1,.int .i64 ((n:Nat):Int)),(2,.func (.func f) #[] us.toArray),(6,.int .i64 ((20:Nat):Int)),(7,.int .i64 ((a:Nat):Int)),(8,.int .i64 (((a + 20):Nat):Int))]) (fun (a,L0) w_=>w_.ownsRow B 3 1 v n (ints L0)∧((a=0∧L0=List.range n)∨(a=20∧n=20∧Srt ss n L0))∧Mod (ownL v) w w_) (fun (a,L0)=>20 - a) (0,List.range n) ?_ ?_ ?_
 · exact ⟨rfl,rfl,rfl,rfl,rfl,rfl,trivial⟩
 ·
  exact ⟨ho,.inl ⟨rfl,rfl⟩,hm0⟩
 rintro ⟨a,L0⟩ w1 ⟨ho,h0,hm0⟩
 refine W.seq<|W.seq<|W.region<|L.m rfl rfl<|L.m rfl rfl<|L.v (R1.le rfl rfl) rfl<|L.nil<|X.seq<|W.cond rfl ?_ ?_
 ·
  intro hc13
  try simp only [bq,ne_eq] at hc13
  obtain ⟨rfl,rfl⟩:a=0∧L0=List.range n:=by rcases h0 with h | h; exact h; omega
  obtain rfl:n=20:=by omega
  refine W.skip<|X.seq<|W.block<|W.seq<|W.region<|L.m rfl rfl<|L.m rfl rfl<|L.m rfl rfl<|L.m rfl rfl<|L.call rfl (c_insort2 ho (.inl ⟨rfl,rfl⟩) (fun w1 a b ha hb hm=>hT w1 a b ha hb (hm0.trans hm)) hn) rfl ?_
  rintro _ w2 ⟨L9,hL9,ho9,hm2⟩
  replace hm0:=hm0.trans (hm2.mono (by intro b hb; simp [hb]));clear hm2;replace ho:=ho9;clear ho9
  refine L.nil<|X.seq<|W.seq<|W.region<|L.m rfl rfl<|L.a rfl rfl<|L.nil<|X.seq<|W.region<|L.m rfl rfl<|L.m rfl rfl ?_
  refine L.v (R1.addI rfl rfl (by omega)) rfl<|L.a rfl rfl<|L.nil<|X.blockEnd<|X.next (20,L9) ?_ ?_ ?_
  · exact ⟨rfl,rfl,rfl,rfl,rfl,rfl,trivial⟩
  ·
   exact ⟨ho,.inr ⟨rfl,rfl,hL9⟩,hm0⟩
  first | omega | (dsimp only; omega)
 intro hc13
 try simp only [bq,ne_eq] at hc13
 refine W.exit<|X.thenExit<|X.nextExit<|X.here<|X.seq<|W.seq<|W.region<|L.m rfl rfl<|L.m rfl rfl<|L.m rfl rfl<|L.m rfl rfl ?_
 refine L.call rfl (c_insort2 ho h0 (fun w1 a b ha hb hm=>hT w1 a b ha hb (hm0.trans hm)) hn) rfl ?_
 rintro _ w3 ⟨L9,hL9,ho9,hm3⟩
 replace hm0:=hm0.trans (hm3.mono (by intro b hb; simp [hb]));clear hm3;replace ho:=ho9;clear ho9
 refine L.nil<|X.seq<|W.block<|W.loop (ι:=Unit) (fun _=>[(0,v),(1,.int .i64 ((n:Nat):Int)),(2,.func (.func f) #[] us.toArray),(6,.int .i64 ((20:Nat):Int))]) (fun _ w_=>w_.ownsRow B 3 1 v n (ints L9)∧Mod (ownL v) w w_) (fun _=>0) () ?_ ?_ ?_
 · exact ⟨rfl,rfl,rfl,rfl,trivial⟩
 ·
  exact ⟨ho,hm0⟩
 rintro _ w4 ⟨ho,hm0⟩
 refine W.seq<|W.seq<|W.region<|L.m rfl rfl<|L.m rfl rfl<|L.v (R1.lt rfl rfl) rfl<|L.nil<|X.seq<|W.cond rfl ?_ ?_
 ·
  intro hc30
  try simp only [bq,ne_eq] at hc30
  omega
 intro hc30
 try simp only [bq,ne_eq] at hc30
 refine W.exit<|X.thenExit<|X.nextExit<|X.here<|X.fall0 rfl ?_
 exact ⟨L9,hL9,ho,hm0⟩
theorem c_SortStable {w : World} {v : Value} {B n : Nat} {f : FuncId} {us : List Value} {ss : List Int} (ho : w.ownsRow B 3 1 v n (ints (List.range n))) (hT : CmpT Tryz.prog w f us n ss (ownL v)) (hn : n ≤ 20) :
    Ret Tryz.prog 38 #[v,.func (.func f) #[] us.toArray] w (fun r w'=>∃ L,Srt ss n L∧w'.ownsRow B 3 1 v n (ints L)∧Mod (ownL v) w w'):=by
 refine Ret.of (vs:=[v,.func (.func f) #[] us.toArray]) (n:=9) Tryz.func38 rfl rfl rfl rfl ?_
 have hm0:Mod (ownL v) w w:=Mod.refl _ _
 refine W.region<|L.m rfl rfl<|L.m rfl rfl<|L.v (R1.lenOwn rfl ho tyS29) rfl<|L.m rfl rfl<|L.call rfl (c_stable ho hT hn) rfl ?_
 rintro _ w1 ⟨L9,hL9,ho9,hm1⟩
 replace hm0:=hm0.trans (hm1.mono (by intro b hb; simp [hb]));clear hm1;replace ho:=ho9;clear ho9
 refine L.nil<|X.fall0 rfl ?_
 exact ⟨L9,hL9,ho,hm0⟩
theorem c_EqualI {N9 N8 : List Nat} {w : World} {va vb : Value} {xs ys : List Int} (h : Lay rdI N9 w va xs) (k : Lay rdI N8 w vb ys) :
    Ret Tryz.prog 41 #[va,vb] w (fun r w'=>r=.bool (decide (xs=ys))∧Mod [] w w'):=by
 have hmax:=h.max; unfold maxLen at hmax
 refine Ret.of (vs:=[va,vb]) (n:=26) Tryz.func41 rfl rfl rfl rfl ?_
 have hm0:Mod [] w w:=Mod.refl _ _
 refine W.seq<|W.region<|L.a rfl rfl<|L.nil<|X.seq<|W.seq<|W.seq<|W.region<|L.m rfl rfl<|L.v (R1.lenLay rfl h tyS29) rfl<|L.m rfl rfl ?_
 refine L.v (R1.lenLay rfl k tyS29) rfl<|L.v (R1.ne rfl rfl) rfl<|L.nil<|X.seq<|W.cond rfl ?_ ?_
 ·
  intro hc10
  try simp only [bq,ne_eq] at hc10
  refine W.seq<|W.region<|L.a rfl rfl<|L.nil<|X.seq<|W.ret<|X.thenRet<|X.result1 rfl (.tmp rfl .nil) ?_
  rw [decide_eq_false (fun e=>hc10 (by rw [e]))]
  exact ⟨rfl,hm0⟩
 intro hc10
 try simp only [bq,ne_eq] at hc10
 have hlen:xs.length=ys.length:=by omega
 refine W.skip<|X.seq<|W.seq<|W.seq<|W.region<|L.m rfl rfl<|L.v (R1.lenLay rfl h tyS29) rfl<|L.m rfl rfl<|L.nil<|X.seq<|W.block ?_
 refine W.loop (ι:=Nat) (fun i=>[(0,va),(1,vb),(12,.int .i64 ((xs.length:Nat):Int)),(13,.int .i64 ((i:Nat):Int))]) (fun i w_=>Lay rdI N9 w_ va xs∧Lay rdI N8 w_ vb ys∧i≤xs.length∧(∀ j,j<i→xs.getD j 0=ys.getD j 0)∧Mod [] w w_) (fun i=>xs.length - i) 0 ?_ ?_ ?_
 · exact ⟨rfl,rfl,rfl,rfl,trivial⟩
 ·
  exact ⟨h.su,k.su,Nat.zero_le _,(fun j h=>by omega),hm0⟩
 rintro i w1 ⟨h,k,hi,he,hm0⟩
 refine W.seq<|W.region<|L.v (R1.lt rfl rfl) rfl<|L.nil<|X.seq<|W.seq<|W.cond rfl ?_ ?_
 ·
  intro hc14
  try simp only [bq,ne_eq] at hc14
  refine W.skip<|X.seq<|W.seq<|W.block<|W.seq<|W.region<|L.m rfl rfl<|L.a rfl rfl<|L.nil<|X.seq<|W.seq ?_
  refine W.drawW (T:=[]) rfl (by decide +kernel) (NoHang.then (NoHang.block (NoHang.then (NoHang.next (NoHang.block (NoHang.then NoHang.post)))))) (fun w2 hm2=>?_)
  replace h:=h.gr hm2;replace k:=k.gr hm2;replace hm0:=hm0.trans hm2
  have hS1:Mod [] w2 w2:=Mod.refl _ _
  clear hm2
  refine D.m 0 rfl (by kernel_rfl) rfl hS1 rfl<|D.m 1 rfl (by kernel_rfl) rfl hS1 rfl<|D.take 2 rfl (by kernel_rfl) (fun w_ hS=>(R1.atLay (j:=i) rfl rfl (Lay.gr h hS) tyS29 rfl (by omega))) hS1 rfl<|D.take 3 rfl (by kernel_rfl) (fun w_ hS=>(R1.loadLI rfl (Lay.gr h hS) tyP3 (by omega) (getD_at _))) hS1 rfl<|D.m 4 rfl (by kernel_rfl) rfl hS1 rfl<|D.m 5 rfl (by kernel_rfl) rfl hS1 rfl<|D.take 6 rfl (by kernel_rfl) (fun w_ hS=>(R1.atLay (j:=i) rfl rfl (Lay.gr k hS) tyS29 rfl (by omega))) hS1 rfl<|D.take 7 rfl (by kernel_rfl) (fun w_ hS=>(R1.loadLI rfl (Lay.gr k hS) tyP3 (by omega) (getD_at _))) hS1 rfl<|D.take 8 rfl (by kernel_rfl) (fun w_ hS=>(R1.ne rfl rfl)) hS1 rfl<|D.done (by decide +kernel) ?_ _
  refine X.seq<|W.cond rfl ?_ ?_
  ·
   intro hc24
   try simp only [bq,ne_eq] at hc24
   refine W.seq<|W.region<|L.a rfl rfl<|L.nil<|X.seq<|W.ret<|X.blockRet<|X.thenRet<|X.nextRet<|X.blockRet<|X.thenRet ?_
   refine X.result1 rfl (.tmp rfl .nil) ?_
   rw [decide_eq_false (fun e=>hc24 (by rw [e]))]
   exact ⟨rfl,hm0⟩
  intro hc24
  try simp only [bq,ne_eq] at hc24
  refine W.skip<|X.blockEnd<|X.seq<|W.region<|L.v (R1.addI (b:=1) rfl rfl (by omega)) rfl<|L.m rfl rfl<|L.nil<|X.next (i + 1) ?_ ?_ ?_
  · exact ⟨rfl,rfl,rfl,rfl,trivial⟩
  ·
   exact ⟨h.su,k.su,by omega,(fun j hj=>by rcases Nat.lt_or_ge j i with h9 | h9; exact he j h9; obtain rfl:j=i:=(by omega); assumption),hm0⟩
  first | omega | (dsimp only; omega)
 intro hc14
 try simp only [bq,ne_eq] at hc14
 obtain rfl:i=xs.length:=by omega
 refine W.exit<|X.thenExit<|X.nextExit<|X.here<|X.seq<|W.seq<|W.region<|L.a rfl rfl<|L.nil<|X.seq<|W.ret ?_
 refine X.result1 rfl (.tmp rfl .nil) ?_
 rw [decide_eq_true (ext_getD hlen (fun j hj=>he j (by omega)))]
 exact ⟨rfl,hm0⟩
theorem c_same {N9 N8 : List Nat} {w : World} {va vb : Value} {xs ys : List Int} (h : Lay rdI N9 w va xs) (k : Lay rdI N8 w vb ys) (hlen : xs.length = ys.length) :
    Ret Tryz.prog 53 #[va,vb] w (fun r w'=>r=.bool (decide (xs=ys))∧Mod [] w w'):=by
 have hmax:=h.max; unfold maxLen at hmax
 refine Ret.of (vs:=[va,vb]) (n:=21) Tryz.func53 rfl rfl rfl rfl ?_
 have hm0:Mod [] w w:=Mod.refl _ _
 refine W.seq<|W.region<|L.a rfl rfl<|L.nil<|X.seq<|W.seq<|W.seq<|W.region<|L.a rfl rfl<|L.nil<|X.seq ?_
 refine W.block<|W.loop (ι:=Nat) (fun i=>[(0,va),(1,vb),(5,.int .i64 ((i:Nat):Int))]) (fun i w_=>Lay rdI N9 w_ va xs∧Lay rdI N8 w_ vb ys∧i≤xs.length∧(∀ j,j<i→xs.getD j 0=ys.getD j 0)∧Mod [] w w_) (fun i=>xs.length - i) 0 ?_ ?_ ?_
 · exact ⟨rfl,rfl,rfl,trivial⟩
 ·
  exact ⟨h.su,k.su,Nat.zero_le _,(fun j h=>by omega),hm0⟩
 rintro i w1 ⟨h,k,hi,he,hm0⟩
 refine W.seq<|W.seq<|W.region<|L.m rfl rfl<|L.m rfl rfl<|L.v (R1.lenLay rfl h tyS29) rfl<|L.v (R1.lt rfl rfl) rfl<|L.nil<|X.seq<|W.cond rfl ?_ ?_
 ·
  intro hc9
  try simp only [bq,ne_eq] at hc9
  refine W.skip<|X.seq<|W.seq<|W.block<|W.seq<|W.drawW (T:=[]) rfl (by decide +kernel) (NoHang.then (NoHang.block (NoHang.then (NoHang.next (NoHang.block (NoHang.then NoHang.post)))))) (fun w2 hm2=>?_)
  replace h:=h.gr hm2;replace k:=k.gr hm2;replace hm0:=hm0.trans hm2
  have hS1:Mod [] w2 w2:=Mod.refl _ _
  clear hm2
  refine D.m 0 rfl (by kernel_rfl) rfl hS1 rfl<|D.m 1 rfl (by kernel_rfl) rfl hS1 rfl<|D.take 2 rfl (by kernel_rfl) (fun w_ hS=>(R1.atLay (j:=i) rfl rfl (Lay.gr h hS) tyS29 rfl (by omega))) hS1 rfl<|D.take 3 rfl (by kernel_rfl) (fun w_ hS=>(R1.loadLI rfl (Lay.gr h hS) tyP3 (by omega) (getD_at _))) hS1 rfl<|D.m 4 rfl (by kernel_rfl) rfl hS1 rfl<|D.m 5 rfl (by kernel_rfl) rfl hS1 rfl<|D.take 6 rfl (by kernel_rfl) (fun w_ hS=>(R1.atLay (j:=i) rfl rfl (Lay.gr k hS) tyS29 rfl (by omega))) hS1 rfl<|D.take 7 rfl (by kernel_rfl) (fun w_ hS=>(R1.loadLI rfl (Lay.gr k hS) tyP3 (by omega) (getD_at _))) hS1 rfl<|D.take 8 rfl (by kernel_rfl) (fun w_ hS=>(R1.ne rfl rfl)) hS1 rfl<|D.done (by decide +kernel) ?_ _
  refine X.seq<|W.cond rfl ?_ ?_
  ·
   intro hc20
   try simp only [bq,ne_eq] at hc20
   refine W.seq<|W.region<|L.a rfl rfl<|L.nil<|X.seq<|W.ret<|X.blockRet<|X.thenRet<|X.nextRet<|X.blockRet<|X.thenRet ?_
   refine X.result1 rfl (.tmp rfl .nil) ?_
   rw [decide_eq_false (fun e=>hc20 (by rw [e]))]
   exact ⟨rfl,hm0⟩
  intro hc20
  try simp only [bq,ne_eq] at hc20
  refine W.skip<|X.blockEnd<|X.seq<|W.region<|L.m rfl rfl<|L.v (R1.addI (b:=1) rfl rfl (by omega)) rfl<|L.a rfl rfl<|L.nil<|X.next (i + 1) ?_ ?_ ?_
  · exact ⟨rfl,rfl,rfl,trivial⟩
  ·
   exact ⟨h.su,k.su,by omega,(fun j hj=>by rcases Nat.lt_or_ge j i with h9 | h9; exact he j h9; obtain rfl:j=i:=(by omega); assumption),hm0⟩
  first | omega | (dsimp only; omega)
 intro hc9
 try simp only [bq,ne_eq] at hc9
 obtain rfl:i=xs.length:=by omega
 refine W.exit<|X.thenExit<|X.nextExit<|X.here<|X.seq<|W.seq<|W.region<|L.a rfl rfl<|L.nil<|X.seq<|W.ret ?_
 refine X.result1 rfl (.tmp rfl .nil) ?_
 rw [decide_eq_true (ext_getD hlen (fun j hj=>he j (by omega)))]
 exact ⟨rfl,hm0⟩
end Go.Proofs.YtedokfpoajfflaaGreat
