/- Walks: what the functions compute. -/
import Derived.Test.YtedokfpoajfflaaGreatRuC
namespace Go.Proofs.YtedokfpoajfflaaGreat
open Go.RowKit
set_option linter.unusedVariables false
set_option linter.unusedSimpArgs false
set_option maxRecDepth 10000
theorem sm316 {val:List QR} (h:∀ q∈val,SmQ 3 q):∀ q∈val,SmQ 16 q:=fun q hq=>⟨Nat.le_trans (h q hq).1 (by decide),Nat.le_trans (h q hq).2 (by decide)⟩
theorem smC_up {L L2:Nat} {c:CR} (h:SmC L c) (hL:L≤L2):SmC L2 c:=⟨Nat.le_trans h.1 hL,⟨Nat.le_trans h.2.1.1 hL,Nat.le_trans h.2.1.2 hL⟩,fun t ht=>⟨Nat.le_trans (h.2.2 t ht).1 hL,Nat.le_trans (h.2.2 t ht).2 hL⟩⟩
def nvL (l:List QR):List QR:=l.map fun q=>QR.nf q.val
def runL (cs:List CR) (os:List Int):List Nat→List QR→List QR × Int × Int
  | [],vs=>(vs,-1,0)
  | i :: r,vs=>if largeB (toldV (cs.getD i c0R) (os.getD i 0) vs)=true then ([],(i:Int),8) else runL cs os r (vs.set (os.getD i 0).toNat (QR.nf (toldV (cs.getD i c0R) (os.getD i 0) vs)))
def runZ (cs:List CR) (os:List Int) (val:List QR):List QR × Int × Int:=if ChB (val.length:Int) cs os=true then runL cs os (ordT cs os os) (nvL val) else ([],-1,1)
theorem nvL_len (l:List QR):(nvL l).length=l.length:=by simp [nvL]
theorem nvL_snoc {l:List QR} {i:Nat} {z:QR} (hz:l[i]?=some z):nvL (l.take (i + 1))=nvL (l.take i) ++ [QR.nf z.val]:=by
  obtain ⟨hi,rfl⟩:=List.getElem?_eq_some_iff.1 hz
  unfold nvL
  rw [List.take_succ_eq_append_getElem hi,List.map_append]; rfl
theorem runL_step {cs:List CR} {os:List Int} {pl:List Nat} {k i:Nat} (h:pl[k]?=some i) (vs:List QR):runL cs os (pl.drop k) vs=if largeB (toldV (cs.getD i c0R) (os.getD i 0) vs)=true then ([],(i:Int),8) else runL cs os (pl.drop (k + 1)) (vs.set (os.getD i 0).toNat (QR.nf (toldV (cs.getD i c0R) (os.getD i 0) vs))):=by
  obtain ⟨hk,rfl⟩:=List.getElem?_eq_some_iff.1 h
  rw [List.drop_eq_getElem_cons hk,runL]
theorem mapI_get {pl:List Nat} {k i:Nat} (h:pl[k]?=some i) (hk:k<(pl.map (fun (k:Nat)=>(k:Int))).length):(pl.map (fun (k:Nat)=>(k:Int)))[k]=(i:Int):=by
  obtain ⟨hk,rfl⟩:=List.getElem?_eq_some_iff.1 h
  simp
theorem nf_sm16 {x:Rat} (h:largeB x=false):SmQ 10000 (QR.nf x):=by
  unfold largeB at h
  simp only [Bool.or_eq_false_iff,decide_eq_false_iff_not] at h
  exact ⟨by show (toL _).length≤10000; omega,by show (toL _).length≤10000; omega⟩
theorem nf_fit {x:Rat} {L:Nat} (h:Fit x L) (hL:L≤10000):SmQ 10000 (QR.nf x):=⟨Nat.le_trans h.1 hL,Nat.le_trans h.2 hL⟩
theorem set_sm {vs:List QR} {i:Nat} {q:QR} (h:∀ q∈vs,SmQ 10000 q) (hq:SmQ 10000 q):∀ x∈vs.set i q,SmQ 10000 x:=fun x hx=>by
  rcases List.mem_or_eq_of_mem_set hx with h1 | h1
  · exact h x h1
  exact h1 ▸ hq
theorem ordF_tells (cs:List CR) (os:List Int):∀ (f:Nat) (wa:List Int) (i:Nat),(∀ j,wa.getD j 0≠-1→j<os.length→os.getD j 0≠-1)→i∈ordF cs os f wa→os.getD i 0≠-1
  | 0,_,_,_,h=>by cases h
  | f + 1,wa,i,hw,h=>by
    rw [ordF] at h
    cases hf:(List.range os.length).find? (rdW cs os wa) with
    | none=>rw [hf] at h; cases h
    | some j =>
      rw [hf] at h
      rw [List.find?_range_eq_some] at hf
      rcases List.mem_cons.1 h with rfl | h
      · have h1:=hf.1
        unfold rdW at h1
        simp only [Bool.and_eq_true,decide_eq_true_eq] at h1
        exact hw _ h1.1 (by simpa using hf.2.1)
      refine ordF_tells cs os f _ i (fun a ha hl=>hw a (fun e=>ha ?_) hl) h
      rw [List.getD_eq_getElem?_getD] at e ⊢
      rw [List.getElem?_set]
      split
      · split
        · rfl
        rename_i e2 e3
        exfalso; subst e2
        have h8:wa[j]?=none:=List.getElem?_eq_none (by omega)
        rw [h8] at e; simp at e
      exact e
theorem ordT_at {n:Int} {cs:List CR} {os:List Int} {k i:Nat} (hch:chP n cs os cs.length) (hol:os.length=cs.length) (h:(ordT cs os os)[k]?=some i):i<cs.length∧isC (cs.getD i c0R) n=true∧0≤os.getD i 0∧os.getD i 0<n:=by
  have hm:=List.mem_of_getElem? h;have h1:=ordF_mem cs os _ _ _ hm;have h2:=ordF_tells cs os _ os i (fun j hj _=>hj) hm;obtain ⟨h3,h4 | h4⟩:=hch i (by omega)
  · exact absurd h4 h2
  have h5:=hasV_lt h3 h4.1
  exact ⟨by omega,h3,h5.1,h5.2⟩
theorem fillQ9 (s:Bool) (A:Option Addr) (n c:Nat) (B:Option Addr) (m d:Nat):Instr.fill (fun i=>some (i * 3,3)) ((Array.range (1 * 3)).map ((Value.agg #[.bool false,.slice none 0 0,.slice none 0 0]).cells[· % (Value.agg #[.bool false,.slice none 0 0,.slice none 0 0]).cells.size]!)) [(0,.agg #[.bool s,.slice A n c,.slice B m d])]=some #[.bool s,.slice A n c,.slice B m d]:=by kernel_rfl
theorem ordZ_true {z:Int} {cs:List CR} {os:List Int} (h:ChB z cs os=true):ordZ z cs os=(ordT cs os os).map (fun (k:Nat)=>(k:Int)):=by unfold ordZ; rw [h]; rfl
set_option maxHeartbeats 1000000 in
theorem c_Run {M : List Nat} {w : World} {vl vo vv : Value} {cs : List CR} {os : List Int} {val : List QR} (hL : Lay rdC M w vl cs) (hO : Lay rdI M w vo os) (hv : Lay rdQ M w vv val) (hbd : Bd M w) (hsm : ∀ c ∈ cs, SmC 150 c) (hsv : ∀ q ∈ val, SmQ 16 q) :
    Ret Tryz.prog 20 #[vl,vo,vv] w (fun r w'=>∃ v,r=.tuple #[v,.int .i64 (runZ cs os val).2.1,.int .i64 (runZ cs os val).2.2]∧Lay rdQ M w' v (runZ cs os val).1∧Mod [] w w'):=by
 have hbd0:=hbd;obtain ⟨TL,tL,rfl⟩:=hL.form;obtain ⟨TO,tO,rfl⟩:=hO.form;obtain ⟨TV,tV,rfl⟩:=hv.form;have hmaxL:=hL.max; unfold maxLen at hmaxL;have hmaxV:=hv.max; unfold maxLen at hmaxV
 have hsmL:∀ c∈cs,SmC 1099511627776 c:=fun c hc=>smC_up (hsm c hc) (by decide)
 refine Ret.of (vs:=[.slice TL cs.length tL,.slice TO os.length tO,.slice TV val.length tV]) (n:=65) Tryz.func20 rfl rfl rfl rfl ?_
 have hm0:Mod [] w w:=Mod.refl _ _
 refine W.seq<|W.region<|L.a rfl rfl<|L.a rfl rfl<|L.a rfl rfl<|L.nil<|X.seq<|W.seq<|W.seq<|W.region<|L.m rfl rfl ?_
 refine L.m rfl rfl<|L.m rfl rfl<|L.v (R1.lenLay rfl hv tyS23) rfl<|L.call rfl (c_dIs hL hO hbd hsmL) rfl ?_
 rintro _ w1 ⟨rfl,hm1⟩
 replace hL:=hL.gr hm1;replace hO:=hO.gr hm1;replace hv:=hv.gr hm1;replace hbd:=hbd.gr hm1;replace hm0:=hm0.trans hm1;clear hm1
 refine L.v (R1.not rfl) rfl<|L.nil<|X.seq<|W.cond rfl ?_ ?_
 ·
  intro hc20
  simp only [Bool.not_eq_true',Bool.not_eq_false'] at hc20
  refine W.seq<|W.region<|L.a rfl rfl<|L.a rfl rfl<|L.a rfl rfl<|L.nil<|X.seq<|W.ret<|X.thenRet<|X.result3 rfl (.tmp rfl (.tmp rfl (.tmp rfl .nil))) ?_
  have e9:runZ cs os val=([],-1,1):=by unfold runZ; rw [if_neg (by rw [hc20]; decide)]
  rw [e9]
  exact ⟨_,rfl,Lay.nil rfl,hm0⟩
 intro hc20
 simp only [Bool.not_eq_true',Bool.not_eq_false'] at hc20
 have hCh:=hc20;obtain ⟨hz1,hz2,hcl,hol,hch,hF0⟩:=ChB_true hCh;have hple:=ordT_le cs os os
 have hpl9:((ordT cs os os).map (fun (k:Nat)=>(k:Int))).length=(ordT cs os os).length:=List.length_map _
 have hsn:∀ q∈nvL val,SmQ 10000 q:=fun q hq=>by
   obtain ⟨z,hz,rfl⟩:=List.mem_map.1 hq;obtain ⟨j,hj,rfl⟩:=List.mem_iff_getElem.1 hz;obtain ⟨cs9,_,vn9,vd9,_,h1,h2⟩:=hv.elem hj
   exact nf_fit (fit_sm h1 h2 (hsv _ (List.getElem_mem hj))) (by decide)
 refine W.skip<|X.seq<|W.seq<|W.region<|L.a rfl rfl<|L.nil<|X.seq<|W.seq<|W.seq<|W.region<|L.m rfl rfl ?_
 refine L.v (R1.lenLay rfl hv tyS23) rfl<|L.m rfl rfl<|L.nil<|X.seq<|W.block<|W.loop (ι:=Nat × Value × List (List Value)) (fun (i,u,css)=>[(0,.slice TL cs.length tL),(1,.slice TO os.length tO),(2,.slice TV val.length tV),(9,u),(21,.slice TV val.length tV),(22,.int .i64 ((val.length:Nat):Int)),(23,.int .i64 ((i:Nat):Int))]) (fun (i,u,css) w_=>Lay rdC (ownL u ++ M) w_ (.slice TL cs.length tL) cs∧Lay rdI (ownL u ++ M) w_ (.slice TO os.length tO) os∧Lay rdQ (ownL u ++ M) w_ (.slice TV val.length tV) val∧w_.ownsRow w.heap.size 26 3 u (nvL (val.take i)).length css.flatten∧LayL rdQ (ownL u ++ M) w_ css (nvL (val.take i))∧i≤val.length∧Bd (ownL u ++ M) w_∧Mod [] w w_) (fun (i,u,css)=>val.length - i) (0,.slice none 0 0,[]) ?_ ?_ ?_
 · exact ⟨rfl,rfl,rfl,rfl,rfl,rfl,rfl,trivial⟩
 ·
  exact ⟨hL.su,hO.su,hv.su,own_nil _ _ _ _,LayL.nil,Nat.zero_le _,hbd.su,hm0⟩
 rintro ⟨i,u,css⟩ w2 ⟨hL,hO,hv,ho,hl,hi,hbd,hm0⟩
 refine W.seq<|W.region<|L.v (R1.lt rfl rfl) rfl<|L.nil<|X.seq<|W.seq<|W.cond rfl ?_ ?_
 ·
  intro hc24
  try simp only [bq,ne_eq] at hc24
  refine W.skip<|X.seq<|W.seq<|W.block<|W.seq<|W.region<|L.v (R1.atLay (j:=i) rfl rfl hv tyS23 rfl (by omega)) rfl ?_
  obtain ⟨z26,cs26,hz26,hE26,vn26,vd26,rfl,hn26,hd26⟩:=Lay.elemQ hv (j:=i) (by omega);obtain ⟨A26,c26,rfl⟩:=hn26.form;obtain ⟨B26,e26,rfl⟩:=hd26.form
  refine L.v (R1.loadE rfl hE26 tyG26) rfl ?_
  have F26:=fit_sm hn26 hd26 (hsv _ (List.mem_of_getElem? hz26))
  refine L.alloc tyZ26 rfl ?_
  intro g11 w3 hN11
  replace hL:=hL.new hN11;replace hO:=hO.new hN11;replace hv:=hv.new hN11;have hno_ho_g11:=own_ne_new ho hN11;replace ho:=own_gr ho hN11.mod (by simp);replace hl:=hl.new hN11;replace hbd:=hbd.new hN11;have hge_g11:=New.ge hN11 hm0.size;replace hm0:=hm0.trans (hN11.mod.mono (by simp));replace hn26:=hn26.new hN11;replace hd26:=hd26.new hN11;have hb11:=hN11.blk;clear hN11
  refine L.storeBox rfl rfl hb11 rfl rfl tyG26 ?_
  intro w4 hb11' hm4
  replace hL:=hL.mod hm4 (by simp);replace hO:=hO.mod hm4 (by simp);replace hv:=hv.mod hm4 (by simp);replace ho:=own_far ho hm4 hno_ho_g11;replace hl:=hl.mod hm4 (by simp);replace hbd:=hbd.gr hm4;replace hm0:=hm0.old1 hm4 hge_g11;replace hn26:=hn26.mod hm4 (by simp);replace hd26:=hd26.mod hm4 (by simp);clear hm4;replace hb11:=hb11'; clear hb11'
  refine L.nil<|X.seq<|W.region<|L.m rfl rfl<|L.v (R1.loadBox rfl hb11 tyG26) rfl<|L.call rfl (c_rat_Norm (q:=(QR.val z26)) rfl hn26 hd26 hbd (Nat.le_trans (hsv _ (List.mem_of_getElem? hz26)).1 (by decide)) (Nat.le_trans (hsv _ (List.mem_of_getElem? hz26)).2 (by decide))) rfl ?_
  rintro _ w5 ⟨⟨A29,c29,B29,e29,rfl,hn29,hd29⟩,hm5⟩
  replace hL:=hL.gr hm5;replace hO:=hO.gr hm5;replace hv:=hv.gr hm5;replace ho:=own_gr ho hm5 (by simp);replace hl:=hl.gr hm5;replace hbd:=hbd.gr hm5;replace hm0:=hm0.trans hm5;replace hn26:=hn26.gr hm5;replace hd26:=hd26.gr hm5;clear hm5;have F29:=F26
  refine L.buildSlice (cells:=[.bool (decide ((QR.val z26).num<0)),.slice A29 (toL (QR.val z26).num.natAbs).length c29,.slice B29 (toL (QR.val z26).den).length e29]) rfl tyS23 tyZ26 (fillQ9 _ _ _ _ _ _ _) (by decide) (by decide) rfl ?_
  intro g30 w6 hN30
  replace hL:=hL.gr hN30.mod;replace hO:=hO.gr hN30.mod;replace hv:=hv.gr hN30.mod;replace ho:=own_gr ho hN30.mod (by simp);replace hl:=hl.gr hN30.mod;replace hbd:=hbd.gr hN30.mod;replace hm0:=hm0.trans hN30.mod;replace hn26:=hn26.gr hN30.mod;replace hd26:=hd26.gr hN30.mod;replace hn29:=hn29.gr hN30.mod;replace hd29:=hd29.gr hN30.mod
  have hrow:Sl [] w6 3 (.slice (some ⟨g30,0,none⟩) 1 1) 1 [.bool (decide ((QR.val z26).num<0)),.slice A29 (toL (QR.val z26).num.natAbs).length c29,.slice B29 (toL (QR.val z26).den).length e29]:=Sl.of_blk hN30.blk 0 (Nat.le_refl _) (by decide) rfl (by simp) (fun j hj=>by simp)
  clear hN30
  have hnl:(nvL (val.take i)).length=i:=by rw [nvL_len,List.length_take]; omega
  refine L.append rfl rfl ho hrow (by intro c hc; simp only [List.mem_cons,List.not_mem_nil,or_false] at hc; rcases hc with rfl | rfl | rfl <;> rfl) tyS23 tyZ26 (by omega) (by unfold maxLen; omega) hm0.size rfl ?_
  intro v31 w7 ho31' hG31
  replace hL:=hL.grew2 hG31 (by first | exact mem_own | (intro b hb; simp [hb]));replace hO:=hO.grew2 hG31 (by first | exact mem_own | (intro b hb; simp [hb]));replace hv:=hv.grew2 hG31 (by first | exact mem_own | (intro b hb; simp [hb]));replace hl:=hl.grew2 hG31 (by first | exact mem_own | (intro b hb; simp [hb]));replace hbd:=hbd.grew2 hG31 (by first | exact mem_own | (intro b hb; simp [hb]));replace hm0:=Mod.oldOwn hm0 hG31.mod ho;replace hn26:=hn26.grew2 hG31 (by first | exact mem_own | (intro b hb; simp [hb]));replace hd26:=hd26.grew2 hG31 (by first | exact mem_own | (intro b hb; simp [hb]));replace hn29:=hn29.grew2 hG31 (by first | exact mem_own | (intro b hb; simp [hb]));replace hd29:=hd29.grew2 hG31 (by first | exact mem_own | (intro b hb; simp [hb]));replace ho:=ho31'; clear ho31';clear hG31
  refine L.a rfl rfl<|L.nil<|X.blockEnd<|X.seq<|W.region<|L.v (R1.addI (b:=1) rfl rfl (by omega)) rfl<|L.m rfl rfl<|L.nil<|X.next (i + 1,v31,css ++ [[.bool (decide ((QR.val z26).num<0)),.slice A29 (toL (QR.val z26).num.natAbs).length c29,.slice B29 (toL (QR.val z26).den).length e29]]) ?_ ?_ ?_
  · exact ⟨rfl,rfl,rfl,rfl,rfl,rfl,rfl,trivial⟩
  ·
   exact ⟨hL.su,hO.su,hv.su,own_congr ho (by rw [nvL_snoc hz26]; simp) (by simp),by rw [nvL_snoc hz26]; exact (hl.su).append (LayL.one _ (QR.nf (QR.val z26)) (rdQ_mk (q:=QR.nf (QR.val z26)) (hn29.su) (hd29.su))),by omega,hbd.su,hm0⟩
  first | omega | (dsimp only; omega)
 intro hc24
 try simp only [bq,ne_eq] at hc24
 obtain rfl:i=val.length:=by omega
 refine W.exit<|X.thenExit<|X.nextExit<|X.here<|X.seq<|W.seq<|W.seq<|W.region<|L.m rfl rfl<|L.m rfl rfl<|L.m rfl rfl ?_
 refine L.v (R1.lenLay rfl hv tyS23) rfl<|L.call rfl (c_Order (z0:=(val.length:Int)) hL hO hbd hsmL) rfl ?_
 rintro v37 w8 ⟨hP9,hm8⟩
 replace hL:=hL.ownd hP9 hm8;replace hO:=hO.ownd hP9 hm8;replace hl:=hl.ownd hP9 hm8;replace hbd:=hbd.ownd hP9 hm8;have haw_ho_hP9:=own_away_res ho hP9;replace hP9:=own_less hP9 hm0.size;replace ho:=own_gr ho hm8 (by simp);replace hm0:=hm0.trans hm8;clear hm8
 have hP:Lay rdI (ownL u ++ []) _ v37 (ordZ (val.length:Int) cs os):=Lay.of_Z hP9 (fun g h1 h2=>haw_ho_hP9 g (by simpa [ownL] using h2) h1)
 rw [ordZ_true hCh] at hP
 refine L.v (R1.lenLay rfl hP tyS29) rfl<|L.m rfl rfl<|L.nil<|X.seq<|W.block<|W.loop (ι:=Nat × List (List Value) × List QR) (fun (k,css,vs)=>[(0,.slice TL cs.length tL),(1,.slice TO os.length tO),(9,u),(37,v37),(38,.int .i64 ((((ordT cs os os).map (fun (k:Nat)=>(k:Int))).length:Nat):Int)),(39,.int .i64 ((k:Nat):Int))]) (fun (k,css,vs) w_=>Lay rdC (ownL u ++ M) w_ (.slice TL cs.length tL) cs∧Lay rdI (ownL u ++ M) w_ (.slice TO os.length tO) os∧w_.ownsRow w.heap.size 26 3 u vs.length css.flatten∧LayL rdQ (ownL u ++ M) w_ css vs∧Lay rdI (ownL u ++ []) w_ v37 ((ordT cs os os).map (fun (k:Nat)=>(k:Int)))∧k≤(ordT cs os os).length∧vs.length=val.length∧(∀ q∈vs,SmQ 10000 q)∧runL cs os ((ordT cs os os).drop k) vs=runZ cs os val∧Bd (ownL u ++ M) w_∧Mod [] w w_) (fun (k,css,vs)=>(ordT cs os os).length - k) (0,css,nvL (val.take val.length)) ?_ ?_ ?_
 · exact ⟨rfl,rfl,rfl,rfl,rfl,rfl,trivial⟩
 ·
  exact ⟨hL.su,hO.su,ho,hl.su,hP.su,Nat.zero_le _,by rw [nvL_len]; simp,(fun q hq=>hsn q (by simpa using hq)),by unfold runZ; rw [if_pos hCh,List.take_length]; rfl,hbd.su,hm0⟩
 rintro ⟨k,css,vs⟩ w9 ⟨hL,hO,ho,hl,hP,hk,hvl,hvs,hrun,hbd,hm0⟩
 refine W.seq<|W.region<|L.v (R1.lt rfl rfl) rfl<|L.nil<|X.seq<|W.seq<|W.cond rfl ?_ ?_
 ·
  intro hc40
  try simp only [bq,ne_eq] at hc40
  obtain ⟨ip,hip⟩:∃ i,(ordT cs os os)[k]?=some i:=⟨_,List.getElem?_eq_getElem (by omega)⟩
  obtain ⟨hp1,hp2,hp3,hp4⟩:=ordT_at hch hol hip
  rw [runL_step hip] at hrun
  refine W.skip<|X.seq<|W.seq<|W.block<|W.seq<|W.region<|L.v (R1.atLay (j:=k) rfl rfl hP tyS29 rfl (by omega)) rfl<|L.v (R1.loadLI rfl hP tyP3 (by omega) (mapI_get hip _)) rfl<|L.a rfl rfl<|L.nil<|X.seq ?_
  refine W.seq<|W.drawW (T:=[11]) rfl (by decide +kernel) (NoHang.then (NoHang.block (NoHang.then (NoHang.next (NoHang.block (NoHang.then NoHang.post)))))) (fun w10 hm10=>?_)
  replace hL:=hL.gr hm10;replace hO:=hO.gr hm10;replace ho:=own_gr ho hm10 (by simp);replace hl:=hl.gr hm10;replace hP:=hP.gr hm10;replace hbd:=hbd.gr hm10;replace hm0:=hm0.trans hm10
  have hS1:Mod [] w10 w10:=Mod.refl _ _
  clear hm10
  refine D.m 0 rfl (by kernel_rfl) rfl hS1 rfl<|D.m 1 rfl (by kernel_rfl) rfl hS1 rfl<|D.take 2 rfl (by kernel_rfl) (fun w_ hS=>(R1.atLay (j:=ip) rfl rfl (Lay.gr hL hS) tyS22 rfl (by omega))) hS1 rfl ?_
  obtain ⟨z46,cs46,hz46,hE46,vt46,ds46,rfl,ht46,vn46,vd46,rfl,hn46,hd46⟩:=Lay.elemQ hL (j:=ip) (by omega);obtain ⟨T46,t46,rfl⟩:=ht46.form;obtain ⟨A46,c46,rfl⟩:=hn46.form;obtain ⟨B46,e46,rfl⟩:=hd46.form
  refine D.take 3 rfl (by kernel_rfl) (fun w_ hS=>(R1.loadE rfl (SlE.gr hE46 hS) tyG47)) hS1 rfl<|D.m 4 rfl (by kernel_rfl) rfl hS1 rfl<|D.m 5 rfl (by kernel_rfl) rfl hS1 rfl<|D.take 6 rfl (by kernel_rfl) (fun w_ hS=>(R1.atLay (j:=ip) rfl rfl (Lay.gr hO hS) tyS29 rfl (by omega))) hS1 rfl<|D.take 7 rfl (by kernel_rfl) (fun w_ hS=>(R1.loadLI rfl (Lay.gr hO hS) tyP3 (by omega) (getD_at _))) hS1 rfl<|D.m 8 rfl (by kernel_rfl) rfl hS1 rfl<|D.many (rs:=[9,10]) (by decide +kernel) rfl ?_
  intro i_ hi_
  simp only [List.mem_cons,List.not_mem_nil,or_false] at hi_
  rcases hi_ with rfl | rfl
  ·
   refine ⟨_,rfl,fun hX=>?_⟩
   have hvS:Lay rdQ [] _ u vs:=Lay.of_own ho (hl.sub (by simp)) (by simp)
   have hg9:=getD_of_get (d:=c0R) hz46
   have hC9:isC z46 (vs.length:Int)=true:=by rw [hvl,← hg9]; exact hp2
   rw [hg9] at hrun
   refine L.call rfl (c_tells ht46 hn46 hd46 hvS hbd (smC_up (hsm _ (List.mem_of_getElem? hz46)) (by decide)) hvs hC9) rfl ?_
   rintro _ w11 ⟨⟨A52,c52,B52,e52,rfl,hn52,hd52⟩,F52,hm11⟩
   replace hL:=hL.gr hm11;replace hO:=hO.gr hm11;replace ho:=own_gr ho hm11 (by simp);replace hl:=hl.gr hm11;replace hP:=hP.gr hm11;replace hbd:=hbd.gr hm11;replace hm0:=hm0.trans hm11;replace ht46:=ht46.gr hm11;replace hn46:=hn46.gr hm11;replace hd46:=hd46.gr hm11;replace hS1:=hS1.trans hm11;clear hm11
   refine L.nil (hX _ _ ⟨.inr hS1,?_⟩)
   refine D.one 10 rfl (by kernel_rfl) (fun hX=>?_)
   refine L.alloc tyZ26 rfl ?_
   intro g14 w12 hN14
   replace hS1:=hS1.trans hN14.mod;replace hL:=hL.new hN14;replace hO:=hO.new hN14;have hno_ho_g14:=own_ne_new ho hN14;replace ho:=own_gr ho hN14.mod (by simp);replace hl:=hl.new hN14;replace hP:=hP.new hN14;replace hbd:=hbd.new hN14;have hge_g14:=New.ge hN14 hm0.size;replace hm0:=hm0.trans (hN14.mod.mono (by simp));replace ht46:=ht46.new hN14;replace hn46:=hn46.new hN14;replace hd46:=hd46.new hN14;replace hn52:=hn52.new hN14;replace hd52:=hd52.new hN14;have hb14:=hN14.blk;clear hN14
   refine L.nil (hX _ _ ⟨.inr hS1,?_⟩)
   refine D.one 11 rfl (by kernel_rfl) (fun hX=>?_)
   refine L.storeBox rfl rfl hb14 rfl rfl tyG26 ?_
   intro w13 hb14' hm13
   replace hL:=hL.mod hm13 (by simp);replace hO:=hO.mod hm13 (by simp);replace ho:=own_far ho hm13 hno_ho_g14;replace hl:=hl.mod hm13 (by simp);replace hP:=hP.mod hm13 (by simp);replace hbd:=hbd.gr hm13;replace hm0:=hm0.old1 hm13 hge_g14;replace ht46:=ht46.mod hm13 (by simp);replace hn46:=hn46.mod hm13 (by simp);replace hd46:=hd46.mod hm13 (by simp);replace hn52:=hn52.mod hm13 (by simp);replace hd52:=hd52.mod hm13 (by simp);clear hm13;replace hb14:=hb14'; clear hb14'
   refine L.nil (hX _ _ ⟨.inl rfl,?_⟩)
   refine D.done (by decide +kernel) ?_ _
   refine X.seq<|W.seq<|W.seq<|W.region<|L.v (R1.loadBox rfl hb14 tyG26) rfl<|L.call rfl (c_rat_Large (q:=(toldV z46 (os.getD ip 0) vs)) (rv_toL _) hn52 hd52 hbd (Nat.le_trans F52.1 (by decide)) (Nat.le_trans F52.2 (by decide))) rfl ?_
   rintro _ w14 ⟨rfl,hm14⟩
   replace hL:=hL.gr hm14;replace hO:=hO.gr hm14;replace ho:=own_gr ho hm14 (by simp);replace hl:=hl.gr hm14;replace hP:=hP.gr hm14;replace hbd:=hbd.gr hm14;replace hm0:=hm0.trans hm14;replace ht46:=ht46.gr hm14;replace hn46:=hn46.gr hm14;replace hd46:=hd46.gr hm14;replace hn52:=hn52.gr hm14;replace hd52:=hd52.gr hm14;replace hb14:=Blk.gr hb14 hm14;clear hm14
   refine L.nil<|X.seq<|W.cond rfl ?_ ?_
   ·
    intro hc54
    have hcc_:=hc54
    refine W.seq<|W.region<|L.m rfl rfl<|L.a rfl rfl<|L.a rfl rfl<|L.a rfl rfl<|L.nil<|X.seq<|W.ret<|X.thenRet<|X.blockRet ?_
    refine X.thenRet<|X.nextRet<|X.blockRet<|X.thenRet<|X.result3 rfl (.tmp rfl (.tmp rfl (.tmp rfl .nil))) ?_
    rw [if_pos hc54] at hrun
    rw [← hrun]
    exact ⟨_,rfl,Lay.nil rfl,hm0⟩
   intro hc54
   have hcc_:=hc54
   refine W.skip<|X.seq<|W.drawW (T:=[7]) rfl (by decide +kernel) (NoHang.block (NoHang.then (NoHang.next (NoHang.block (NoHang.then NoHang.post))))) (fun w15 hm15=>?_)
   replace hL:=hL.gr hm15;replace hO:=hO.gr hm15;replace ho:=own_gr ho hm15 (by simp);replace hl:=hl.gr hm15;replace hP:=hP.gr hm15;replace hbd:=hbd.gr hm15;replace hm0:=hm0.trans hm15;replace ht46:=ht46.gr hm15;replace hn46:=hn46.gr hm15;replace hd46:=hd46.gr hm15;replace hn52:=hn52.gr hm15;replace hd52:=hd52.gr hm15;replace hb14:=Blk.gr hb14 hm15
   have hS2:Mod [] w15 w15:=Mod.refl _ _
   clear hm15;have hb14_s:=hb14
   refine D.m 0 rfl (by kernel_rfl) rfl hS2 rfl<|D.m 1 rfl (by kernel_rfl) rfl hS2 rfl<|D.m 2 rfl (by kernel_rfl) rfl hS2 rfl<|D.take 3 rfl (by kernel_rfl) (fun w_ hS=>(R1.atLay (j:=ip) rfl rfl (Lay.gr hO hS) tyS29 rfl (by omega))) hS2 rfl<|D.take 4 rfl (by kernel_rfl) (fun w_ hS=>(R1.loadLI rfl (Lay.gr hO hS) tyP3 (by omega) (getD_at _))) hS2 rfl<|D.take 5 rfl (by kernel_rfl) (fun w_ hS=>(R1.loadBox rfl (Blk.gr hb14_s hS) tyG26)) hS2 rfl<|D.take 6 rfl (by kernel_rfl) (fun w_ hS=>(R1.atOwn (i:=(os.getD ip 0).toNat) rfl rfl (own_gr ho hS (by simp)) tyS23 (by omega) (by omega))) hS2 rfl<|D.one 7 rfl (by kernel_rfl) (fun hX=>?_)
   refine L.storeOwnA rfl rfl rfl ho hl (by first | exact mem_own | (intro b hb; simp [hb])) (by omega) (rdQ_mk (q:=QR.nf (toldV z46 (os.getD ip 0) vs)) (hn52.su) (hd52.su)) tyG26 ?_
   intro w16 ho' hl' hm16
   replace hL:=hL.mo hm16;replace hO:=hO.mo hm16;replace hP:=hP.mo hm16;replace hbd:=hbd.gr hm16;replace hm0:=Mod.oldOwn hm0 hm16 ho;replace ht46:=ht46.mo hm16;replace hn46:=hn46.mo hm16;replace hd46:=hd46.mo hm16;replace hn52:=hn52.mo hm16;replace hd52:=hd52.mo hm16;clear hm16 hl;replace ho:=ho'; clear ho';have hl:=hl'; clear hl'
   refine L.nil (hX _ _ ⟨.inl rfl,?_⟩)
   refine D.done (by decide +kernel) ?_ _
   refine X.blockEnd<|X.seq<|W.region<|L.v (R1.addI (b:=1) rfl rfl (by omega)) rfl<|L.m rfl rfl<|L.nil<|X.next (k + 1,css.set (os.getD ip 0).toNat [.bool (decide ((toldV z46 (os.getD ip 0) vs).num<0)),.slice A52 (toL (toldV z46 (os.getD ip 0) vs).num.natAbs).length c52,.slice B52 (toL (toldV z46 (os.getD ip 0) vs).den).length e52],vs.set (os.getD ip 0).toNat (QR.nf (toldV z46 (os.getD ip 0) vs))) ?_ ?_ ?_
   · exact ⟨rfl,rfl,rfl,rfl,rfl,rfl,trivial⟩
   ·
    exact ⟨hL.su,hO.su,own_congr ho (by simp) rfl,hl.su,hP.su,by omega,by simpa using hvl,set_sm hvs (nf_sm16 hc54),by rw [if_neg (by rw [hc54]; decide)] at hrun; exact hrun,hbd.su,hm0⟩
   first | omega | (dsimp only; omega)
  refine ⟨_,rfl,fun hX=>?_⟩
  refine L.alloc tyZ26 rfl ?_
  intro g14 w17 hN14
  replace hS1:=hS1.trans hN14.mod;replace hL:=hL.new hN14;replace hO:=hO.new hN14;have hno_ho_g14:=own_ne_new ho hN14;replace ho:=own_gr ho hN14.mod (by simp);replace hl:=hl.new hN14;replace hP:=hP.new hN14;replace hbd:=hbd.new hN14;have hge_g14:=New.ge hN14 hm0.size;replace hm0:=hm0.trans (hN14.mod.mono (by simp));replace ht46:=ht46.new hN14;replace hn46:=hn46.new hN14;replace hd46:=hd46.new hN14;have hb14:=hN14.blk;clear hN14
  refine L.nil (hX _ _ ⟨.inr hS1,?_⟩)
  refine D.one 9 rfl (by kernel_rfl) (fun hX=>?_)
  have hvS:Lay rdQ [] _ u vs:=Lay.of_own ho (hl.sub (by simp)) (by simp)
  have hg9:=getD_of_get (d:=c0R) hz46
  have hC9:isC z46 (vs.length:Int)=true:=by rw [hvl,← hg9]; exact hp2
  rw [hg9] at hrun
  refine L.call rfl (c_tells ht46 hn46 hd46 hvS hbd (smC_up (hsm _ (List.mem_of_getElem? hz46)) (by decide)) hvs hC9) rfl ?_
  rintro _ w18 ⟨⟨A52,c52,B52,e52,rfl,hn52,hd52⟩,F52,hm18⟩
  replace hL:=hL.gr hm18;replace hO:=hO.gr hm18;replace ho:=own_gr ho hm18 (by simp);replace hl:=hl.gr hm18;replace hP:=hP.gr hm18;replace hbd:=hbd.gr hm18;replace hm0:=hm0.trans hm18;replace ht46:=ht46.gr hm18;replace hn46:=hn46.gr hm18;replace hd46:=hd46.gr hm18;replace hb14:=Blk.gr hb14 hm18;replace hS1:=hS1.trans hm18;clear hm18
  refine L.nil (hX _ _ ⟨.inr hS1,?_⟩)
  refine D.one 11 rfl (by kernel_rfl) (fun hX=>?_)
  refine L.storeBox rfl rfl hb14 rfl rfl tyG26 ?_
  intro w19 hb14' hm19
  replace hL:=hL.mod hm19 (by simp);replace hO:=hO.mod hm19 (by simp);replace ho:=own_far ho hm19 hno_ho_g14;replace hl:=hl.mod hm19 (by simp);replace hP:=hP.mod hm19 (by simp);replace hbd:=hbd.gr hm19;replace hm0:=hm0.old1 hm19 hge_g14;replace ht46:=ht46.mod hm19 (by simp);replace hn46:=hn46.mod hm19 (by simp);replace hd46:=hd46.mod hm19 (by simp);replace hn52:=hn52.mod hm19 (by simp);replace hd52:=hd52.mod hm19 (by simp);clear hm19;replace hb14:=hb14'; clear hb14'
  refine L.nil (hX _ _ ⟨.inl rfl,?_⟩)
  refine D.done (by decide +kernel) ?_ _
  refine X.seq<|W.seq<|W.seq<|W.region<|L.v (R1.loadBox rfl hb14 tyG26) rfl<|L.call rfl (c_rat_Large (q:=(toldV z46 (os.getD ip 0) vs)) (rv_toL _) hn52 hd52 hbd (Nat.le_trans F52.1 (by decide)) (Nat.le_trans F52.2 (by decide))) rfl ?_
  rintro _ w20 ⟨rfl,hm20⟩
  replace hL:=hL.gr hm20;replace hO:=hO.gr hm20;replace ho:=own_gr ho hm20 (by simp);replace hl:=hl.gr hm20;replace hP:=hP.gr hm20;replace hbd:=hbd.gr hm20;replace hm0:=hm0.trans hm20;replace ht46:=ht46.gr hm20;replace hn46:=hn46.gr hm20;replace hd46:=hd46.gr hm20;replace hn52:=hn52.gr hm20;replace hd52:=hd52.gr hm20;replace hb14:=Blk.gr hb14 hm20;clear hm20
  refine L.nil<|X.seq<|W.cond rfl ?_ ?_
  ·
   intro hc54
   have hcc_:=hc54
   refine W.seq<|W.region<|L.m rfl rfl<|L.a rfl rfl<|L.a rfl rfl<|L.a rfl rfl<|L.nil<|X.seq<|W.ret<|X.thenRet<|X.blockRet ?_
   refine X.thenRet<|X.nextRet<|X.blockRet<|X.thenRet<|X.result3 rfl (.tmp rfl (.tmp rfl (.tmp rfl .nil))) ?_
   rw [if_pos hc54] at hrun
   rw [← hrun]
   exact ⟨_,rfl,Lay.nil rfl,hm0⟩
  intro hc54
  have hcc_:=hc54
  refine W.skip<|X.seq<|W.drawW (T:=[7]) rfl (by decide +kernel) (NoHang.block (NoHang.then (NoHang.next (NoHang.block (NoHang.then NoHang.post))))) (fun w21 hm21=>?_)
  replace hL:=hL.gr hm21;replace hO:=hO.gr hm21;replace ho:=own_gr ho hm21 (by simp);replace hl:=hl.gr hm21;replace hP:=hP.gr hm21;replace hbd:=hbd.gr hm21;replace hm0:=hm0.trans hm21;replace ht46:=ht46.gr hm21;replace hn46:=hn46.gr hm21;replace hd46:=hd46.gr hm21;replace hn52:=hn52.gr hm21;replace hd52:=hd52.gr hm21;replace hb14:=Blk.gr hb14 hm21
  have hS3:Mod [] w21 w21:=Mod.refl _ _
  clear hm21;have hb14_s:=hb14
  refine D.m 0 rfl (by kernel_rfl) rfl hS3 rfl<|D.m 1 rfl (by kernel_rfl) rfl hS3 rfl<|D.m 2 rfl (by kernel_rfl) rfl hS3 rfl<|D.take 3 rfl (by kernel_rfl) (fun w_ hS=>(R1.atLay (j:=ip) rfl rfl (Lay.gr hO hS) tyS29 rfl (by omega))) hS3 rfl<|D.take 4 rfl (by kernel_rfl) (fun w_ hS=>(R1.loadLI rfl (Lay.gr hO hS) tyP3 (by omega) (getD_at _))) hS3 rfl<|D.take 5 rfl (by kernel_rfl) (fun w_ hS=>(R1.loadBox rfl (Blk.gr hb14_s hS) tyG26)) hS3 rfl<|D.take 6 rfl (by kernel_rfl) (fun w_ hS=>(R1.atOwn (i:=(os.getD ip 0).toNat) rfl rfl (own_gr ho hS (by simp)) tyS23 (by omega) (by omega))) hS3 rfl<|D.one 7 rfl (by kernel_rfl) (fun hX=>?_)
  refine L.storeOwnA rfl rfl rfl ho hl (by first | exact mem_own | (intro b hb; simp [hb])) (by omega) (rdQ_mk (q:=QR.nf (toldV z46 (os.getD ip 0) vs)) (hn52.su) (hd52.su)) tyG26 ?_
  intro w22 ho' hl' hm22
  replace hL:=hL.mo hm22;replace hO:=hO.mo hm22;replace hP:=hP.mo hm22;replace hbd:=hbd.gr hm22;replace hm0:=Mod.oldOwn hm0 hm22 ho;replace ht46:=ht46.mo hm22;replace hn46:=hn46.mo hm22;replace hd46:=hd46.mo hm22;replace hn52:=hn52.mo hm22;replace hd52:=hd52.mo hm22;clear hm22 hl;replace ho:=ho'; clear ho';have hl:=hl'; clear hl'
  refine L.nil (hX _ _ ⟨.inl rfl,?_⟩)
  refine D.done (by decide +kernel) ?_ _
  refine X.blockEnd<|X.seq<|W.region<|L.v (R1.addI (b:=1) rfl rfl (by omega)) rfl<|L.m rfl rfl<|L.nil<|X.next (k + 1,css.set (os.getD ip 0).toNat [.bool (decide ((toldV z46 (os.getD ip 0) vs).num<0)),.slice A52 (toL (toldV z46 (os.getD ip 0) vs).num.natAbs).length c52,.slice B52 (toL (toldV z46 (os.getD ip 0) vs).den).length e52],vs.set (os.getD ip 0).toNat (QR.nf (toldV z46 (os.getD ip 0) vs))) ?_ ?_ ?_
  · exact ⟨rfl,rfl,rfl,rfl,rfl,rfl,trivial⟩
  ·
   exact ⟨hL.su,hO.su,own_congr ho (by simp) rfl,hl.su,hP.su,by omega,by simpa using hvl,set_sm hvs (nf_sm16 hc54),by rw [if_neg (by rw [hc54]; decide)] at hrun; exact hrun,hbd.su,hm0⟩
  first | omega | (dsimp only; omega)
 intro hc40
 try simp only [bq,ne_eq] at hc40
 refine W.exit<|X.thenExit<|X.nextExit<|X.here<|X.seq<|W.seq<|W.region<|L.m rfl rfl<|L.a rfl rfl<|L.a rfl rfl<|L.a rfl rfl ?_
 refine L.nil<|X.seq<|W.ret<|X.result3 rfl (.tmp rfl (.tmp rfl (.tmp rfl .nil))) ?_
 have hk9:k=(ordT cs os os).length:=by omega
 rw [hk9,List.drop_length,runL] at hrun
 rw [← hrun]
 exact ⟨_,rfl,Lay.of_own ho (hl.su) (fun g h1 h2=>Nat.lt_irrefl _ (Nat.lt_of_lt_of_le (hbd0 g h2) (own_ge ho g h1).1)),hm0⟩
set_option maxHeartbeats 1000000 in
theorem c_r14_Run {M : List Nat} {w : World} {vl vo vv : Value} {cs : List CR} {os : List Int} {val : List QR} (hL : Lay rdC M w vl cs) (hO : Lay rdI M w vo os) (hv : Lay rdQ M w vv val) (hbd : Bd M w) (hsm : ∀ c ∈ cs, SmC 150 c) (hsv : ∀ q ∈ val, SmQ 16 q) :
    Ret Tryz.prog 25 #[vl,vo,vv] w (fun r w'=>∃ v,r=.tuple #[v,.int .i64 (runZ cs os val).2.1,.int .i64 (runZ cs os val).2.2]∧Lay rdQ M w' v (runZ cs os val).1∧Mod [] w w'):=by
 have hbd0:=hbd;obtain ⟨TL,tL,rfl⟩:=hL.form;obtain ⟨TO,tO,rfl⟩:=hO.form;obtain ⟨TV,tV,rfl⟩:=hv.form;have hmaxL:=hL.max; unfold maxLen at hmaxL;have hmaxV:=hv.max; unfold maxLen at hmaxV
 have hsmL:∀ c∈cs,SmC 1099511627776 c:=fun c hc=>smC_up (hsm c hc) (by decide)
 refine Ret.of (vs:=[.slice TL cs.length tL,.slice TO os.length tO,.slice TV val.length tV]) (n:=75) Tryz.func25 rfl rfl rfl rfl ?_
 have hm0:Mod [] w w:=Mod.refl _ _
 refine W.seq<|W.region<|L.a rfl rfl<|L.a rfl rfl<|L.a rfl rfl<|L.nil<|X.seq<|W.seq<|W.seq<|W.region<|L.m rfl rfl ?_
 refine L.m rfl rfl<|L.m rfl rfl<|L.v (R1.lenLay rfl hv tyS23) rfl<|L.call rfl (c_r13_Is hL hO hbd hsmL) rfl ?_
 rintro _ w1 ⟨rfl,hm1⟩
 replace hL:=hL.gr hm1;replace hO:=hO.gr hm1;replace hv:=hv.gr hm1;replace hbd:=hbd.gr hm1;replace hm0:=hm0.trans hm1;clear hm1
 refine L.v (R1.not rfl) rfl<|L.nil<|X.seq<|W.cond rfl ?_ ?_
 ·
  intro hc19
  simp only [Bool.not_eq_true',Bool.not_eq_false'] at hc19
  refine W.seq<|W.region<|L.a rfl rfl<|L.a rfl rfl<|L.a rfl rfl<|L.nil<|X.seq<|W.ret<|X.thenRet<|X.result3 rfl (.tmp rfl (.tmp rfl (.tmp rfl .nil))) ?_
  have e9:runZ cs os val=([],-1,1):=by unfold runZ; rw [if_neg (by rw [hc19]; decide)]
  rw [e9]
  exact ⟨_,rfl,Lay.nil rfl,hm0⟩
 intro hc19
 simp only [Bool.not_eq_true',Bool.not_eq_false'] at hc19
 have hCh:=hc19;obtain ⟨hz1,hz2,hcl,hol,hch,hF0⟩:=ChB_true hCh;have hple:=ordT_le cs os os
 have hpl9:((ordT cs os os).map (fun (k:Nat)=>(k:Int))).length=(ordT cs os os).length:=List.length_map _
 have hsn:∀ q∈nvL val,SmQ 10000 q:=fun q hq=>by
   obtain ⟨z,hz,rfl⟩:=List.mem_map.1 hq;obtain ⟨j,hj,rfl⟩:=List.mem_iff_getElem.1 hz;obtain ⟨cs9,_,vn9,vd9,_,h1,h2⟩:=hv.elem hj
   exact nf_fit (fit_sm h1 h2 (hsv _ (List.getElem_mem hj))) (by decide)
 refine W.skip<|X.seq<|W.seq<|W.region<|L.a rfl rfl<|L.nil<|X.seq<|W.seq<|W.seq<|W.region<|L.a rfl rfl ?_
 refine L.nil<|X.seq<|W.block<|W.loop (ι:=Nat × Value × List (List Value)) (fun (i,u,css)=>[(0,.slice TL cs.length tL),(1,.slice TO os.length tO),(2,.slice TV val.length tV),(9,u),(10,.int .i64 ((i:Nat):Int))]) (fun (i,u,css) w_=>Lay rdC (ownL u ++ M) w_ (.slice TL cs.length tL) cs∧Lay rdI (ownL u ++ M) w_ (.slice TO os.length tO) os∧Lay rdQ (ownL u ++ M) w_ (.slice TV val.length tV) val∧w_.ownsRow w.heap.size 26 3 u (nvL (val.take i)).length css.flatten∧LayL rdQ (ownL u ++ M) w_ css (nvL (val.take i))∧i≤val.length∧Bd (ownL u ++ M) w_∧Mod [] w w_) (fun (i,u,css)=>val.length - i) (0,.slice none 0 0,[]) ?_ ?_ ?_
 · exact ⟨rfl,rfl,rfl,rfl,rfl,trivial⟩
 ·
  exact ⟨hL.su,hO.su,hv.su,own_nil _ _ _ _,LayL.nil,Nat.zero_le _,hbd.su,hm0⟩
 rintro ⟨i,u,css⟩ w2 ⟨hL,hO,hv,ho,hl,hi,hbd,hm0⟩
 refine W.seq<|W.seq<|W.region<|L.m rfl rfl<|L.m rfl rfl<|L.v (R1.lenLay rfl hv tyS23) rfl<|L.v (R1.lt rfl rfl) rfl<|L.nil<|X.seq<|W.cond rfl ?_ ?_
 ·
  intro hc23
  try simp only [bq,ne_eq] at hc23
  refine W.skip<|X.seq<|W.seq<|W.block<|W.region<|L.m rfl rfl<|L.m rfl rfl<|L.m rfl rfl<|L.v (R1.atLay (j:=i) rfl rfl hv tyS23 rfl (by omega)) rfl ?_
  obtain ⟨z30,cs30,hz30,hE30,vn30,vd30,rfl,hn30,hd30⟩:=Lay.elemQ hv (j:=i) (by omega);obtain ⟨A30,c30,rfl⟩:=hn30.form;obtain ⟨B30,e30,rfl⟩:=hd30.form
  refine L.v (R1.loadE rfl hE30 tyG26) rfl ?_
  have F30:=fit_sm hn30 hd30 (hsv _ (List.mem_of_getElem? hz30))
  refine L.call rfl (c_ref2_Norm (q:=(QR.val z30)) rfl hn30 hd30 hbd (Nat.le_trans (hsv _ (List.mem_of_getElem? hz30)).1 (by decide)) (Nat.le_trans (hsv _ (List.mem_of_getElem? hz30)).2 (by decide))) rfl ?_
  rintro _ w3 ⟨⟨A31,c31,B31,e31,rfl,hn31,hd31⟩,hm3⟩
  replace hL:=hL.gr hm3;replace hO:=hO.gr hm3;replace hv:=hv.gr hm3;replace ho:=own_gr ho hm3 (by simp);replace hl:=hl.gr hm3;replace hbd:=hbd.gr hm3;replace hm0:=hm0.trans hm3;replace hn30:=hn30.gr hm3;replace hd30:=hd30.gr hm3;clear hm3;have F31:=F30
  refine L.buildSlice (cells:=[.bool (decide ((QR.val z30).num<0)),.slice A31 (toL (QR.val z30).num.natAbs).length c31,.slice B31 (toL (QR.val z30).den).length e31]) rfl tyS23 tyZ26 (fillQ9 _ _ _ _ _ _ _) (by decide) (by decide) rfl ?_
  intro g32 w4 hN32
  replace hL:=hL.gr hN32.mod;replace hO:=hO.gr hN32.mod;replace hv:=hv.gr hN32.mod;replace ho:=own_gr ho hN32.mod (by simp);replace hl:=hl.gr hN32.mod;replace hbd:=hbd.gr hN32.mod;replace hm0:=hm0.trans hN32.mod;replace hn30:=hn30.gr hN32.mod;replace hd30:=hd30.gr hN32.mod;replace hn31:=hn31.gr hN32.mod;replace hd31:=hd31.gr hN32.mod
  have hrow:Sl [] w4 3 (.slice (some ⟨g32,0,none⟩) 1 1) 1 [.bool (decide ((QR.val z30).num<0)),.slice A31 (toL (QR.val z30).num.natAbs).length c31,.slice B31 (toL (QR.val z30).den).length e31]:=Sl.of_blk hN32.blk 0 (Nat.le_refl _) (by decide) rfl (by simp) (fun j hj=>by simp)
  clear hN32
  have hnl:(nvL (val.take i)).length=i:=by rw [nvL_len,List.length_take]; omega
  refine L.append rfl rfl ho hrow (by intro c hc; simp only [List.mem_cons,List.not_mem_nil,or_false] at hc; rcases hc with rfl | rfl | rfl <;> rfl) tyS23 tyZ26 (by omega) (by unfold maxLen; omega) hm0.size rfl ?_
  intro v33 w5 ho33' hG33
  replace hL:=hL.grew2 hG33 (by first | exact mem_own | (intro b hb; simp [hb]));replace hO:=hO.grew2 hG33 (by first | exact mem_own | (intro b hb; simp [hb]));replace hv:=hv.grew2 hG33 (by first | exact mem_own | (intro b hb; simp [hb]));replace hl:=hl.grew2 hG33 (by first | exact mem_own | (intro b hb; simp [hb]));replace hbd:=hbd.grew2 hG33 (by first | exact mem_own | (intro b hb; simp [hb]));replace hm0:=Mod.oldOwn hm0 hG33.mod ho;replace hn30:=hn30.grew2 hG33 (by first | exact mem_own | (intro b hb; simp [hb]));replace hd30:=hd30.grew2 hG33 (by first | exact mem_own | (intro b hb; simp [hb]));replace hn31:=hn31.grew2 hG33 (by first | exact mem_own | (intro b hb; simp [hb]));replace hd31:=hd31.grew2 hG33 (by first | exact mem_own | (intro b hb; simp [hb]));replace ho:=ho33'; clear ho33';clear hG33
  refine L.a rfl rfl<|L.nil<|X.blockEnd<|X.seq<|W.region<|L.m rfl rfl<|L.v (R1.addI (b:=1) rfl rfl (by omega)) rfl<|L.a rfl rfl<|L.nil<|X.next (i + 1,v33,css ++ [[.bool (decide ((QR.val z30).num<0)),.slice A31 (toL (QR.val z30).num.natAbs).length c31,.slice B31 (toL (QR.val z30).den).length e31]]) ?_ ?_ ?_
  · exact ⟨rfl,rfl,rfl,rfl,rfl,trivial⟩
  ·
   exact ⟨hL.su,hO.su,hv.su,own_congr ho (by rw [nvL_snoc hz30]; simp) (by simp),by rw [nvL_snoc hz30]; exact (hl.su).append (LayL.one _ (QR.nf (QR.val z30)) (rdQ_mk (q:=QR.nf (QR.val z30)) (hn31.su) (hd31.su))),by omega,hbd.su,hm0⟩
  first | omega | (dsimp only; omega)
 intro hc23
 try simp only [bq,ne_eq] at hc23
 obtain rfl:i=val.length:=by omega
 refine W.exit<|X.thenExit<|X.nextExit<|X.here<|X.seq<|W.seq<|W.region<|L.m rfl rfl<|L.m rfl rfl<|L.m rfl rfl<|L.v (R1.lenLay rfl hv tyS23) rfl ?_
 refine L.call rfl (c_r14_Order (z0:=(val.length:Int)) hL hO hbd hsmL) rfl ?_
 rintro v38 w6 ⟨hP9,hm6⟩
 replace hL:=hL.ownd hP9 hm6;replace hO:=hO.ownd hP9 hm6;replace hl:=hl.ownd hP9 hm6;replace hbd:=hbd.ownd hP9 hm6;have haw_ho_hP9:=own_away_res ho hP9;replace hP9:=own_less hP9 hm0.size;replace ho:=own_gr ho hm6 (by simp);replace hm0:=hm0.trans hm6;clear hm6
 have hP:Lay rdI (ownL u ++ []) _ v38 (ordZ (val.length:Int) cs os):=Lay.of_Z hP9 (fun g h1 h2=>haw_ho_hP9 g (by simpa [ownL] using h2) h1)
 rw [ordZ_true hCh] at hP
 refine L.a rfl rfl<|L.nil<|X.seq<|W.seq<|W.seq<|W.region<|L.a rfl rfl<|L.nil<|X.seq<|W.block<|W.loop (ι:=Nat × List (List Value) × List QR) (fun (k,css,vs)=>[(0,.slice TL cs.length tL),(1,.slice TO os.length tO),(9,u),(11,v38),(12,.int .i64 ((k:Nat):Int))]) (fun (k,css,vs) w_=>Lay rdC (ownL u ++ M) w_ (.slice TL cs.length tL) cs∧Lay rdI (ownL u ++ M) w_ (.slice TO os.length tO) os∧w_.ownsRow w.heap.size 26 3 u vs.length css.flatten∧LayL rdQ (ownL u ++ M) w_ css vs∧Lay rdI (ownL u ++ []) w_ v38 ((ordT cs os os).map (fun (k:Nat)=>(k:Int)))∧k≤(ordT cs os os).length∧vs.length=val.length∧(∀ q∈vs,SmQ 10000 q)∧runL cs os ((ordT cs os os).drop k) vs=runZ cs os val∧Bd (ownL u ++ M) w_∧Mod [] w w_) (fun (k,css,vs)=>(ordT cs os os).length - k) (0,css,nvL (val.take val.length)) ?_ ?_ ?_
 · exact ⟨rfl,rfl,rfl,rfl,rfl,trivial⟩
 ·
  exact ⟨hL.su,hO.su,ho,hl.su,hP.su,Nat.zero_le _,by rw [nvL_len]; simp,(fun q hq=>hsn q (by simpa using hq)),by unfold runZ; rw [if_pos hCh,List.take_length]; rfl,hbd.su,hm0⟩
 rintro ⟨k,css,vs⟩ w7 ⟨hL,hO,ho,hl,hP,hk,hvl,hvs,hrun,hbd,hm0⟩
 refine W.seq<|W.seq<|W.region<|L.m rfl rfl<|L.m rfl rfl<|L.v (R1.lenLay rfl hP tyS29) rfl<|L.v (R1.lt rfl rfl) rfl<|L.nil<|X.seq<|W.cond rfl ?_ ?_
 ·
  intro hc42
  try simp only [bq,ne_eq] at hc42
  obtain ⟨ip,hip⟩:∃ i,(ordT cs os os)[k]?=some i:=⟨_,List.getElem?_eq_getElem (by omega)⟩
  obtain ⟨hp1,hp2,hp3,hp4⟩:=ordT_at hch hol hip
  rw [runL_step hip] at hrun
  refine W.skip<|X.seq<|W.seq<|W.block<|W.seq<|W.region<|L.m rfl rfl<|L.m rfl rfl<|L.m rfl rfl<|L.v (R1.atLay (j:=k) rfl rfl hP tyS29 rfl (by omega)) rfl<|L.v (R1.loadLI rfl hP tyP3 (by omega) (mapI_get hip _)) rfl ?_
  refine L.v (R1.atLay (j:=ip) rfl rfl hO tyS29 rfl (by omega)) rfl<|L.v (R1.loadLI rfl hO tyP3 (by omega) (getD_at _)) rfl<|L.a rfl rfl<|L.nil<|X.seq<|W.seq<|W.region<|L.m rfl rfl<|L.m rfl rfl<|L.m rfl rfl<|L.m rfl rfl ?_
  refine L.m rfl rfl<|L.v (R1.atLay (j:=k) rfl rfl hP tyS29 rfl (by omega)) rfl<|L.v (R1.loadLI rfl hP tyP3 (by omega) (mapI_get hip _)) rfl<|L.v (R1.atLay (j:=ip) rfl rfl hL tyS22 rfl (by omega)) rfl ?_
  obtain ⟨z60,cs60,hz60,hE60,vt60,ds60,rfl,ht60,vn60,vd60,rfl,hn60,hd60⟩:=Lay.elemQ hL (j:=ip) (by omega);obtain ⟨T60,t60,rfl⟩:=ht60.form;obtain ⟨A60,c60,rfl⟩:=hn60.form;obtain ⟨B60,e60,rfl⟩:=hd60.form
  refine L.v (R1.loadE rfl hE60 tyG47) rfl<|L.m rfl rfl<|L.m rfl rfl ?_
  have hvS:Lay rdQ [] _ u vs:=Lay.of_own ho (hl.sub (by simp)) (by simp)
  have hg9:=getD_of_get (d:=c0R) hz60
  have hC9:isC z60 (vs.length:Int)=true:=by rw [hvl,← hg9]; exact hp2
  rw [hg9] at hrun
  refine L.call rfl (c_told ht60 hn60 hd60 hvS hbd (smC_up (hsm _ (List.mem_of_getElem? hz60)) (by decide)) hvs hC9) rfl ?_
  rintro _ w8 ⟨⟨A63,c63,B63,e63,rfl,hn63,hd63⟩,F63,hm8⟩
  replace hL:=hL.gr hm8;replace hO:=hO.gr hm8;replace ho:=own_gr ho hm8 (by simp);replace hl:=hl.gr hm8;replace hP:=hP.gr hm8;replace hbd:=hbd.gr hm8;replace hm0:=hm0.trans hm8;replace ht60:=ht60.gr hm8;replace hn60:=hn60.gr hm8;replace hd60:=hd60.gr hm8;clear hm8
  refine L.v (R1.atOwn (i:=(os.getD ip 0).toNat) rfl rfl ho tyS23 (by omega) (by omega)) rfl<|L.storeOwnA rfl rfl rfl ho hl (by first | exact mem_own | (intro b hb; simp [hb])) (by omega) (rdQ_mk (q:=QR.nf (toldV z60 (os.getD ip 0) vs)) (hn63.su) (hd63.su)) tyG26 ?_
  intro w9 ho' hl' hm9
  replace hL:=hL.mo hm9;replace hO:=hO.mo hm9;replace hP:=hP.mo hm9;replace hbd:=hbd.gr hm9;replace hm0:=Mod.oldOwn hm0 hm9 ho;replace ht60:=ht60.mo hm9;replace hn60:=hn60.mo hm9;replace hd60:=hd60.mo hm9;replace hn63:=hn63.mo hm9;replace hd63:=hd63.mo hm9;clear hm9 hl;replace ho:=ho'; clear ho';have hl:=hl'; clear hl'
  refine L.nil<|X.seq<|W.seq<|W.region<|L.m rfl rfl<|L.m rfl rfl<|L.v (R1.atOwn (i:=(os.getD ip 0).toNat) rfl rfl ho tyS23 (by omega) (by omega)) rfl ?_
  obtain ⟨z68,cs68,hz68,hE68,vn68,vd68,rfl,hn68,hd68⟩:=own_elemQ ho rfl hl (j:=(os.getD ip 0).toNat) (by rw [List.length_set]; omega)
  obtain rfl:QR.nf (toldV z60 (os.getD ip 0) vs)=z68:=by have h9:=hz68; rw [List.getElem?_set_self (by omega)] at h9; injection h9
  obtain ⟨A68,c68,rfl⟩:=hn68.form;obtain ⟨B68,e68,rfl⟩:=hd68.form
  refine L.v (R1.loadE rfl hE68 tyG26) rfl<|L.call rfl (c_ref2_Large (q:=(QR.val (QR.nf (toldV z60 (os.getD ip 0) vs)))) rfl hn68 hd68 hbd (Nat.le_trans F63.1 (by decide)) (Nat.le_trans F63.2 (by decide))) rfl ?_
  rintro _ w10 ⟨rfl,hm10⟩
  replace hL:=hL.gr hm10;replace hO:=hO.gr hm10;replace hP:=hP.gr hm10;replace hbd:=hbd.gr hm10;replace hm0:=hm0.trans hm10;replace hl:=hl.gr hm10;replace ho:=own_gr ho hm10 (by simp);clear hm10
  refine L.nil<|X.seq<|W.cond rfl ?_ ?_
  ·
   intro hc69
   rw [QR.nf_val] at hc69
   refine W.seq<|W.drawW (T:=[]) rfl (by decide +kernel) (NoHang.then (NoHang.block (NoHang.then (NoHang.next (NoHang.block (NoHang.then NoHang.post)))))) (fun w11 hm11=>?_)
   replace hP:=hP.gr hm11;replace hm0:=hm0.trans hm11
   have hS1:Mod [] w11 w11:=Mod.refl _ _
   clear hm11
   refine D.m 0 rfl (by kernel_rfl) rfl hS1 rfl<|D.m 1 rfl (by kernel_rfl) rfl hS1 rfl<|D.take 2 rfl (by kernel_rfl) (fun w_ hS=>(R1.atLay (j:=k) rfl rfl (Lay.gr hP hS) tyS29 rfl (by omega))) hS1 rfl<|D.take 3 rfl (by kernel_rfl) (fun w_ hS=>(R1.loadLI rfl (Lay.gr hP hS) tyP3 (by omega) (mapI_get hip _))) hS1 rfl<|D.take 4 rfl (by kernel_rfl) (fun w_ hS=>(R1.assign rfl)) hS1 rfl<|D.take 5 rfl (by kernel_rfl) (fun w_ hS=>(R1.assign rfl)) hS1 rfl<|D.take 6 rfl (by kernel_rfl) (fun w_ hS=>(R1.assign rfl)) hS1 rfl<|D.done (by decide +kernel) ?_ _
   refine X.seq<|W.ret<|X.blockRet<|X.thenRet<|X.nextRet<|X.blockRet<|X.thenRet<|X.result3 rfl (.tmp rfl (.tmp rfl (.tmp rfl .nil))) ?_
   rw [if_pos hc69] at hrun
   rw [← hrun]
   exact ⟨_,rfl,Lay.nil rfl,hm0⟩
  intro hc69
  rw [QR.nf_val] at hc69
  refine W.skip<|X.blockEnd<|X.seq<|W.region<|L.m rfl rfl<|L.v (R1.addI (b:=1) rfl rfl (by omega)) rfl<|L.a rfl rfl<|L.nil<|X.next (k + 1,css.set (os.getD ip 0).toNat [.bool (decide ((toldV z60 (os.getD ip 0) vs).num<0)),.slice A63 (toL (toldV z60 (os.getD ip 0) vs).num.natAbs).length c63,.slice B63 (toL (toldV z60 (os.getD ip 0) vs).den).length e63],vs.set (os.getD ip 0).toNat (QR.nf (toldV z60 (os.getD ip 0) vs))) ?_ ?_ ?_
  · exact ⟨rfl,rfl,rfl,rfl,rfl,trivial⟩
  ·
   exact ⟨hL.su,hO.su,own_congr ho (by simp) rfl,hl.su,hP.su,by omega,by simpa using hvl,set_sm hvs (nf_sm16 hc69),by rw [if_neg (by rw [hc69]; decide)] at hrun; exact hrun,hbd.su,hm0⟩
  first | omega | (dsimp only; omega)
 intro hc42
 try simp only [bq,ne_eq] at hc42
 refine W.exit<|X.thenExit<|X.nextExit<|X.here<|X.seq<|W.seq<|W.region<|L.m rfl rfl<|L.a rfl rfl<|L.a rfl rfl<|L.a rfl rfl ?_
 refine L.nil<|X.seq<|W.ret<|X.result3 rfl (.tmp rfl (.tmp rfl (.tmp rfl .nil))) ?_
 have hk9:k=(ordT cs os os).length:=by omega
 rw [hk9,List.drop_length,runL] at hrun
 rw [← hrun]
 exact ⟨_,rfl,Lay.of_own ho (hl.su) (fun g h1 h2=>Nat.lt_irrefl _ (Nat.lt_of_lt_of_le (hbd0 g h2) (own_ge ho g h1).1)),hm0⟩
end Go.Proofs.YtedokfpoajfflaaGreat
