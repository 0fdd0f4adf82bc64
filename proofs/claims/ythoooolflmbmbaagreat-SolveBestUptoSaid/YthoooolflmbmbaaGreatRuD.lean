/- Walks: what the functions compute. -/
import Derived.Test.YthoooolflmbmbaaGreatRuC
namespace Go.Proofs.YthoooolflmbmbaaGreat
open Go.RowKit
set_option linter.unusedVariables false
set_option linter.unusedSimpArgs false
set_option maxRecDepth 10000
theorem sm316 {val:List QR} (h:∀ q∈val,SmQ 3 q):∀ q∈val,SmQ 16 q:=fun q hq=>⟨Nat.le_trans (h q hq).1 (by decide),Nat.le_trans (h q hq).2 (by decide)⟩
theorem smC_up {L L2:Nat} {c:CR} (h:SmC L c) (hL:L≤L2):SmC L2 c:=⟨Nat.le_trans h.1 hL,⟨Nat.le_trans h.2.1.1 hL,Nat.le_trans h.2.1.2 hL⟩,fun t ht=>⟨Nat.le_trans (h.2.2 t ht).1 hL,Nat.le_trans (h.2.2 t ht).2 hL⟩⟩
def nvL (l:List QR):List QR:=l.map fun q=>QR.nf q.val
def runL (cs:List CR) (os:List Int):List Nat→List QR→List QR × Int × Int
  | [],vs=>(vs,-1,0)
  | i :: r,vs=>if largeB (toldV (cs.getD i c0R) (os.getD i 0) vs)=true then ([],(i:Int),8) else runL cs os r (vs.set (os.getD i 0).toNat (QR.nf (toldV (cs.getD i c0R) (os.getD i 0) vs)))
def runZ (cs:List CR) (os:List Int) (val:List QR):List QR × Int × Int:=if ChB (val.length:Int) cs os=true then runL cs os (ordT cs os os) (nvL val) else ([],-1,1)
theorem nvL_len (l:List QR):(nvL l).length=l.length:=by simp [nvL]
theorem nvL_snoc {l:List QR} {i:Nat} {z:QR} (hz:l[i]?=some z):nvL (l.take (i + 1))=nvL (l.take i) ++ [QR.nf z.val]:=by
  obtain ⟨hi,rfl⟩:=List.getElem?_eq_some_iff.1 hz
  unfold nvL
  rw [List.take_succ_eq_append_getElem hi,List.map_append]; rfl
theorem runL_step {cs:List CR} {os:List Int} {pl:List Nat} {k i:Nat} (h:pl[k]?=some i) (vs:List QR):runL cs os (pl.drop k) vs=if largeB (toldV (cs.getD i c0R) (os.getD i 0) vs)=true then ([],(i:Int),8) else runL cs os (pl.drop (k + 1)) (vs.set (os.getD i 0).toNat (QR.nf (toldV (cs.getD i c0R) (os.getD i 0) vs))):=by
  obtain ⟨hk,rfl⟩:=List.getElem?_eq_some_iff.1 h
  rw [List.drop_eq_getElem_cons hk,runL]
theorem mapI_get {pl:List Nat} {k i:Nat} (h:pl[k]?=some i) (hk:k<(pl.map (fun (k:Nat)=>(k:Int))).length):(pl.map (fun (k:Nat)=>(k:Int)))[k]=(i:Int):=by
  obtain ⟨hk,rfl⟩:=List.getElem?_eq_some_iff.1 h
  simp
theorem nf_sm16 {x:Rat} (h:largeB x=false):SmQ 10000 (QR.nf x):=by
  unfold largeB at h
  simp only [Bool.or_eq_false_iff,decide_eq_false_iff_not] at h
  exact ⟨by show (toL _).length≤10000; omega,by show (toL _).length≤10000; omega⟩
theorem nf_fit {x:Rat} {L:Nat} (h:Fit x L) (hL:L≤10000):SmQ 10000 (QR.nf x):=⟨Nat.le_trans h.1 hL,Nat.le_trans h.2 hL⟩
theorem set_sm {vs:List QR} {i:Nat} {q:QR} (h:∀ q∈vs,SmQ 10000 q) (hq:SmQ 10000 q):∀ x∈vs.set i q,SmQ 10000 x:=fun x hx=>by
  rcases List.mem_or_eq_of_mem_set hx with h1 | h1
  · exact h x h1
  exact h1 ▸ hq
theorem ordF_tells (cs:List CR) (os:List Int):∀ (f:Nat) (wa:List Int) (i:Nat),(∀ j,wa.getD j 0≠-1→j<os.length→os.getD j 0≠-1)→i∈ordF cs os f wa→os.getD i 0≠-1
  | 0,_,_,_,h=>by cases h
  | f + 1,wa,i,hw,h=>by
    rw [ordF] at h
    cases hf:(List.range os.length).find? (rdW cs os wa) with
    | none=>rw [hf] at h; cases h
    | some j =>
      rw [hf] at h
      rw [List.find?_range_eq_some] at hf
      rcases List.mem_cons.1 h with rfl | h
      · have h1:=hf.1
        unfold rdW at h1
        simp only [Bool.and_eq_true,decide_eq_true_eq] at h1
        exact hw _ h1.1 (by simpa using hf.2.1)
      refine ordF_tells cs os f _ i (fun a ha hl=>hw a (fun e=>ha ?_) hl) h
      rw [List.getD_eq_getElem?_getD] at e ⊢
      rw [List.getElem?_set]
      split
      · split
        · rfl
        rename_i e2 e3
        exfalso; subst e2
        have h8:wa[j]?=none:=List.getElem?_eq_none (by omega)
        rw [h8] at e; simp at e
      exact e
theorem ordT_at {n:Int} {cs:List CR} {os:List Int} {k i:Nat} (hch:chP n cs os cs.length) (hol:os.length=cs.length) (h:(ordT cs os os)[k]?=some i):i<cs.length∧isC (cs.getD i c0R) n=true∧0≤os.getD i 0∧os.getD i 0<n:=by
  have hm:=List.mem_of_getElem? h;have h1:=ordF_mem cs os _ _ _ hm;have h2:=ordF_tells cs os _ os i (fun j hj _=>hj) hm;obtain ⟨h3,h4 | h4⟩:=hch i (by omega)
  · exact absurd h4 h2
  have h5:=hasV_lt h3 h4.1
  exact ⟨by omega,h3,h5.1,h5.2⟩
theorem fillQ9 (s:Bool) (A:Option Addr) (n c:Nat) (B:Option Addr) (m d:Nat):Instr.fill (fun i=>some (i * 3,3)) ((Array.range (1 * 3)).map ((Value.agg #[.bool false,.slice none 0 0,.slice none 0 0]).cells[· % (Value.agg #[.bool false,.slice none 0 0,.slice none 0 0]).cells.size]!)) [(0,.agg #[.bool s,.slice A n c,.slice B m d])]=some #[.bool s,.slice A n c,.slice B m d]:=by kernel_rfl
theorem ordZ_true {z:Int} {cs:List CR} {os:List Int} (h:ChB z cs os=true):ordZ z cs os=(ordT cs os os).map (fun (k:Nat)=>(k:Int)):=by unfold ordZ; rw [h]; rfl
set_option maxHeartbeats 1000000 in
theorem c_Run {M : List Nat} {w : World} {vl vo vv : Value} {cs : List CR} {os : List Int} {val : List QR} (hL : Lay rdC M w vl cs) (hO : Lay rdI M w vo os) (hv : Lay rdQ M w vv val) (hbd : Bd M w) (hsm : ∀ c ∈ cs, SmC 150 c) (hsv : ∀ q ∈ val, SmQ 16 q) :
    Ret Tryz.prog 18 #[vl,vo,vv] w (fun r w'=>∃ v,r=.tuple #[v,.int .i64 (runZ cs os val).2.1,.int .i64 (runZ cs os val).2.2]∧Lay rdQ M w' v (runZ cs os val).1∧Mod [] w w'):=by
 have hbd0:=hbd;obtain ⟨TL,tL,rfl⟩:=hL.form;obtain ⟨TO,tO,rfl⟩:=hO.form;obtain ⟨TV,tV,rfl⟩:=hv.form;have hmaxL:=hL.max; unfold maxLen at hmaxL;have hmaxV:=hv.max; unfold maxLen at hmaxV
 have hsmL:∀ c∈cs,SmC 1099511627776 c:=fun c hc=>smC_up (hsm c hc) (by decide)
 refine Ret.of (vs:=[.slice TL cs.length tL,.slice TO os.length tO,.slice TV val.length tV]) (n:=65) Tryz.func18 rfl rfl rfl rfl ?_
 have C0:Mod [] w w:=Mod.refl _ _
 refine W.sr<|L.b rfl<|L.b rfl<|L.b rfl<|L.z<|W.seq<|W.sr<|L.k rfl ?_
 refine L.k rfl<|L.k rfl<|L.lL rfl hv Q23<|L.c rfl (c_dIs hL hO hbd hsmL) ?_
 rintro _ w1 ⟨rfl,C1⟩
 replace hL:=hL.gr C1;replace hO:=hO.gr C1;replace hv:=hv.gr C1;replace hbd:=hbd.gr C1;replace C0:=C0.trans C1;clear C1
 refine L.v (R1.not rfl) rfl<|L.z<|W.cond rfl ?_ ?_
 ·
  intro J20
  simp only [Bool.not_eq_true',Bool.not_eq_false'] at J20
  refine W.sr<|L.b rfl<|L.b rfl<|L.b rfl<|L.z<|W.ret<|X.thenRet<|X.result3 rfl (.tmp rfl (.tmp rfl (.tmp rfl .nil))) ?_
  have e9:runZ cs os val=([],-1,1):=by unfold runZ; rw [if_neg (by rw [J20]; decide)]
  rw [e9]
  exact ⟨_,rfl,Lay.nil rfl,C0⟩
 intro J20
 simp only [Bool.not_eq_true',Bool.not_eq_false'] at J20
 have hCh:=J20;obtain ⟨P1,P2,hcl,hol,hch,hF0⟩:=ChB_true hCh;have hple:=ordT_le cs os os
 have hpl9:((ordT cs os os).map (fun (k:Nat)=>(k:Int))).length=(ordT cs os os).length:=List.length_map _
 have hsn:∀ q∈nvL val,SmQ 10000 q:=fun q hq=>by
   obtain ⟨z,hz,rfl⟩:=List.mem_map.1 hq;obtain ⟨j,hj,rfl⟩:=List.mem_iff_getElem.1 hz;obtain ⟨cs9,_,vn9,vd9,_,h1,h2⟩:=hv.elem hj
   exact nf_fit (fit_sm h1 h2 (hsv _ (List.getElem_mem hj))) (by decide)
 refine W.skip<|X.seq<|W.sr<|L.b rfl<|L.z<|W.seq<|W.sr<|L.k rfl ?_
 refine L.lL rfl hv Q23<|L.k rfl<|L.z<|W.block<|W.loop (ι:=Nat × Value × List (List Value)) (fun (i,u,css)=>[(0,.slice TL cs.length tL),(1,.slice TO os.length tO),(2,.slice TV val.length tV),(9,u),(21,.slice TV val.length tV),(22,.int .i64 ((val.length:Nat):Int)),(23,.int .i64 ((i:Nat):Int))]) (fun (i,u,css) w_=>Lay rdC (ownL u ++ M) w_ (.slice TL cs.length tL) cs∧Lay rdI (ownL u ++ M) w_ (.slice TO os.length tO) os∧Lay rdQ (ownL u ++ M) w_ (.slice TV val.length tV) val∧w_.ownsRow w.heap.size 40 3 u (nvL (val.take i)).length css.flatten∧LayL rdQ (ownL u ++ M) w_ css (nvL (val.take i))∧i≤val.length∧Bd (ownL u ++ M) w_∧Mod [] w w_) (fun (i,u,css)=>val.length - i) (0,.slice none 0 0,[]) ?_ ?_ ?_
 · repeat' constructor
 ·
  exact ⟨hL.su,hO.su,hv.su,own_nil _ _ _ _,LayL.nil,Nat.zero_le _,hbd.su,C0⟩
 rintro ⟨i,u,css⟩ w2 ⟨hL,hO,hv,ho,hl,hi,hbd,C0⟩
 refine W.sr<|L.lt rfl rfl<|L.z<|W.seq<|W.cond rfl ?_ ?_
 ·
  intro J24
  try simp only [bq,ne_eq] at J24
  refine W.skip<|X.seq<|W.seq<|W.block<|W.sr<|L.aL (j:=i) rfl rfl hv Q23 rfl (by omega) ?_
  obtain ⟨z26,cs26,P26,V26,vn26,vd26,rfl,I26,H26⟩:=Lay.elemQ hv (j:=i) (by omega);obtain ⟨A26,c26,rfl⟩:=I26.form;obtain ⟨B26,e26,rfl⟩:=H26.form
  refine L.v (R1.loadE rfl V26 tyG40) rfl ?_
  have F26:=fit_sm I26 H26 (hsv _ (List.mem_of_getElem? P26))
  refine L.alloc tyZ40 rfl ?_
  intro g11 w3 D11
  replace hL:=hL.new D11;replace hO:=hO.new D11;replace hv:=hv.new D11;have hno_ho_g11:=own_ne_new ho D11;replace ho:=own_gs ho D11.mod;replace hl:=hl.new D11;replace hbd:=hbd.new D11;have K11:=New.ge D11 C0.size;replace C0:=C0.tn D11;replace I26:=I26.new D11;replace H26:=H26.new D11;have E11:=D11.blk;clear D11
  refine L.storeBox rfl rfl E11 rfl rfl tyG40 ?_
  intro w4 E11' C4
  replace hL:=hL.ms C4;replace hO:=hO.ms C4;replace hv:=hv.ms C4;replace ho:=own_far ho C4 hno_ho_g11;replace hl:=hl.ms C4;replace hbd:=hbd.gr C4;replace C0:=C0.old1 C4 K11;replace I26:=I26.ms C4;replace H26:=H26.ms C4;clear C4;replace E11:=E11'; clear E11'
  refine L.z<|W.region<|L.k rfl<|L.v (R1.loadBox rfl E11 tyG40) rfl<|L.c rfl (c_rat_Norm (q:=(QR.val z26)) rfl I26 H26 hbd (Nat.le_trans (hsv _ (List.mem_of_getElem? P26)).1 (by decide)) (Nat.le_trans (hsv _ (List.mem_of_getElem? P26)).2 (by decide))) ?_
  rintro _ w5 ⟨⟨A29,c29,B29,e29,rfl,I29,H29⟩,C5⟩
  replace hL:=hL.gr C5;replace hO:=hO.gr C5;replace hv:=hv.gr C5;replace ho:=own_gs ho C5;replace hl:=hl.gr C5;replace hbd:=hbd.gr C5;replace C0:=C0.trans C5;replace I26:=I26.gr C5;replace H26:=H26.gr C5;clear C5;have F29:=F26
  refine L.buildSlice (cells:=[.bool (decide ((QR.val z26).num<0)),.slice A29 (toL (QR.val z26).num.natAbs).length c29,.slice B29 (toL (QR.val z26).den).length e29]) rfl Q23 tyZ40 (fillQ9 _ _ _ _ _ _ _) (by decide) (by decide) rfl ?_
  intro g30 w6 D30
  replace hL:=hL.gr D30.mod;replace hO:=hO.gr D30.mod;replace hv:=hv.gr D30.mod;replace ho:=own_gs ho D30.mod;replace hl:=hl.gr D30.mod;replace hbd:=hbd.gr D30.mod;replace C0:=C0.trans D30.mod;replace I26:=I26.gr D30.mod;replace H26:=H26.gr D30.mod;replace I29:=I29.gr D30.mod;replace H29:=H29.gr D30.mod
  have hrow:Sl [] w6 3 (.slice (some ⟨g30,0,none⟩) 1 1) 1 [.bool (decide ((QR.val z26).num<0)),.slice A29 (toL (QR.val z26).num.natAbs).length c29,.slice B29 (toL (QR.val z26).den).length e29]:=Sl.of_blk D30.blk 0 (Nat.le_refl _) (by decide) rfl (by simp) (fun j hj=>by simp)
  clear D30
  have hnl:(nvL (val.take i)).length=i:=by rw [nvL_len,List.length_take]; omega
  refine L.append rfl rfl ho hrow (by intro c hc; simp only [List.mem_cons,List.not_mem_nil,or_false] at hc; rcases hc with rfl | rfl | rfl <;> rfl) Q23 tyZ40 (by omega) (by unfold maxLen; omega) C0.size rfl ?_
  intro v31 w7 O31' X31
  replace hL:=hL.gw X31;replace hO:=hO.gw X31;replace hv:=hv.gw X31;replace hl:=hl.gw X31;replace hbd:=hbd.gw X31;replace C0:=Mod.oldOwn C0 X31.mod ho;replace I26:=I26.gw X31;replace H26:=H26.gw X31;replace I29:=I29.gw X31;replace H29:=H29.gw X31;replace ho:=O31'; clear O31';clear X31
  refine L.b rfl<|L.nil<|X.blockEnd<|X.seq<|W.region<|L.inc rfl rfl (by omega)<|L.k rfl<|L.nil<|X.next (i + 1,v31,css ++ [[.bool (decide ((QR.val z26).num<0)),.slice A29 (toL (QR.val z26).num.natAbs).length c29,.slice B29 (toL (QR.val z26).den).length e29]]) ?_ ?_ ?_
  · repeat' constructor
  ·
   exact ⟨hL.su,hO.su,hv.su,own_congr ho (by rw [nvL_snoc P26]; simp) (by simp),by rw [nvL_snoc P26]; exact (hl.su).append (LayL.one _ (QR.nf (QR.val z26)) (rdQ_mk (q:=QR.nf (QR.val z26)) (I29.su) (H29.su))),by omega,hbd.su,C0⟩
  first | omega | (dsimp only; omega)
 intro J24
 try simp only [bq,ne_eq] at J24
 obtain rfl:i=val.length:=by omega
 refine W.brk<|W.seq<|W.sr<|L.k rfl<|L.k rfl<|L.k rfl ?_
 refine L.lL rfl hv Q23<|L.c rfl (c_Order (z0:=(val.length:Int)) hL hO hbd hsmL) ?_
 rintro v37 w8 ⟨hP9,C8⟩
 replace hL:=hL.ownd hP9 C8;replace hO:=hO.ownd hP9 C8;replace hl:=hl.ownd hP9 C8;replace hbd:=hbd.ownd hP9 C8;have haw_ho_hP9:=own_away_res ho hP9;replace hP9:=own_less hP9 C0.size;replace ho:=own_gs ho C8;replace C0:=C0.trans C8;clear C8
 have hP:Lay rdI (ownL u ++ []) _ v37 (ordZ (val.length:Int) cs os):=Lay.of_Z hP9 (fun g h1 h2=>haw_ho_hP9 g (by simpa [ownL] using h2) h1)
 rw [ordZ_true hCh] at hP
 refine L.lL rfl hP Q26<|L.k rfl<|L.z<|W.block<|W.loop (ι:=Nat × List (List Value) × List QR) (fun (k,css,vs)=>[(0,.slice TL cs.length tL),(1,.slice TO os.length tO),(9,u),(37,v37),(38,.int .i64 ((((ordT cs os os).map (fun (k:Nat)=>(k:Int))).length:Nat):Int)),(39,.int .i64 ((k:Nat):Int))]) (fun (k,css,vs) w_=>Lay rdC (ownL u ++ M) w_ (.slice TL cs.length tL) cs∧Lay rdI (ownL u ++ M) w_ (.slice TO os.length tO) os∧w_.ownsRow w.heap.size 40 3 u vs.length css.flatten∧LayL rdQ (ownL u ++ M) w_ css vs∧Lay rdI (ownL u ++ []) w_ v37 ((ordT cs os os).map (fun (k:Nat)=>(k:Int)))∧k≤(ordT cs os os).length∧vs.length=val.length∧(∀ q∈vs,SmQ 10000 q)∧runL cs os ((ordT cs os os).drop k) vs=runZ cs os val∧Bd (ownL u ++ M) w_∧Mod [] w w_) (fun (k,css,vs)=>(ordT cs os os).length - k) (0,css,nvL (val.take val.length)) ?_ ?_ ?_
 · repeat' constructor
 ·
  exact ⟨hL.su,hO.su,ho,hl.su,hP.su,Nat.zero_le _,by rw [nvL_len]; simp,(fun q hq=>hsn q (by simpa using hq)),by unfold runZ; rw [if_pos hCh,List.take_length]; rfl,hbd.su,C0⟩
 rintro ⟨k,css,vs⟩ w9 ⟨hL,hO,ho,hl,hP,hk,hvl,hvs,hrun,hbd,C0⟩
 refine W.sr<|L.lt rfl rfl<|L.z<|W.seq<|W.cond rfl ?_ ?_
 ·
  intro J40
  try simp only [bq,ne_eq] at J40
  obtain ⟨ip,hip⟩:∃ i,(ordT cs os os)[k]?=some i:=⟨_,List.getElem?_eq_getElem (by omega)⟩
  obtain ⟨hp1,hp2,hp3,hp4⟩:=ordT_at hch hol hip
  rw [runL_step hip] at hrun
  refine W.skip<|X.seq<|W.seq<|W.block<|W.sr<|L.aL (j:=k) rfl rfl hP Q26 rfl (by omega)<|L.v (R1.loadLI rfl hP tyP3 (by omega) (mapI_get hip _)) rfl<|L.b rfl<|L.z ?_
  refine W.seq<|W.drawW (T:=[11]) rfl (by decide +kernel) (NoHang.then (NoHang.block (NoHang.then (NoHang.next (NoHang.block (NoHang.then NoHang.post)))))) (fun w10 C10=>?_)
  replace hL:=hL.gr C10;replace hO:=hO.gr C10;replace ho:=own_gs ho C10;replace hl:=hl.gr C10;replace hP:=hP.gr C10;replace hbd:=hbd.gr C10;replace C0:=C0.trans C10
  have G1:Mod [] w10 w10:=Mod.refl _ _
  clear C10
  refine D.z 0 rfl (by kernel_rfl) rfl G1<|D.z 1 rfl (by kernel_rfl) rfl G1<|D.t 2 rfl (by kernel_rfl) (fun _ hS=>R1.atLay (j:=ip) rfl rfl (Lay.gr hL hS) Q22 rfl (by omega)) G1 ?_
  obtain ⟨z46,cs46,P46,V46,vt46,ds46,rfl,Y46,vn46,vd46,rfl,I46,H46⟩:=Lay.elemQ hL (j:=ip) (by omega);obtain ⟨T46,t46,rfl⟩:=Y46.form;obtain ⟨A46,c46,rfl⟩:=I46.form;obtain ⟨B46,e46,rfl⟩:=H46.form
  refine D.t 3 rfl (by kernel_rfl) (fun _ hS=>R1.loadE rfl (SlE.gr V46 hS) tyG42) G1<|D.z 4 rfl (by kernel_rfl) rfl G1<|D.z 5 rfl (by kernel_rfl) rfl G1<|D.t 6 rfl (by kernel_rfl) (fun _ hS=>R1.atLay (j:=ip) rfl rfl (Lay.gr hO hS) Q26 rfl (by omega)) G1<|D.t 7 rfl (by kernel_rfl) (fun _ hS=>R1.loadLI rfl (Lay.gr hO hS) tyP3 (by omega) (getD_at _)) G1<|D.z 8 rfl (by kernel_rfl) rfl G1<|D.many (rs:=[9,10]) (by decide +kernel) rfl ?_
  intro i_ hi_
  simp only [List.mem_cons,List.not_mem_nil,or_false] at hi_
  rcases hi_ with rfl | rfl
  ·
   refine ⟨_,rfl,fun hX=>?_⟩
   have hvS:Lay rdQ [] _ u vs:=Lay.of_own ho (hl.sub (by simp)) (by simp)
   have hg9:=getD_of_get (d:=c0R) P46
   have hC9:isC z46 (vs.length:Int)=true:=by rw [hvl,← hg9]; exact hp2
   rw [hg9] at hrun
   refine L.c rfl (c_tells Y46 I46 H46 hvS hbd (smC_up (hsm _ (List.mem_of_getElem? P46)) (by decide)) hvs hC9) ?_
   rintro _ w11 ⟨⟨A52,c52,B52,e52,rfl,I52,H52⟩,F52,C11⟩
   replace hL:=hL.gr C11;replace hO:=hO.gr C11;replace ho:=own_gs ho C11;replace hl:=hl.gr C11;replace hP:=hP.gr C11;replace hbd:=hbd.gr C11;replace C0:=C0.trans C11;replace Y46:=Y46.gr C11;replace I46:=I46.gr C11;replace H46:=H46.gr C11;replace G1:=G1.trans C11;clear C11
   refine L.nil (hX _ _ ⟨.inr G1,?_⟩)
   refine D.one 10 rfl (by kernel_rfl) (fun hX=>?_)
   refine L.alloc tyZ40 rfl ?_
   intro g14 w12 D14
   replace G1:=G1.trans D14.mod;replace hL:=hL.new D14;replace hO:=hO.new D14;have hno_ho_g14:=own_ne_new ho D14;replace ho:=own_gs ho D14.mod;replace hl:=hl.new D14;replace hP:=hP.new D14;replace hbd:=hbd.new D14;have K14:=New.ge D14 C0.size;replace C0:=C0.tn D14;replace Y46:=Y46.new D14;replace I46:=I46.new D14;replace H46:=H46.new D14;replace I52:=I52.new D14;replace H52:=H52.new D14;have E14:=D14.blk;clear D14
   refine L.nil (hX _ _ ⟨.inr G1,?_⟩)
   refine D.one 11 rfl (by kernel_rfl) (fun hX=>?_)
   refine L.storeBox rfl rfl E14 rfl rfl tyG40 ?_
   intro w13 E14' C13
   replace hL:=hL.ms C13;replace hO:=hO.ms C13;replace ho:=own_far ho C13 hno_ho_g14;replace hl:=hl.ms C13;replace hP:=hP.ms C13;replace hbd:=hbd.gr C13;replace C0:=C0.old1 C13 K14;replace Y46:=Y46.ms C13;replace I46:=I46.ms C13;replace H46:=H46.ms C13;replace I52:=I52.ms C13;replace H52:=H52.ms C13;clear C13;replace E14:=E14'; clear E14'
   refine L.nil (hX _ _ ⟨.inl rfl,?_⟩)
   refine D.done (by decide +kernel) ?_ _
   refine X.seq<|W.seq<|W.sr<|L.v (R1.loadBox rfl E14 tyG40) rfl<|L.c rfl (c_rat_Large (q:=(toldV z46 (os.getD ip 0) vs)) (rv_toL _) I52 H52 hbd (Nat.le_trans F52.1 (by decide)) (Nat.le_trans F52.2 (by decide))) ?_
   rintro _ w14 ⟨rfl,C14⟩
   replace hL:=hL.gr C14;replace hO:=hO.gr C14;replace ho:=own_gs ho C14;replace hl:=hl.gr C14;replace hP:=hP.gr C14;replace hbd:=hbd.gr C14;replace C0:=C0.trans C14;replace Y46:=Y46.gr C14;replace I46:=I46.gr C14;replace H46:=H46.gr C14;replace I52:=I52.gr C14;replace H52:=H52.gr C14;replace E14:=E14.gr C14;clear C14
   refine L.z<|W.cond rfl ?_ ?_
   ·
    intro J54
    have hcc_:=J54
    refine W.sr<|L.k rfl<|L.b rfl<|L.b rfl<|L.b rfl<|L.z<|W.ret<|X.thenRet<|X.blockRet ?_
    refine X.thenRet<|X.nextRet<|X.blockRet<|X.thenRet<|X.result3 rfl (.tmp rfl (.tmp rfl (.tmp rfl .nil))) ?_
    rw [if_pos J54] at hrun
    rw [← hrun]
    exact ⟨_,rfl,Lay.nil rfl,C0⟩
   intro J54
   have hcc_:=J54
   refine W.skip<|X.seq<|W.drawW (T:=[7]) rfl (by decide +kernel) (NoHang.block (NoHang.then (NoHang.next (NoHang.block (NoHang.then NoHang.post))))) (fun w15 C15=>?_)
   replace hL:=hL.gr C15;replace hO:=hO.gr C15;replace ho:=own_gs ho C15;replace hl:=hl.gr C15;replace hP:=hP.gr C15;replace hbd:=hbd.gr C15;replace C0:=C0.trans C15;replace Y46:=Y46.gr C15;replace I46:=I46.gr C15;replace H46:=H46.gr C15;replace I52:=I52.gr C15;replace H52:=H52.gr C15;replace E14:=E14.gr C15
   have G2:Mod [] w15 w15:=Mod.refl _ _
   clear C15;have hb14_s:=E14
   refine D.z 0 rfl (by kernel_rfl) rfl G2<|D.z 1 rfl (by kernel_rfl) rfl G2<|D.z 2 rfl (by kernel_rfl) rfl G2<|D.t 3 rfl (by kernel_rfl) (fun _ hS=>R1.atLay (j:=ip) rfl rfl (Lay.gr hO hS) Q26 rfl (by omega)) G2<|D.t 4 rfl (by kernel_rfl) (fun _ hS=>R1.loadLI rfl (Lay.gr hO hS) tyP3 (by omega) (getD_at _)) G2<|D.t 5 rfl (by kernel_rfl) (fun _ hS=>R1.loadBox rfl (hb14_s.gr hS) tyG40) G2<|D.t 6 rfl (by kernel_rfl) (fun _ hS=>R1.atOwn (i:=(os.getD ip 0).toNat) rfl rfl (own_gs ho hS) Q23 (by omega) (by omega)) G2<|D.one 7 rfl (by kernel_rfl) (fun hX=>?_)
   refine L.storeOwnA rfl rfl rfl ho hl (by first | exact mem_own | (intro b hb; simp [hb])) (by omega) (rdQ_mk (q:=QR.nf (toldV z46 (os.getD ip 0) vs)) (I52.su) (H52.su)) tyG40 ?_
   intro w16 ho' hl' C16
   replace hL:=hL.mo C16;replace hO:=hO.mo C16;replace hP:=hP.mo C16;replace hbd:=hbd.gr C16;replace C0:=Mod.oldOwn C0 C16 ho;replace Y46:=Y46.mo C16;replace I46:=I46.mo C16;replace H46:=H46.mo C16;replace I52:=I52.mo C16;replace H52:=H52.mo C16;clear C16 hl;replace ho:=ho'; clear ho';have hl:=hl'; clear hl'
   refine L.nil (hX _ _ ⟨.inl rfl,?_⟩)
   refine D.done (by decide +kernel) ?_ _
   refine X.blockEnd<|X.seq<|W.region<|L.inc rfl rfl (by omega)<|L.k rfl<|L.nil<|X.next (k + 1,css.set (os.getD ip 0).toNat [.bool (decide ((toldV z46 (os.getD ip 0) vs).num<0)),.slice A52 (toL (toldV z46 (os.getD ip 0) vs).num.natAbs).length c52,.slice B52 (toL (toldV z46 (os.getD ip 0) vs).den).length e52],vs.set (os.getD ip 0).toNat (QR.nf (toldV z46 (os.getD ip 0) vs))) ?_ ?_ ?_
   · repeat' constructor
   ·
    exact ⟨hL.su,hO.su,own_congr ho (by simp) rfl,hl.su,hP.su,by omega,by simpa using hvl,set_sm hvs (nf_sm16 J54),by rw [if_neg (by rw [J54]; decide)] at hrun; exact hrun,hbd.su,C0⟩
   first | omega | (dsimp only; omega)
  refine ⟨_,rfl,fun hX=>?_⟩
  refine L.alloc tyZ40 rfl ?_
  intro g14 w17 D14
  replace G1:=G1.trans D14.mod;replace hL:=hL.new D14;replace hO:=hO.new D14;have hno_ho_g14:=own_ne_new ho D14;replace ho:=own_gs ho D14.mod;replace hl:=hl.new D14;replace hP:=hP.new D14;replace hbd:=hbd.new D14;have K14:=New.ge D14 C0.size;replace C0:=C0.tn D14;replace Y46:=Y46.new D14;replace I46:=I46.new D14;replace H46:=H46.new D14;have E14:=D14.blk;clear D14
  refine L.nil (hX _ _ ⟨.inr G1,?_⟩)
  refine D.one 9 rfl (by kernel_rfl) (fun hX=>?_)
  have hvS:Lay rdQ [] _ u vs:=Lay.of_own ho (hl.sub (by simp)) (by simp)
  have hg9:=getD_of_get (d:=c0R) P46
  have hC9:isC z46 (vs.length:Int)=true:=by rw [hvl,← hg9]; exact hp2
  rw [hg9] at hrun
  refine L.c rfl (c_tells Y46 I46 H46 hvS hbd (smC_up (hsm _ (List.mem_of_getElem? P46)) (by decide)) hvs hC9) ?_
  rintro _ w18 ⟨⟨A52,c52,B52,e52,rfl,I52,H52⟩,F52,C18⟩
  replace hL:=hL.gr C18;replace hO:=hO.gr C18;replace ho:=own_gs ho C18;replace hl:=hl.gr C18;replace hP:=hP.gr C18;replace hbd:=hbd.gr C18;replace C0:=C0.trans C18;replace Y46:=Y46.gr C18;replace I46:=I46.gr C18;replace H46:=H46.gr C18;replace E14:=E14.gr C18;replace G1:=G1.trans C18;clear C18
  refine L.nil (hX _ _ ⟨.inr G1,?_⟩)
  refine D.one 11 rfl (by kernel_rfl) (fun hX=>?_)
  refine L.storeBox rfl rfl E14 rfl rfl tyG40 ?_
  intro w19 E14' C19
  replace hL:=hL.ms C19;replace hO:=hO.ms C19;replace ho:=own_far ho C19 hno_ho_g14;replace hl:=hl.ms C19;replace hP:=hP.ms C19;replace hbd:=hbd.gr C19;replace C0:=C0.old1 C19 K14;replace Y46:=Y46.ms C19;replace I46:=I46.ms C19;replace H46:=H46.ms C19;replace I52:=I52.ms C19;replace H52:=H52.ms C19;clear C19;replace E14:=E14'; clear E14'
  refine L.nil (hX _ _ ⟨.inl rfl,?_⟩)
  refine D.done (by decide +kernel) ?_ _
  refine X.seq<|W.seq<|W.sr<|L.v (R1.loadBox rfl E14 tyG40) rfl<|L.c rfl (c_rat_Large (q:=(toldV z46 (os.getD ip 0) vs)) (rv_toL _) I52 H52 hbd (Nat.le_trans F52.1 (by decide)) (Nat.le_trans F52.2 (by decide))) ?_
  rintro _ w20 ⟨rfl,C20⟩
  replace hL:=hL.gr C20;replace hO:=hO.gr C20;replace ho:=own_gs ho C20;replace hl:=hl.gr C20;replace hP:=hP.gr C20;replace hbd:=hbd.gr C20;replace C0:=C0.trans C20;replace Y46:=Y46.gr C20;replace I46:=I46.gr C20;replace H46:=H46.gr C20;replace I52:=I52.gr C20;replace H52:=H52.gr C20;replace E14:=E14.gr C20;clear C20
  refine L.z<|W.cond rfl ?_ ?_
  ·
   intro J54
   have hcc_:=J54
   refine W.sr<|L.k rfl<|L.b rfl<|L.b rfl<|L.b rfl<|L.z<|W.ret<|X.thenRet<|X.blockRet ?_
   refine X.thenRet<|X.nextRet<|X.blockRet<|X.thenRet<|X.result3 rfl (.tmp rfl (.tmp rfl (.tmp rfl .nil))) ?_
   rw [if_pos J54] at hrun
   rw [← hrun]
   exact ⟨_,rfl,Lay.nil rfl,C0⟩
  intro J54
  have hcc_:=J54
  refine W.skip<|X.seq<|W.drawW (T:=[7]) rfl (by decide +kernel) (NoHang.block (NoHang.then (NoHang.next (NoHang.block (NoHang.then NoHang.post))))) (fun w21 C21=>?_)
  replace hL:=hL.gr C21;replace hO:=hO.gr C21;replace ho:=own_gs ho C21;replace hl:=hl.gr C21;replace hP:=hP.gr C21;replace hbd:=hbd.gr C21;replace C0:=C0.trans C21;replace Y46:=Y46.gr C21;replace I46:=I46.gr C21;replace H46:=H46.gr C21;replace I52:=I52.gr C21;replace H52:=H52.gr C21;replace E14:=E14.gr C21
  have G3:Mod [] w21 w21:=Mod.refl _ _
  clear C21;have hb14_s:=E14
  refine D.z 0 rfl (by kernel_rfl) rfl G3<|D.z 1 rfl (by kernel_rfl) rfl G3<|D.z 2 rfl (by kernel_rfl) rfl G3<|D.t 3 rfl (by kernel_rfl) (fun _ hS=>R1.atLay (j:=ip) rfl rfl (Lay.gr hO hS) Q26 rfl (by omega)) G3<|D.t 4 rfl (by kernel_rfl) (fun _ hS=>R1.loadLI rfl (Lay.gr hO hS) tyP3 (by omega) (getD_at _)) G3<|D.t 5 rfl (by kernel_rfl) (fun _ hS=>R1.loadBox rfl (hb14_s.gr hS) tyG40) G3<|D.t 6 rfl (by kernel_rfl) (fun _ hS=>R1.atOwn (i:=(os.getD ip 0).toNat) rfl rfl (own_gs ho hS) Q23 (by omega) (by omega)) G3<|D.one 7 rfl (by kernel_rfl) (fun hX=>?_)
  refine L.storeOwnA rfl rfl rfl ho hl (by first | exact mem_own | (intro b hb; simp [hb])) (by omega) (rdQ_mk (q:=QR.nf (toldV z46 (os.getD ip 0) vs)) (I52.su) (H52.su)) tyG40 ?_
  intro w22 ho' hl' C22
  replace hL:=hL.mo C22;replace hO:=hO.mo C22;replace hP:=hP.mo C22;replace hbd:=hbd.gr C22;replace C0:=Mod.oldOwn C0 C22 ho;replace Y46:=Y46.mo C22;replace I46:=I46.mo C22;replace H46:=H46.mo C22;replace I52:=I52.mo C22;replace H52:=H52.mo C22;clear C22 hl;replace ho:=ho'; clear ho';have hl:=hl'; clear hl'
  refine L.nil (hX _ _ ⟨.inl rfl,?_⟩)
  refine D.done (by decide +kernel) ?_ _
  refine X.blockEnd<|X.seq<|W.region<|L.inc rfl rfl (by omega)<|L.k rfl<|L.nil<|X.next (k + 1,css.set (os.getD ip 0).toNat [.bool (decide ((toldV z46 (os.getD ip 0) vs).num<0)),.slice A52 (toL (toldV z46 (os.getD ip 0) vs).num.natAbs).length c52,.slice B52 (toL (toldV z46 (os.getD ip 0) vs).den).length e52],vs.set (os.getD ip 0).toNat (QR.nf (toldV z46 (os.getD ip 0) vs))) ?_ ?_ ?_
  · repeat' constructor
  ·
   exact ⟨hL.su,hO.su,own_congr ho (by simp) rfl,hl.su,hP.su,by omega,by simpa using hvl,set_sm hvs (nf_sm16 J54),by rw [if_neg (by rw [J54]; decide)] at hrun; exact hrun,hbd.su,C0⟩
  first | omega | (dsimp only; omega)
 intro J40
 try simp only [bq,ne_eq] at J40
 refine W.brk<|W.sr<|L.k rfl<|L.b rfl<|L.b rfl<|L.b rfl ?_
 refine L.z<|W.ret<|X.result3 rfl (.tmp rfl (.tmp rfl (.tmp rfl .nil))) ?_
 have hk9:k=(ordT cs os os).length:=by omega
 rw [hk9,List.drop_length,runL] at hrun
 rw [← hrun]
 exact ⟨_,rfl,Lay.of_own ho (hl.su) (fun g h1 h2=>Nat.lt_irrefl _ (Nat.lt_of_lt_of_le (hbd0 g h2) (own_ge ho g h1).1)),C0⟩
set_option maxHeartbeats 1000000 in
theorem c_r14_Run {M : List Nat} {w : World} {vl vo vv : Value} {cs : List CR} {os : List Int} {val : List QR} (hL : Lay rdC M w vl cs) (hO : Lay rdI M w vo os) (hv : Lay rdQ M w vv val) (hbd : Bd M w) (hsm : ∀ c ∈ cs, SmC 150 c) (hsv : ∀ q ∈ val, SmQ 16 q) :
    Ret Tryz.prog 23 #[vl,vo,vv] w (fun r w'=>∃ v,r=.tuple #[v,.int .i64 (runZ cs os val).2.1,.int .i64 (runZ cs os val).2.2]∧Lay rdQ M w' v (runZ cs os val).1∧Mod [] w w'):=by
 have hbd0:=hbd;obtain ⟨TL,tL,rfl⟩:=hL.form;obtain ⟨TO,tO,rfl⟩:=hO.form;obtain ⟨TV,tV,rfl⟩:=hv.form;have hmaxL:=hL.max; unfold maxLen at hmaxL;have hmaxV:=hv.max; unfold maxLen at hmaxV
 have hsmL:∀ c∈cs,SmC 1099511627776 c:=fun c hc=>smC_up (hsm c hc) (by decide)
 refine Ret.of (vs:=[.slice TL cs.length tL,.slice TO os.length tO,.slice TV val.length tV]) (n:=75) Tryz.func23 rfl rfl rfl rfl ?_
 have C0:Mod [] w w:=Mod.refl _ _
 refine W.sr<|L.b rfl<|L.b rfl<|L.b rfl<|L.z<|W.seq<|W.sr<|L.k rfl ?_
 refine L.k rfl<|L.k rfl<|L.lL rfl hv Q23<|L.c rfl (c_r13_Is hL hO hbd hsmL) ?_
 rintro _ w1 ⟨rfl,C1⟩
 replace hL:=hL.gr C1;replace hO:=hO.gr C1;replace hv:=hv.gr C1;replace hbd:=hbd.gr C1;replace C0:=C0.trans C1;clear C1
 refine L.v (R1.not rfl) rfl<|L.z<|W.cond rfl ?_ ?_
 ·
  intro J19
  simp only [Bool.not_eq_true',Bool.not_eq_false'] at J19
  refine W.sr<|L.b rfl<|L.b rfl<|L.b rfl<|L.z<|W.ret<|X.thenRet<|X.result3 rfl (.tmp rfl (.tmp rfl (.tmp rfl .nil))) ?_
  have e9:runZ cs os val=([],-1,1):=by unfold runZ; rw [if_neg (by rw [J19]; decide)]
  rw [e9]
  exact ⟨_,rfl,Lay.nil rfl,C0⟩
 intro J19
 simp only [Bool.not_eq_true',Bool.not_eq_false'] at J19
 have hCh:=J19;obtain ⟨P1,P2,hcl,hol,hch,hF0⟩:=ChB_true hCh;have hple:=ordT_le cs os os
 have hpl9:((ordT cs os os).map (fun (k:Nat)=>(k:Int))).length=(ordT cs os os).length:=List.length_map _
 have hsn:∀ q∈nvL val,SmQ 10000 q:=fun q hq=>by
   obtain ⟨z,hz,rfl⟩:=List.mem_map.1 hq;obtain ⟨j,hj,rfl⟩:=List.mem_iff_getElem.1 hz;obtain ⟨cs9,_,vn9,vd9,_,h1,h2⟩:=hv.elem hj
   exact nf_fit (fit_sm h1 h2 (hsv _ (List.getElem_mem hj))) (by decide)
 refine W.skip<|X.seq<|W.sr<|L.b rfl<|L.z<|W.seq<|W.sr<|L.b rfl ?_
 refine L.z<|W.block<|W.loop (ι:=Nat × Value × List (List Value)) (fun (i,u,css)=>[(0,.slice TL cs.length tL),(1,.slice TO os.length tO),(2,.slice TV val.length tV),(9,u),(10,.int .i64 ((i:Nat):Int))]) (fun (i,u,css) w_=>Lay rdC (ownL u ++ M) w_ (.slice TL cs.length tL) cs∧Lay rdI (ownL u ++ M) w_ (.slice TO os.length tO) os∧Lay rdQ (ownL u ++ M) w_ (.slice TV val.length tV) val∧w_.ownsRow w.heap.size 40 3 u (nvL (val.take i)).length css.flatten∧LayL rdQ (ownL u ++ M) w_ css (nvL (val.take i))∧i≤val.length∧Bd (ownL u ++ M) w_∧Mod [] w w_) (fun (i,u,css)=>val.length - i) (0,.slice none 0 0,[]) ?_ ?_ ?_
 · repeat' constructor
 ·
  exact ⟨hL.su,hO.su,hv.su,own_nil _ _ _ _,LayL.nil,Nat.zero_le _,hbd.su,C0⟩
 rintro ⟨i,u,css⟩ w2 ⟨hL,hO,hv,ho,hl,hi,hbd,C0⟩
 refine W.seq<|W.sr<|L.k rfl<|L.k rfl<|L.lL rfl hv Q23<|L.lt rfl rfl<|L.z<|W.cond rfl ?_ ?_
 ·
  intro J23
  try simp only [bq,ne_eq] at J23
  refine W.skip<|X.seq<|W.seq<|W.block<|W.region<|L.k rfl<|L.k rfl<|L.k rfl<|L.aL (j:=i) rfl rfl hv Q23 rfl (by omega) ?_
  obtain ⟨z30,cs30,P30,V30,vn30,vd30,rfl,I30,H30⟩:=Lay.elemQ hv (j:=i) (by omega);obtain ⟨A30,c30,rfl⟩:=I30.form;obtain ⟨B30,e30,rfl⟩:=H30.form
  refine L.v (R1.loadE rfl V30 tyG40) rfl ?_
  have F30:=fit_sm I30 H30 (hsv _ (List.mem_of_getElem? P30))
  refine L.c rfl (c_ref2_Norm (q:=(QR.val z30)) rfl I30 H30 hbd (Nat.le_trans (hsv _ (List.mem_of_getElem? P30)).1 (by decide)) (Nat.le_trans (hsv _ (List.mem_of_getElem? P30)).2 (by decide))) ?_
  rintro _ w3 ⟨⟨A31,c31,B31,e31,rfl,I31,H31⟩,C3⟩
  replace hL:=hL.gr C3;replace hO:=hO.gr C3;replace hv:=hv.gr C3;replace ho:=own_gs ho C3;replace hl:=hl.gr C3;replace hbd:=hbd.gr C3;replace C0:=C0.trans C3;replace I30:=I30.gr C3;replace H30:=H30.gr C3;clear C3;have F31:=F30
  refine L.buildSlice (cells:=[.bool (decide ((QR.val z30).num<0)),.slice A31 (toL (QR.val z30).num.natAbs).length c31,.slice B31 (toL (QR.val z30).den).length e31]) rfl Q23 tyZ40 (fillQ9 _ _ _ _ _ _ _) (by decide) (by decide) rfl ?_
  intro g32 w4 D32
  replace hL:=hL.gr D32.mod;replace hO:=hO.gr D32.mod;replace hv:=hv.gr D32.mod;replace ho:=own_gs ho D32.mod;replace hl:=hl.gr D32.mod;replace hbd:=hbd.gr D32.mod;replace C0:=C0.trans D32.mod;replace I30:=I30.gr D32.mod;replace H30:=H30.gr D32.mod;replace I31:=I31.gr D32.mod;replace H31:=H31.gr D32.mod
  have hrow:Sl [] w4 3 (.slice (some ⟨g32,0,none⟩) 1 1) 1 [.bool (decide ((QR.val z30).num<0)),.slice A31 (toL (QR.val z30).num.natAbs).length c31,.slice B31 (toL (QR.val z30).den).length e31]:=Sl.of_blk D32.blk 0 (Nat.le_refl _) (by decide) rfl (by simp) (fun j hj=>by simp)
  clear D32
  have hnl:(nvL (val.take i)).length=i:=by rw [nvL_len,List.length_take]; omega
  refine L.append rfl rfl ho hrow (by intro c hc; simp only [List.mem_cons,List.not_mem_nil,or_false] at hc; rcases hc with rfl | rfl | rfl <;> rfl) Q23 tyZ40 (by omega) (by unfold maxLen; omega) C0.size rfl ?_
  intro v33 w5 O33' X33
  replace hL:=hL.gw X33;replace hO:=hO.gw X33;replace hv:=hv.gw X33;replace hl:=hl.gw X33;replace hbd:=hbd.gw X33;replace C0:=Mod.oldOwn C0 X33.mod ho;replace I30:=I30.gw X33;replace H30:=H30.gw X33;replace I31:=I31.gw X33;replace H31:=H31.gw X33;replace ho:=O33'; clear O33';clear X33
  refine L.b rfl<|L.nil<|X.blockEnd<|X.seq<|W.region<|L.k rfl<|L.inc rfl rfl (by omega)<|L.b rfl<|L.nil<|X.next (i + 1,v33,css ++ [[.bool (decide ((QR.val z30).num<0)),.slice A31 (toL (QR.val z30).num.natAbs).length c31,.slice B31 (toL (QR.val z30).den).length e31]]) ?_ ?_ ?_
  · repeat' constructor
  ·
   exact ⟨hL.su,hO.su,hv.su,own_congr ho (by rw [nvL_snoc P30]; simp) (by simp),by rw [nvL_snoc P30]; exact (hl.su).append (LayL.one _ (QR.nf (QR.val z30)) (rdQ_mk (q:=QR.nf (QR.val z30)) (I31.su) (H31.su))),by omega,hbd.su,C0⟩
  first | omega | (dsimp only; omega)
 intro J23
 try simp only [bq,ne_eq] at J23
 obtain rfl:i=val.length:=by omega
 refine W.brk<|W.sr<|L.k rfl<|L.k rfl<|L.k rfl<|L.lL rfl hv Q23 ?_
 refine L.c rfl (c_r14_Order (z0:=(val.length:Int)) hL hO hbd hsmL) ?_
 rintro v38 w6 ⟨hP9,C6⟩
 replace hL:=hL.ownd hP9 C6;replace hO:=hO.ownd hP9 C6;replace hl:=hl.ownd hP9 C6;replace hbd:=hbd.ownd hP9 C6;have haw_ho_hP9:=own_away_res ho hP9;replace hP9:=own_less hP9 C0.size;replace ho:=own_gs ho C6;replace C0:=C0.trans C6;clear C6
 have hP:Lay rdI (ownL u ++ []) _ v38 (ordZ (val.length:Int) cs os):=Lay.of_Z hP9 (fun g h1 h2=>haw_ho_hP9 g (by simpa [ownL] using h2) h1)
 rw [ordZ_true hCh] at hP
 refine L.b rfl<|L.z<|W.seq<|W.sr<|L.b rfl<|L.z<|W.block<|W.loop (ι:=Nat × List (List Value) × List QR) (fun (k,css,vs)=>[(0,.slice TL cs.length tL),(1,.slice TO os.length tO),(9,u),(11,v38),(12,.int .i64 ((k:Nat):Int))]) (fun (k,css,vs) w_=>Lay rdC (ownL u ++ M) w_ (.slice TL cs.length tL) cs∧Lay rdI (ownL u ++ M) w_ (.slice TO os.length tO) os∧w_.ownsRow w.heap.size 40 3 u vs.length css.flatten∧LayL rdQ (ownL u ++ M) w_ css vs∧Lay rdI (ownL u ++ []) w_ v38 ((ordT cs os os).map (fun (k:Nat)=>(k:Int)))∧k≤(ordT cs os os).length∧vs.length=val.length∧(∀ q∈vs,SmQ 10000 q)∧runL cs os ((ordT cs os os).drop k) vs=runZ cs os val∧Bd (ownL u ++ M) w_∧Mod [] w w_) (fun (k,css,vs)=>(ordT cs os os).length - k) (0,css,nvL (val.take val.length)) ?_ ?_ ?_
 · repeat' constructor
 ·
  exact ⟨hL.su,hO.su,ho,hl.su,hP.su,Nat.zero_le _,by rw [nvL_len]; simp,(fun q hq=>hsn q (by simpa using hq)),by unfold runZ; rw [if_pos hCh,List.take_length]; rfl,hbd.su,C0⟩
 rintro ⟨k,css,vs⟩ w7 ⟨hL,hO,ho,hl,hP,hk,hvl,hvs,hrun,hbd,C0⟩
 refine W.seq<|W.sr<|L.k rfl<|L.k rfl<|L.lL rfl hP Q26<|L.lt rfl rfl<|L.z<|W.cond rfl ?_ ?_
 ·
  intro J42
  try simp only [bq,ne_eq] at J42
  obtain ⟨ip,hip⟩:∃ i,(ordT cs os os)[k]?=some i:=⟨_,List.getElem?_eq_getElem (by omega)⟩
  obtain ⟨hp1,hp2,hp3,hp4⟩:=ordT_at hch hol hip
  rw [runL_step hip] at hrun
  refine W.skip<|X.seq<|W.seq<|W.block<|W.sr<|L.k rfl<|L.k rfl<|L.k rfl<|L.aL (j:=k) rfl rfl hP Q26 rfl (by omega)<|L.v (R1.loadLI rfl hP tyP3 (by omega) (mapI_get hip _)) rfl ?_
  refine L.aL (j:=ip) rfl rfl hO Q26 rfl (by omega)<|L.v (R1.loadLI rfl hO tyP3 (by omega) (getD_at _)) rfl<|L.b rfl<|L.z<|W.sr<|L.k rfl<|L.k rfl<|L.k rfl<|L.k rfl ?_
  refine L.k rfl<|L.aL (j:=k) rfl rfl hP Q26 rfl (by omega)<|L.v (R1.loadLI rfl hP tyP3 (by omega) (mapI_get hip _)) rfl<|L.aL (j:=ip) rfl rfl hL Q22 rfl (by omega) ?_
  obtain ⟨z60,cs60,P60,V60,vt60,ds60,rfl,Y60,vn60,vd60,rfl,I60,H60⟩:=Lay.elemQ hL (j:=ip) (by omega);obtain ⟨T60,t60,rfl⟩:=Y60.form;obtain ⟨A60,c60,rfl⟩:=I60.form;obtain ⟨B60,e60,rfl⟩:=H60.form
  refine L.v (R1.loadE rfl V60 tyG42) rfl<|L.k rfl<|L.k rfl ?_
  have hvS:Lay rdQ [] _ u vs:=Lay.of_own ho (hl.sub (by simp)) (by simp)
  have hg9:=getD_of_get (d:=c0R) P60
  have hC9:isC z60 (vs.length:Int)=true:=by rw [hvl,← hg9]; exact hp2
  rw [hg9] at hrun
  refine L.c rfl (c_told Y60 I60 H60 hvS hbd (smC_up (hsm _ (List.mem_of_getElem? P60)) (by decide)) hvs hC9) ?_
  rintro _ w8 ⟨⟨A63,c63,B63,e63,rfl,I63,H63⟩,F63,C8⟩
  replace hL:=hL.gr C8;replace hO:=hO.gr C8;replace ho:=own_gs ho C8;replace hl:=hl.gr C8;replace hP:=hP.gr C8;replace hbd:=hbd.gr C8;replace C0:=C0.trans C8;replace Y60:=Y60.gr C8;replace I60:=I60.gr C8;replace H60:=H60.gr C8;clear C8
  refine L.v (R1.atOwn (i:=(os.getD ip 0).toNat) rfl rfl ho Q23 (by omega) (by omega)) rfl<|L.storeOwnA rfl rfl rfl ho hl (by first | exact mem_own | (intro b hb; simp [hb])) (by omega) (rdQ_mk (q:=QR.nf (toldV z60 (os.getD ip 0) vs)) (I63.su) (H63.su)) tyG40 ?_
  intro w9 ho' hl' C9
  replace hL:=hL.mo C9;replace hO:=hO.mo C9;replace hP:=hP.mo C9;replace hbd:=hbd.gr C9;replace C0:=Mod.oldOwn C0 C9 ho;replace Y60:=Y60.mo C9;replace I60:=I60.mo C9;replace H60:=H60.mo C9;replace I63:=I63.mo C9;replace H63:=H63.mo C9;clear C9 hl;replace ho:=ho'; clear ho';have hl:=hl'; clear hl'
  refine L.z<|W.sr<|L.k rfl<|L.k rfl<|L.v (R1.atOwn (i:=(os.getD ip 0).toNat) rfl rfl ho Q23 (by omega) (by omega)) rfl ?_
  obtain ⟨z68,cs68,P68,V68,vn68,vd68,rfl,I68,H68⟩:=own_elemQ ho rfl hl (j:=(os.getD ip 0).toNat) (by rw [List.length_set]; omega)
  obtain rfl:QR.nf (toldV z60 (os.getD ip 0) vs)=z68:=by have h9:=P68; rw [List.getElem?_set_self (by omega)] at h9; injection h9
  obtain ⟨A68,c68,rfl⟩:=I68.form;obtain ⟨B68,e68,rfl⟩:=H68.form
  refine L.v (R1.loadE rfl V68 tyG40) rfl<|L.c rfl (c_ref2_Large (q:=(QR.val (QR.nf (toldV z60 (os.getD ip 0) vs)))) rfl I68 H68 hbd (Nat.le_trans F63.1 (by decide)) (Nat.le_trans F63.2 (by decide))) ?_
  rintro _ w10 ⟨rfl,C10⟩
  replace hL:=hL.gr C10;replace hO:=hO.gr C10;replace hP:=hP.gr C10;replace hbd:=hbd.gr C10;replace C0:=C0.trans C10;replace hl:=hl.gr C10;replace ho:=own_gs ho C10;clear C10
  refine L.z<|W.cond rfl ?_ ?_
  ·
   intro J69
   rw [QR.nf_val] at J69
   refine W.seq<|W.drawW (T:=[]) rfl (by decide +kernel) (NoHang.then (NoHang.block (NoHang.then (NoHang.next (NoHang.block (NoHang.then NoHang.post)))))) (fun w11 C11=>?_)
   replace hP:=hP.gr C11;replace C0:=C0.trans C11
   have G1:Mod [] w11 w11:=Mod.refl _ _
   clear C11
   refine D.z 0 rfl (by kernel_rfl) rfl G1<|D.z 1 rfl (by kernel_rfl) rfl G1<|D.t 2 rfl (by kernel_rfl) (fun _ hS=>R1.atLay (j:=k) rfl rfl (Lay.gr hP hS) Q26 rfl (by omega)) G1<|D.t 3 rfl (by kernel_rfl) (fun _ hS=>R1.loadLI rfl (Lay.gr hP hS) tyP3 (by omega) (mapI_get hip _)) G1<|D.t 4 rfl (by kernel_rfl) (fun _ hS=>R1.assign rfl) G1<|D.t 5 rfl (by kernel_rfl) (fun _ hS=>R1.assign rfl) G1<|D.t 6 rfl (by kernel_rfl) (fun _ hS=>R1.assign rfl) G1<|D.done (by decide +kernel) ?_ _
   refine X.seq<|W.ret<|X.blockRet<|X.thenRet<|X.nextRet<|X.blockRet<|X.thenRet<|X.result3 rfl (.tmp rfl (.tmp rfl (.tmp rfl .nil))) ?_
   rw [if_pos J69] at hrun
   rw [← hrun]
   exact ⟨_,rfl,Lay.nil rfl,C0⟩
  intro J69
  rw [QR.nf_val] at J69
  refine W.skip<|X.blockEnd<|X.seq<|W.region<|L.k rfl<|L.inc rfl rfl (by omega)<|L.b rfl<|L.nil<|X.next (k + 1,css.set (os.getD ip 0).toNat [.bool (decide ((toldV z60 (os.getD ip 0) vs).num<0)),.slice A63 (toL (toldV z60 (os.getD ip 0) vs).num.natAbs).length c63,.slice B63 (toL (toldV z60 (os.getD ip 0) vs).den).length e63],vs.set (os.getD ip 0).toNat (QR.nf (toldV z60 (os.getD ip 0) vs))) ?_ ?_ ?_
  · repeat' constructor
  ·
   exact ⟨hL.su,hO.su,own_congr ho (by simp) rfl,hl.su,hP.su,by omega,by simpa using hvl,set_sm hvs (nf_sm16 J69),by rw [if_neg (by rw [J69]; decide)] at hrun; exact hrun,hbd.su,C0⟩
  first | omega | (dsimp only; omega)
 intro J42
 try simp only [bq,ne_eq] at J42
 refine W.brk<|W.sr<|L.k rfl<|L.b rfl<|L.b rfl<|L.b rfl ?_
 refine L.z<|W.ret<|X.result3 rfl (.tmp rfl (.tmp rfl (.tmp rfl .nil))) ?_
 have hk9:k=(ordT cs os os).length:=by omega
 rw [hk9,List.drop_length,runL] at hrun
 rw [← hrun]
 exact ⟨_,rfl,Lay.of_own ho (hl.su) (fun g h1 h2=>Nat.lt_irrefl _ (Nat.lt_of_lt_of_le (hbd0 g h2) (own_ge ho g h1).1)),C0⟩
end Go.Proofs.YthoooolflmbmbaaGreat
