/- Several texts in one. -/
import Derived.Test.YtedokfpoajfflaaGreatL5K
import Derived.Test.YtedokfpoajfflaaGreatRowd
section
namespace Go.Proofs.YtedokfpoajfflaaGreat
open Go.RowKit
set_option linter.unusedVariables false
set_option linter.unusedSimpArgs false
set_option maxRecDepth 10000
theorem c_none {N9 : List Nat} {w : World} {vl : Value} {cs : List CR} (hL : Lay rdC N9 w vl cs) (hcl : cs.length ≤ 1000) :
    Ret Tryz.prog 7 #[vl] w (fun r w'=>Lay rdI [] w' r (List.replicate cs.length (-1))∧Mod [] w w'):=by
 obtain ⟨TL,tL,rfl⟩:=hL.form
 refine Ret.of (vs:=[.slice TL cs.length tL]) (n:=15) Tryz.func7 rfl rfl rfl rfl ?_
 have hm0:Mod [] w w:=Mod.refl _ _
 refine W.seq<|W.region<|L.a rfl rfl<|L.nil<|X.seq<|W.seq<|W.region<|L.a rfl rfl<|L.nil<|X.seq<|W.seq ?_
 refine W.seq<|W.region<|L.a rfl rfl<|L.nil<|X.seq<|W.block<|W.loop (ι:=Nat × Value) (fun (i,u)=>[(0,.slice TL cs.length tL),(3,u),(4,.int .i64 ((i:Nat):Int))]) (fun (i,u) w_=>Lay rdC (ownL u ++ N9) w_ (.slice TL cs.length tL) cs∧w_.ownsRow w.heap.size 3 1 u i (intsZ (List.replicate i (-1)))∧i≤cs.length∧Mod [] w w_) (fun (i,u)=>cs.length - i) (0,.slice none 0 0) ?_ ?_ ?_
 · exact ⟨rfl,rfl,rfl,trivial⟩
 ·
  exact ⟨hL.su,own_nil _ _ _ _,Nat.zero_le _,hm0⟩
 rintro ⟨i,u⟩ w1 ⟨hL,ho,hi,hm0⟩
 refine W.seq<|W.seq<|W.region<|L.m rfl rfl<|L.m rfl rfl<|L.v (R1.lenLay rfl hL tyS22) rfl<|L.v (R1.lt rfl rfl) rfl<|L.nil<|X.seq<|W.cond rfl ?_ ?_
 ·
  intro hc8
  try simp only [bq,ne_eq] at hc8
  refine W.skip<|X.seq<|W.seq<|W.block<|W.region<|L.m rfl rfl<|L.build1 rfl rfl tyS29 tyZ3 rfl ?_
  intro g12 w2 hN12
  replace hL:=hL.gr hN12.mod;replace ho:=own_gr ho hN12.mod (by simp);replace hm0:=hm0.trans hN12.mod
  have hrow:Sl [] w2 1 (.slice (some ⟨g12,0,none⟩) 1 1) 1 [.int .i64 (-1)]:=Sl.of_blk hN12.blk 0 (Nat.le_refl _) (by decide) rfl (by simp) (fun j hj=>by simp)
  clear hN12
  refine L.append rfl rfl ho hrow (by simp [Value.oneCell']) tyS29 tyZ3 (by omega) (by unfold maxLen; omega) hm0.size rfl ?_
  intro v13 w3 ho13' hG13
  replace hL:=hL.grew2 hG13 (by first | exact mem_own | (intro b hb; simp [hb]));replace hm0:=Mod.oldOwn hm0 hG13.mod ho;replace ho:=ho13'; clear ho13';clear hG13
  refine L.a rfl rfl<|L.nil<|X.blockEnd<|X.seq<|W.region<|L.m rfl rfl<|L.v (R1.addI (b:=1) rfl rfl (by omega)) rfl<|L.a rfl rfl<|L.nil<|X.next (i + 1,v13) ?_ ?_ ?_
  · exact ⟨rfl,rfl,rfl,trivial⟩
  ·
   exact ⟨hL.su,own_congr ho rfl (by simp [intsZ,List.replicate_succ']),by omega,hm0⟩
  first | omega | (dsimp only; omega)
 intro hc8
 try simp only [bq,ne_eq] at hc8
 obtain rfl:i=cs.length:=by omega
 refine W.exit<|X.thenExit<|X.nextExit<|X.here<|X.seq<|W.seq<|W.region<|L.m rfl rfl<|L.a rfl rfl<|L.nil<|X.seq ?_
 refine W.ret<|X.result1 rfl (.tmp rfl .nil) ?_
 exact ⟨Lay.of_Z ho (by simp),hm0⟩
end Go.Proofs.YtedokfpoajfflaaGreat
end
section
namespace Go.Proofs.YtedokfpoajfflaaGreat
open Go.RowKit
set_option linter.unusedVariables false
set_option linter.unusedSimpArgs false
set_option maxRecDepth 10000
theorem phZ_len {cs:List CR} {os:List Int} {val:List QR} (h:(phZ cs os val).2.2=0):(phZ cs os val).1.2.length=val.length:=by
  obtain ⟨h1,h2,h3,h4,h5,h6⟩:=phZ_ok h
  rw [h6]; exact run_len h5
theorem walZ_len {n:Nat} {cs:List CR} {os:List Int} (h:ChB (n:Int) cs os=true):(walZ (n:Int) cs os).length=n:=by unfold walZ; rw [if_pos h]; simp
theorem walZ_get {n u:Nat} {cs:List CR} {os:List Int} (h:ChB (n:Int) cs os=true) (hu:u<(walZ (n:Int) cs os).length):(walZ (n:Int) cs os)[u]=strZ n cs os u:=by
  have e:walZ (n:Int) cs os=(List.range n).map (strZ n cs os):=by unfold walZ; rw [if_pos h]; simp
  simp only [e,List.getElem_map,List.getElem_range]
theorem nodup_sub_len:∀ {L K:List Nat},L.Nodup→(∀ x∈L,x∈K)→L.length≤K.length
  | [],_,_,_=>Nat.zero_le _
  | a :: L,K,h,hs=>by
    rw [List.nodup_cons] at h
    have ha:=hs a (by simp);have h1:=nodup_sub_len (K:=K.erase a) h.2 (fun x hx=>(List.mem_erase_of_ne (fun (e:x=a)=>h.1 (by rw [← e]; exact hx))).2 (hs x (by simp [hx])))
    rw [List.length_erase_of_mem ha] at h1
    have:=List.length_pos_of_mem ha
    simp only [List.length_cons]; omega
theorem getD_app {α:Type} {l:List α} {x d:α} {i:Nat} (h:i<l.length):(l ++ [x]).getD i d=l.getD i d:=by
  simp [List.getD_eq_getElem?_getD,List.getElem?_append_left h]
theorem getD_last {α:Type} {l:List α} {x d:α}:(l ++ [x]).getD l.length d=x:=by simp [List.getD_eq_getElem?_getD]
theorem outF_app {o:List Int} {i v:Nat}:outF (o ++ [-1]) i=some v↔outF o i=some v:=by
  rw [outF_some,outF_some]
  rcases Nat.lt_or_ge i o.length with h | h
  · rw [List.getElem?_append_left h]
  rw [List.getElem?_append_right h,List.getElem?_eq_none h]
  constructor
  · intro e
    rcases Nat.eq_zero_or_pos (i - o.length) with h9 | h9
    · rw [h9] at e; simp at e
    rw [List.getElem?_eq_none (by simp; omega)] at e; cases e
  intro e; cases e
section
variable {n:Nat} {ws:List (List Nat)} {ss:List Int} {o o2:List Int} {v:Nat} {r:List Nat}
theorem strong_ind (h:Cho n ws o) {B:Int} {U:Nat→Prop} (hU:∀ u,U u→∃ j,outF o j=some u∧ss.getD j 0≤B∧∀ x∈ws.getD j [],x≠u→U x):∀ f u,U u→hv ws o u<f→strong ws ss o u≤B
  | 0,u,_,hf=>by omega
  | f + 1,u,hu,hf=>by
    obtain ⟨j,h1,h2,h3⟩:=hU u hu;obtain ⟨w,h4,h5,h6⟩:=h.get h1
    rw [strong_some h ((who_some h.T).2 h1),fold_le]
    refine ⟨h2,fun x hx hne=>strong_ind h hU f x (h3 x hx hne) ?_⟩
    have:=hv_lt h h1 h4 (by rw [← h6]; exact hx) hne
    omega
theorem strong_app (h:Cho n ws o) (h':Cho n (ws ++ [r]) (o ++ [-1])) (hl:ss.length=ws.length) {s:Int}:∀ f u,hv ws o u<f→strong (ws ++ [r]) (ss ++ [s]) (o ++ [-1]) u=strong ws ss o u
  | 0,u,hf=>by omega
  | f + 1,u,hf=>by
    cases h1:who o u with
    | none =>
      rw [strong_none h h1,strong_none h' ((who_none h'.T).2 (fun i e=>(who_none h.T).1 h1 i (outF_app.1 e)))]
    | some i =>
      have hi:=(who_some h.T).1 h1;obtain ⟨w,h4,h5,h6⟩:=h.get hi
      have hil:i<ws.length:=(List.getElem?_eq_some_iff.1 h4).1
      rw [strong_some h h1,strong_some h' ((who_some h'.T).2 (outF_app.2 hi)),getD_app hil,getD_app (by omega)]
      apply foldl_congr_mem
      intro b x hx
      by_cases e:x=u
      · rw [if_pos e,if_pos e]
      rw [if_neg e,if_neg e,strong_app h h' hl f x (by have:=hv_lt h hi h4 (by rw [← h6]; exact hx) e; omega)]
theorem strong_pos (h:Cho n ws o) (hs:∀ s∈ss,0≤s) (hl:ss.length=ws.length) (u:Nat):0≤strong ws ss o u:=by
  cases h1:who o u with
  | none=>rw [strong_none h h1]; decide
  | some i =>
    have hi:=(who_some h.T).1 h1;obtain ⟨w,h4,_,_⟩:=h.get hi
    have hil:i<ws.length:=(List.getElem?_eq_some_iff.1 h4).1
    have h2:0≤ss.getD i 0:=by
      rw [List.getD_eq_getElem?_getD,List.getElem?_eq_getElem (by omega)]
      exact hs _ (List.getElem_mem _)
    apply Classical.byContradiction
    intro h3
    have h4:strong ws ss o u≤-1:=by omega
    rw [strong_some h h1,fold_le] at h4
    omega
theorem adds_tell (h : Cho n ws o) (hS : StOk (ws ++ [[v]]) (ss ++ [0])) (hl : ss.length = ws.length) (h2 : Cho n (ws ++ [[v]]) o2) (hreq : ∀ j, j < ws.length → ss.getD j 0 = 0 → ws.getD j [] ≠ [] → outF o j ≠ none) (hv0 : 0 < strong ws ss o v)
    (hbl:∀ i,i<(ws ++ [[v]]).length→outF o2 i=none→wk (ws ++ [[v]]) (ss ++ [0]) o2 i []=none):∀ i,i<ws.length + 1→(ss ++ [0]).getD i 0=0→(ws ++ [[v]]).getD i []≠[]→outF o2 i≠none:=fun i hi hst hne hno=>by
  have hle:=wk_none (hbl i (by simpa using hi) hno)
  rw [hst] at hle
  let U:=(List.range n).filter fun u=>decide (strong (ws ++ [[v]]) (ss ++ [0]) o2 u≤0)
  have hU:∀ u,u∈U↔u<n∧strong (ws ++ [[v]]) (ss ++ [0]) o2 u≤0:=fun u=>by simp [U]
  have hUn:U.Nodup:=List.nodup_range.filter _
  have hin:∀ j x,x∈(ws ++ [[v]]).getD j []→x<n:=fun j x hx=>by
    rcases Nat.lt_or_ge j (ws ++ [[v]]).length with h9 | h9
    · rw [List.getD_eq_getElem?_getD,List.getElem?_eq_getElem h9] at hx
      exact h2.F.inW _ (List.getElem_mem h9) x hx
    rw [List.getD_eq_getElem?_getD,List.getElem?_eq_none h9] at hx; cases hx
  let R:Nat→Prop:=fun j=>j<ws.length + 1∧(ss ++ [0]).getD j 0=0∧(ws ++ [[v]]).getD j []≠[]∧∀ x∈(ws ++ [[v]]).getD j [],x∈U
  have hiR:R i:=⟨hi,hst,hne,fun x hx=>(hU x).2 ⟨hin i x hx,hle x hx (by simp)⟩⟩
  let f:Nat→Nat:=fun u=>(who o2 u).getD 0
  have hf:∀ u∈U,outF o2 (f u)=some u∧R (f u)∧f u≠i:=fun u hu=>by
    obtain ⟨a,b⟩:=(hU u).1 hu
    cases hw:who o2 u with
    | none=>rw [strong_none h2 hw] at b; exact absurd b (by decide)
    | some j =>
      have e:f u=j:=by show (who o2 u).getD 0=j; rw [hw]; rfl
      have hj:=(who_some h2.T).1 hw;obtain ⟨w,h4,h5,h6⟩:=h2.get hj
      have hjl:j<(ws ++ [[v]]).length:=(List.getElem?_eq_some_iff.1 h4).1
      have h0:=(hS.at_ hjl).1
      rw [strong_some h2 hw,fold_le] at b
      rw [e]
      have hne9:(ws ++ [[v]]).getD j []≠[]:=by rw [h6]; intro e9; rw [e9] at h5; cases h5
      refine ⟨hj,⟨by simpa using hjl,by omega,hne9,fun x hx=>?_⟩,fun e9=>by rw [e9,hno] at hj; cases hj⟩
      by_cases e9:x=u
      · rw [e9]; exact hu
      exact (hU x).2 ⟨hin j x hx,b.2 x hx e9⟩
  have hfn:(U.map f).Nodup:=by
    rw [List.Nodup,List.pairwise_map]
    refine List.Pairwise.imp_of_mem ?_ hUn
    intro a b ha hb hab e
    have h3:=(hf a ha).1
    rw [e,(hf b hb).1] at h3
    injection h3 with h3
    exact hab h3.symm
  let L:=i :: U.map f
  have hLn:L.Nodup:=by
    refine List.nodup_cons.2 ⟨fun hm=>?_,hfn⟩
    obtain ⟨u,hu,e⟩:=List.mem_map.1 hm
    exact (hf u hu).2.2 e
  have hLR:∀ j∈L,R j:=fun j hj=>by
    rcases List.mem_cons.1 hj with rfl | hj
    · exact hiR
    obtain ⟨u,hu,rfl⟩:=List.mem_map.1 hj
    exact (hf u hu).2.1
  have hLl:L.length=U.length + 1:=by simp [L]
  let K:=L.erase ws.length
  have hKn:K.Nodup:=hLn.erase _
  have hKl:U.length≤K.length∧(ws.length ∉ L→K.length=U.length + 1):=by
    by_cases hm:ws.length∈L
    · refine ⟨?_,fun h9=>absurd hm h9⟩
      show U.length≤(L.erase ws.length).length
      rw [List.length_erase_of_mem hm]; omega
    have e:K=L:=List.erase_of_not_mem hm
    rw [e]; exact ⟨by omega,fun _=>hLl⟩
  have hK:∀ j∈K,R j∧j<ws.length:=fun j hj=>by
    have h9:=hLR j (List.mem_of_mem_erase hj)
    have h8:j≠ws.length:=fun e=>by
      rw [e] at hj
      exact (List.Nodup.not_mem_erase hLn) hj
    exact ⟨h9,by have:=h9.1; omega⟩
  let g:Nat→Nat:=fun j=>(outF o j).getD 0
  have hg:∀ j∈K,outF o j=some (g j)∧ss.getD j 0=0∧(∀ x∈ws.getD j [],x∈U)∧g j∈U:=fun j hj=>by
    obtain ⟨⟨a,b,c,d⟩,e⟩:=hK j hj
    rw [getD_app (by omega)] at b
    rw [getD_app e] at c d
    have h9:=hreq j e b c
    cases h8:outF o j with
    | none=>exact absurd h8 h9
    | some x =>
      have e2:g j=x:=by show (outF o j).getD 0=x; rw [h8]; rfl
      obtain ⟨w,h4,h5,h6⟩:=h.get h8
      rw [e2]
      exact ⟨rfl,b,d,d x (by rw [h6]; exact h5)⟩
  have hgn:(K.map g).Nodup:=by
    rw [List.Nodup,List.pairwise_map]
    refine List.Pairwise.imp_of_mem ?_ hKn
    intro a b ha hb hab e
    have h3:=(hg a ha).1;have h4:=(hg b hb).1
    rw [e] at h3
    exact hab (h.T.one a b _ h3 h4)
  have hgU:∀ x∈K.map g,x∈U:=fun x hx=>by
    obtain ⟨j,hj,rfl⟩:=List.mem_map.1 hx
    exact (hg j hj).2.2.2
  have hle2:=nodup_sub_len hgn hgU
  rw [List.length_map] at hle2
  have hm:ws.length∈L:=Classical.byContradiction fun h9=>by have:=hKl.2 h9; omega
  have hvU:v∈U:=(hLR _ hm).2.2.2 v (by rw [getD_last]; simp)
  have hsur:∀ u∈U,∃ j∈K,g j=u:=fun u hu=>Classical.byContradiction fun h9=>by
    have h8:=nodup_sub_len (K:=U.erase u) hgn (fun x hx=>(List.mem_erase_of_ne (fun (e:x=u)=>h9 (by
      obtain ⟨j,hj,e2⟩:=List.mem_map.1 hx
      exact ⟨j,hj,e2.trans e⟩))).2 (hgU x hx))
    rw [List.length_map,List.length_erase_of_mem hu] at h8
    have:=List.length_pos_of_mem hu
    have:=hKl.1
    omega
  have hst:=strong_ind (ss:=ss) h (B:=0) (U:=fun u=>u∈U) (fun u hu=>by
    obtain ⟨j,hj,e⟩:=hsur u hu;obtain ⟨a,b,c,_⟩:=hg j hj
    exact ⟨j,by rw [a,e],by omega,fun x hx _=>c x hx⟩) (hv ws o v + 1) v hvU (Nat.lt_succ_self _)
  omega
end
def addC (v:Nat) (qv:Rat):CR:=⟨0,[⟨(v:Int),QR.nf ((1:Int):Rat)⟩],QR.nf (-qv)⟩
theorem addC_is {n v:Nat} {qv:Rat} (hv:v<n):isC (addC v qv) (n:Int)=true:=by
  show (decide ((0:Int)≤0) && (decide ((0:Int)≤4) && ((QR.nf (-qv)).is && (decide ((0:Int)≤(v:Int)) && (decide ((v:Int)<(n:Int)) && ((QR.nf ((1:Int):Rat)).is && (decide ((QR.nf ((1:Int):Rat)).n.length≠0) && true)))))))=true
  rw [nf_is,nf_is,nf_len (by decide) (by decide),decide_eq_true (p:=(0:Int)≤(v:Int)) (by omega),decide_eq_true (p:=(v:Int)<(n:Int)) (by omega)]
  rfl
theorem addC_ws {n v:Nat} {qv:Rat} (cs:List CR) (hv:v<n):wsOf n (cs ++ [addC v qv])=wsOf n cs ++ [[v]]:=by
  unfold wsOf
  rw [List.map_append]
  show _ ++ [wOf n (addC v qv)]=_
  unfold wOf
  rw [if_pos (addC_is hv)]; rfl
theorem addC_st {v:Nat} {qv:Rat} (cs:List CR):stS (cs ++ [addC v qv])=stS cs ++ [0]:=by unfold stS; rw [List.map_append]; rfl
theorem add_ch {n v:Nat} {qv:Rat} {cs:List CR} {o:List Int} (h:ChB (n:Int) cs o=true) (hv:v<n) (hl:cs.length≤255):ChB (n:Int) (cs ++ [addC v qv]) (o ++ [-1])=true:=by
  obtain ⟨h1,h2,h3,h4,h5,h6⟩:=ChB_true h
  refine decide_eq_true ⟨h1,h2,by simp; omega,by simp [h4],fun j hj=>?_,?_⟩
  · rcases Nat.lt_or_ge j cs.length with h9 | h9
    · have h8:=h5 j h9
      unfold stepP at h8 ⊢
      rw [getD_app h9,getD_app (by omega)]
      refine ⟨h8.1,h8.2.imp id (fun h7=>⟨h7.1,fun k hk=>?_⟩)⟩
      rw [getD_app (by omega)]; exact h7.2 k hk
    have e:j=cs.length:=by simp at hj; omega
    subst e
    refine ⟨by rw [getD_last]; exact addC_is hv,.inl ?_⟩
    rw [← h4,getD_last]
  rw [Int.toNat_natCast] at h6 ⊢
  rw [addC_ws cs hv,firstW_append,h6]; rfl
theorem idle_of {n i:Nat} {cs:List CR} {o:List Int} (hC:ChoZ n cs o) (hi:i<cs.length):o.getD i 0<0↔outF o i=none:=by
  have h1:=hC.idle hi;have h2:=hC.low hi
  constructor
  · intro h; exact h1.1 (by omega)
  intro h; have:=h1.2 h; omega
theorem bad_no {cs:List CR} {outs:List Int} (h:badF cs outs=none) {j:Nat} (hj:j<cs.length):badB cs outs j=false:=by
  unfold badF at h
  rw [List.find?_range_eq_none] at h
  have:=h j hj
  simpa using this
theorem rows_nil {n j:Nat} {cs:List CR} {o:List Int} (hC:ChoZ n cs o) (hj:j<cs.length) (h:(wsOf n cs).getD j []≠[]):emptyB (cs.getD j c0R)=false:=by
  have hz:cs[j]?=some (cs.getD j c0R):=by rw [List.getD_eq_getElem?_getD,List.getElem?_eq_getElem hj]; rfl
  rw [ws_getD hC.all hz] at h
  unfold emptyB
  rw [decide_eq_false (fun e=>h (by unfold vsOf; rw [List.eq_nil_of_length_eq_zero e]; rfl))]; rfl
section
variable {v:Nat} {qv:Rat} {cs:List CR} {os:List Int} {val:List QR}
theorem adds_forced (hok:(phZ cs os val).2.2=0) (hl:cs.length≤255) (hv:v<val.length) (h0:strZ val.length cs (phZ cs os val).1.1 v=0):(phZ (cs ++ [addC v qv]) ((phZ cs os val).1.1 ++ [-1]) (phZ cs os val).1.2).2.2=10:=by
  obtain ⟨h1,h2,h3,h4,h5,h6⟩:=phZ_ok hok;have hlen:=phZ_len hok
  rw [h6] at h0 hlen ⊢
  have hc:=chb_set h3;have hC:=ChoZ.of hc;have hc2:=add_ch (v:=v) (qv:=qv) hc hv hl;have hC2:=ChoZ.of hc2;have hol:=hC.len
  generalize ho:setZ (val.length:Int) cs os=o at *
  generalize hr:(runZ cs o val).1=vs at *
  dsimp only at h0 hlen ⊢
  have hbl:∀ i,i<cs.length→outF o i=none→wk (wsOf val.length cs) (stS cs) o i []=none:=fun i hi hno=>by
    rw [← ho,setZ_yes h3] at hno ⊢
    exact setl_idle (ChoZ.of h3).st (ChoZ.of h3).c (by rw [ws_len]; exact hi) hno
  have hst:∀ u,strong (wsOf val.length cs ++ [[v]]) (stS cs ++ [0]) (o ++ [-1]) u=strong (wsOf val.length cs) (stS cs) o u:=fun u=>strong_app hC.c (by have:=hC2.c; rwa [addC_ws cs hv] at this) (by rw [ws_len]; simp [stS]) (_ + 1) u (Nat.lt_succ_self _)
  have hset:setZ (val.length:Int) (cs ++ [addC v qv]) (o ++ [-1])=o ++ [-1]:=by
    rw [setZ_yes hc2]
    refine setl_same (passF_same hC2.c (fun i hi hno=>?_))
    rw [addC_ws cs hv] at hi
    rw [addC_ws cs hv,addC_st]
    refine wk_none_of (fun u hu _=>?_)
    rw [hst u]
    rw [List.length_append,ws_len] at hi
    rcases Nat.lt_or_ge i cs.length with h9 | h9
    · rw [getD_app (by rw [ws_len]; exact h9)] at hu
      rw [getD_app (by simp [stS]; exact h9)]
      have hno2:outF o i=none:=by
        cases h8:outF o i with
        | none=>rfl
        | some x=>rw [outF_app.2 h8] at hno; cases hno
      exact wk_none (hbl i h9 hno2) u hu (by simp)
    have e:i=cs.length:=by simp at hi; omega
    subst e
    have e2:(wsOf val.length cs ++ [[v]]).getD cs.length []=[v]:=by rw [← ws_len val.length cs,getD_last]
    have e3:(stS cs ++ [0]).getD cs.length 0=0:=by rw [show cs.length=(stS cs).length by simp [stS],getD_last]
    rw [e2] at hu
    rw [e3,List.mem_singleton.1 hu]
    exact Int.le_of_eq h0
  have hbad:badF (cs ++ [addC v qv]) (o ++ [-1])=some cs.length:=by
    refine badF_at (by simp) ?_ (fun j hj=>?_)
    · unfold badB
      rw [getD_last,← hol,getD_last]
      show (decide ((0:Int)=0) && (decide ((-1:Int)<0) && !(decide ((1:Nat)=0) && _)))=true
      rfl
    have h9:=bad_no h4 hj
    unfold badB at h9 ⊢
    rw [getD_app hj,getD_app (by omega)]; exact h9
  have hm2:mayP (cs ++ [addC v qv]) (o ++ [-1]) val.length:=⟨h1.1,h1.2.1,by simp; omega,by simp [hol],hC2.all⟩
  have hF2:=(ChB_true hc2).2.2.2.2.2
  rw [Int.toNat_natCast] at hF2
  rw [phZ_bad (by rw [hlen]; exact hm2) (by rw [hlen]; exact hF2) (by rw [hlen]; exact hc2) (by rw [hlen,hset]; exact hbad)]
theorem adds_holds (hok : (phZ cs os val).2.2 = 0) (hl : cs.length ≤ 255) (hv : v < val.length) (h0 : strZ val.length cs (phZ cs os val).1.1 v ≠ 0) :
    (phZ (cs ++ [addC v qv]) ((phZ cs os val).1.1 ++ [-1]) (phZ cs os val).1.2).2.2=8∨((phZ (cs ++ [addC v qv]) ((phZ cs os val).1.1 ++ [-1]) (phZ cs os val).1.2).2.2=0∧(phZ (cs ++ [addC v qv]) ((phZ cs os val).1.1 ++ [-1]) (phZ cs os val).1.2).1.2.length=val.length ∧
      ∀ a,(phZ (cs ++ [addC v qv]) ((phZ cs os val).1.1 ++ [-1]) (phZ cs os val).1.2).1.2[v]?=some a→a.val=qv):=by
  obtain ⟨h1,h2,h3,h4,h5,h6⟩:=phZ_ok hok;have hlen:=phZ_len hok
  rw [h6] at h0 hlen ⊢
  have hc:=chb_set h3;have hC:=ChoZ.of hc;have hc2:=add_ch (v:=v) (qv:=qv) hc hv hl;have hC2:=ChoZ.of hc2;have hC3:=setlZ_cho hC2;have hol:=hC.len
  generalize ho:setZ (val.length:Int) cs os=o at *
  generalize hr:(runZ cs o val).1=vs at *
  dsimp only at h0 hlen ⊢
  have hset:=setZ_yes hc2
  generalize ho2:setlZ val.length (cs ++ [addC v qv]) (o ++ [-1])=o2 at *
  have hlp:0<strong (wsOf val.length cs) (stS cs) o v:=by
    have h9:=strong_pos hC.c (ss:=stS cs) (fun s hs=>by
      obtain ⟨c,hc9,rfl⟩:=List.mem_map.1 hs
      exact (isC_st (hC.all c hc9)).1) (by rw [ws_len]; simp [stS]) v
    have h8:strong (wsOf val.length cs) (stS cs) o v≠0:=h0
    omega
  have hwl:(wsOf val.length cs).length=cs.length:=ws_len _ _
  have htell:=adds_tell (v:=v) (o2:=o2) hC.c (by have:=hC2.st; rwa [addC_ws cs hv,addC_st] at this) (by rw [ws_len]; simp [stS]) (by have:=hC3.c; rwa [addC_ws cs hv] at this) (fun j hj hs hne hno=>by
    rw [hwl] at hj
    have h9:=bad_no h4 hj
    have hz:cs[j]?=some (cs.getD j c0R):=by rw [List.getD_eq_getElem?_getD,List.getElem?_eq_getElem hj]; rfl
    rw [stS_get hz] at hs
    unfold badB at h9
    rw [decide_eq_true hs,decide_eq_true ((idle_of hC hj).2 hno),rows_nil hC hj hne] at h9
    cases h9) hlp (fun i hi hno=>by
    have h9:=setl_idle hC2.st hC2.c (i:=i) (by rw [addC_ws cs hv]; exact hi) (by rw [show setl val.length (wsOf val.length (cs ++ [addC v qv])) (stS (cs ++ [addC v qv])) (o ++ [-1])=o2 from ho2]; exact hno)
    rw [show setl val.length (wsOf val.length (cs ++ [addC v qv])) (stS (cs ++ [addC v qv])) (o ++ [-1])=o2 from ho2,addC_ws cs hv,addC_st] at h9
    exact h9)
  have hbad:badF (cs ++ [addC v qv]) o2=none:=badF_no (fun j hj=>by
    apply Bool.eq_false_iff.2
    intro hb
    unfold badB at hb
    simp only [Bool.and_eq_true,decide_eq_true_eq,Bool.not_eq_true'] at hb
    obtain ⟨b1,b2,b3⟩:=hb
    have hz:(cs ++ [addC v qv])[j]?=some ((cs ++ [addC v qv]).getD j c0R):=by rw [List.getD_eq_getElem?_getD,List.getElem?_eq_getElem hj]; rfl
    have hno:=(idle_of hC3 hj).1 b2;have hbl:=setl_idle hC2.st hC2.c (i:=j) (by rw [ws_len]; exact hj) (by rw [show setl val.length (wsOf val.length (cs ++ [addC v qv])) (stS (cs ++ [addC v qv])) (o ++ [-1])=o2 from ho2]; exact hno)
    rw [← stS_get hz,addC_st] at b1
    by_cases hne:(wsOf val.length (cs ++ [addC v qv])).getD j []=[]
    · -- no terms: it was bad ahead
      rcases Nat.lt_or_ge j cs.length with h9 | h9
      · have h8:=bad_no h4 h9
        have hz8:cs[j]?=some (cs.getD j c0R):=by rw [List.getD_eq_getElem?_getD,List.getElem?_eq_getElem h9]; rfl
        rw [addC_ws cs hv,getD_app (by omega)] at hne
        rw [getD_app h9] at b3
        rw [getD_app (by simp [stS]; exact h9),stS_get hz8] at b1
        have h7:outF o j=none:=by
          cases h6:outF o j with
          | none=>rfl
          | some x =>
            obtain ⟨w,e1,e2,e3⟩:=hC.c.get h6
            rw [← e3,hne] at e2; cases e2
        unfold badB at h8
        rw [decide_eq_true b1,decide_eq_true ((idle_of hC h9).2 h7),b3] at h8
        cases h8
      have e:j=cs.length:=by simp at hj; omega
      subst e
      rw [addC_ws cs hv,← hwl,getD_last] at hne
      cases hne
    rw [addC_ws cs hv] at hne
    exact htell j (by rw [hwl]; simpa using hj) b1 hne hno)
  have hm2:mayP (cs ++ [addC v qv]) (o ++ [-1]) val.length:=⟨h1.1,h1.2.1,by simp; omega,by simp [hol],hC2.all⟩
  have hF2:=(ChB_true hc2).2.2.2.2.2
  rw [Int.toNat_natCast] at hF2
  have hph:=phZ_run (cs:=cs ++ [addC v qv]) (os:=o ++ [-1]) (val:=vs) (by rw [hlen]; exact hm2) (by rw [hlen]; exact hF2) (by rw [hlen]; exact hc2) (by rw [hlen,hset]; exact hbad)
  rw [hlen,hset] at hph
  rw [hph]
  have hc3:ChB (vs.length:Int) (cs ++ [addC v qv]) o2=true:=by rw [hlen]; exact ChoZ.back hc2 hC3.c
  rcases runZ_err hc3 with h9 | h9
  · right
    rw [if_neg (by rw [h9]; decide)]
    have hl2:=run_len h9
    refine ⟨rfl,by show (runZ _ _ _).1.length=_; rw [hl2,hlen],fun a ha=>?_⟩
    have hlast:outF o2 cs.length=some v:=by
      have h8:=htell cs.length (by rw [hwl]; omega) (by rw [show cs.length=(stS cs).length by simp [stS],getD_last]) (by rw [← hwl,getD_last]; simp)
      cases h7:outF o2 cs.length with
      | none=>exact absurd h7 h8
      | some x =>
        obtain ⟨w,e1,e2,e3⟩:=hC3.c.get h7
        rw [addC_ws cs hv,← hwl,getD_last] at e3
        rw [← e3] at e2
        rw [List.mem_singleton.1 e2]
    have h8:=outF_some.1 hlast
    have h7:o2.getD cs.length 0=(v:Int):=getD_of_get h8
    have h10:=run_holds h9 (i:=cs.length) (by simp) (by rw [h7]; omega)
    rw [getD_last] at h10
    have e:atG (runZ (cs ++ [addC v qv]) o2 vs).1 (addC v qv).ts (QR.val (addC v qv).k)=(QR.nf (-qv)).val + (QR.nf ((1:Int):Rat)).val * valOf (runZ (cs ++ [addC v qv]) o2 vs).1 (v:Int):=rfl
    rw [e,valOf_some (by omega) ha,QR.nf_val,QR.nf_val] at h10
    grind
  left
  rw [if_pos (by rw [h9]; decide)]; exact h9
end
theorem runL_s17 (cs:List CR) (os:List Int):∀ (pl:List Nat) (vs:List QR),(∀ q∈vs,SmQ 17 q)→∀ q∈(runL cs os pl vs).1,SmQ 17 q
  | [],vs,h=>h
  | i :: r,vs,h=>by
    rw [runL]
    cases hl:largeB (toldV (cs.getD i c0R) (os.getD i 0) vs) with
    | true=>intro q hq; rw [if_pos rfl] at hq; cases hq
    | false =>
      rw [if_neg (by decide)]
      refine runL_s17 cs os r _ (fun x hx=>?_)
      rcases List.mem_or_eq_of_mem_set hx with h1 | h1
      · exact h x h1
      have h2:=nf_s16 hl
      exact h1 ▸ ⟨Nat.le_trans h2.1 (by decide),Nat.le_trans h2.2 (by decide)⟩
theorem runZ_s17 {N:List Nat} {w:World} {vv:Value} (cs:List CR) (os:List Int) {val:List QR} (hv:Lay rdQ N w vv val) (hsv:∀ q∈val,SmQ 16 q):∀ q∈(runZ cs os val).1,SmQ 17 q:=by
  unfold runZ
  split
  · refine runL_s17 cs os _ _ (fun q hq=>?_)
    obtain ⟨z,hz,rfl⟩:=List.mem_map.1 hq;obtain ⟨j,hj,rfl⟩:=List.mem_iff_getElem.1 hz;obtain ⟨cs9,_,vn9,vd9,_,h1,h2⟩:=hv.elem hj;have hf:=fit_sm h1 h2 (hsv _ (List.getElem_mem hj))
    exact ⟨Nat.le_trans hf.1 (by decide),Nat.le_trans hf.2 (by decide)⟩
  intro q hq; cases hq
theorem phZ_s17 {N:List Nat} {w:World} {vv:Value} (cs:List CR) (os:List Int) {val:List QR} (hv:Lay rdQ N w vv val) (hsv:∀ q∈val,SmQ 16 q):∀ q∈(phZ cs os val).1.2,SmQ 17 q:=by
  have h0:=runZ_s17 cs (setZ (val.length:Int) cs os) hv hsv
  unfold phZ
  split
  · split
    · intro q hq; cases hq
    split
    · split
      · intro q hq; cases hq
      split
      · intro q hq; cases hq
      exact h0
    intro q hq; cases hq
  intro q hq; cases hq
theorem fit_smq {x:Rat} {L:Nat} (h:Fit x L):SmQ L (QR.nf x):=⟨h.1,h.2⟩
theorem addC_sm {v:Nat} {qv:Rat} (h:Fit qv 4):SmC 150 (addC v qv):=by
  have h1:SmQ 150 (QR.nf ((1:Int):Rat)):=⟨Nat.le_trans (nf_sm2 (z:=1) (by decide)).1 (by decide),Nat.le_trans (nf_sm2 (z:=1) (by decide)).2 (by decide)⟩
  have h2:=fit_smq h.neg
  exact ⟨by show 1≤150; decide,⟨Nat.le_trans h2.1 (by decide),Nat.le_trans h2.2 (by decide)⟩,fun t ht=>by rw [List.mem_singleton.1 ht]; exact h1⟩
theorem add_sm {v:Nat} {qv:Rat} {cs:List CR} (hs:∀ c∈cs,SmC 150 c) (h:Fit qv 4):∀ c∈cs ++ [addC v qv],SmC 150 c:=fun c hc=>by
  rcases List.mem_append.1 hc with h1 | h1
  · exact hs c h1
  rw [List.mem_singleton.1 h1]; exact addC_sm h
def slA:Nat→Nat:=fun i=>match i with | 0=>101 | 2=>103 | 4=>105 | 5=>106 | 6=>107 | 9=>110 | 10=>111 | 20=>18 | _=>112
def consA:Nat→Nat:=fun i=>match i with | 0=>2 | 2=>5 | 4=>5 | 6=>9 | 9=>11 | 10=>11 | _=>100
def embA:Nat→Value→Value:=fun i v=>match i with
  | 20=>(match v with | .slice A _ _=>.pointer A | _=>v) | _=>v
def rowA (tc ti ts:TypeId) (n m:Nat) (xs cc zs:List Value):Nat→Rw:=fun i=>match i with
  | 0=>⟨tc,5,0,[],fun _=>True⟩ | 2=>⟨tc,5,n,xs,fun _=>True⟩ | 4=>⟨tc,5,1,cc,fun _=>True⟩ | 5=>⟨tc,5,n + 1,xs ++ cc,fun _=>True⟩
  | 6=>⟨ti,1,0,[],fun _=>True⟩ | 9=>⟨ti,1,m,zs,fun _=>True⟩ | 10=>⟨ti,1,1,[.int .i64 (-1)],fun _=>True⟩
  | 20=>⟨ts,2,1,[.slice none 0 0,.slice none 0 0],fun v=>∃ g,v=.slice (some ⟨g,0,none⟩) 1 1⟩ | _=>⟨ti,1,m + 1,zs ++ [.int .i64 (-1)],fun _=>True⟩
end Go.Proofs.YtedokfpoajfflaaGreat
end
