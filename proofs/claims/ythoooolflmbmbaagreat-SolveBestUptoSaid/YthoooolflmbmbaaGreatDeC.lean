/- Walks: what the functions compute. -/
import Derived.Test.YthoooolflmbmbaaGreatDeB
import Derived.Test.YthoooolflmbmbaaGreatSettle
import Derived.Test.YthoooolflmbmbaaGreatMap
namespace Go.Proofs.YthoooolflmbmbaaGreat
open Go.RowKit
set_option linter.unusedVariables false
set_option linter.unusedSimpArgs false
set_option maxRecDepth 10000
theorem ChB_true {z:Int} {cs:List CR} {o:List Int} (h:ChB z cs o=true):1≤z∧z≤64∧cs.length≤256∧o.length=cs.length∧chP z cs o cs.length∧firstW (List.range z.toNat) (wsOf z.toNat cs) 0=none:=of_decide_eq_true h
theorem chP_lo {n:Int} {cs:List CR} {os:List Int} {m i:Nat} (h:chP n cs os m) (hi:i<m):-1≤os.getD i 0:=by
  obtain ⟨h1,h2 | h2⟩:=h i hi
  · omega
  have:=hasV_lt h1 h2.1; omega
theorem cho_of {n:Nat} {cs:List CR} {os:List Int} (h:ChB (n:Int) cs os=true):Cho n (wsOf n cs) os:=by
  obtain ⟨h1,h2,h3,h4,h5,h6⟩:=ChB_true h
  have hget:∀ i,i<cs.length→(wsOf n cs)[i]?=some (vsOf (cs.getD i c0R)):=fun i hi=>by
    have h7:=(h5 i hi).1
    unfold wsOf
    rw [List.getElem?_map,List.getElem?_eq_getElem hi]
    have e:cs.getD i c0R=cs[i]:=by simp [List.getD_eq_getElem?_getD,hi]
    rw [e] at h7 ⊢
    simp only [Option.map_some,wOf,if_pos h7]
  have hlen:(wsOf n cs).length=cs.length:=by simp [wsOf]
  have hout:∀ i v,outF os i=some v→i<cs.length∧os.getD i 0=(v:Int):=fun i v hv=>by
    have h8:=outF_some.1 hv;obtain ⟨h9,h10⟩:=List.getElem?_eq_some_iff.1 h8
    exact ⟨by omega,by rw [List.getD_eq_getElem?_getD,h8]; rfl⟩
  refine ⟨⟨wsOf_in n cs,by simpa using h6⟩,⟨fun i v hv=>?_,fun i j v hi hj=>?_⟩,by rw [hlen]; exact h4,fun x hx=>?_⟩
  · obtain ⟨h7,h8⟩:=hout i v hv
    refine ⟨_,hget i h7,?_⟩
    rcases (h5 i h7).2 with h9 | h9
    · omega
    obtain ⟨t,ht,he⟩:=List.any_eq_true.1 h9.1
    rw [decide_eq_true_eq] at he
    exact List.mem_map.2 ⟨t,ht,by omega⟩
  · obtain ⟨h7,h8⟩:=hout i v hi
    obtain ⟨h9,h10⟩:=hout j v hj
    rcases Nat.lt_trichotomy i j with hij | hij | hij
    · rcases (h5 j h9).2 with h11 | h11
      · omega
      exact absurd (by omega) (h11.2 i hij)
    · exact hij
    rcases (h5 i h7).2 with h11 | h11
    · omega
    exact absurd (by omega) (h11.2 j hij)
  obtain ⟨i,hi,rfl⟩:=List.mem_iff_getElem.1 hx
  have:=chP_lo h5 (i:=i) (by omega)
  rwa [← getD_at hi] at this
def stS (cs:List CR):List Int:=cs.map (·.st)
theorem stS_get {cs:List CR} {i:Nat} {z:CR} (h:cs[i]?=some z):(stS cs).getD i 0=z.st:=getD_of_get (by unfold stS; rw [List.getElem?_map,h]; rfl)
theorem ws_len (n:Nat) (cs:List CR):(wsOf n cs).length=cs.length:=by simp [wsOf]
theorem ChB_all {n:Nat} {cs:List CR} {os:List Int} (h:ChB (n:Int) cs os=true):∀ c∈cs,isC c (n:Int)=true:=fun c hc=>by
  obtain ⟨i,hi,rfl⟩:=List.mem_iff_getElem.1 hc;have h1:=((ChB_true h).2.2.2.2.1 i hi).1
  have e:cs.getD i c0R=cs[i]:=by simp [List.getD_eq_getElem?_getD,hi]
  rwa [e] at h1
def byN (n:Nat) (o:List Int):List Int:=(List.range n).map fun v=>fi (who o v)
theorem byZ_byN (n:Nat) (o:List Int):byZ n o o.length=byN n o:=by unfold byZ byN; rw [List.take_length]
theorem byN_get {n v:Nat} (o:List Int) (h:v<n):(byN n o).getD v 0=fi (who o v):=by simp [byN,List.getD_eq_getElem?_getD,h]
structure ChoZ (n:Nat) (cs:List CR) (o:List Int):Prop where
  c:Cho n (wsOf n cs) o
  all:∀ c∈cs,isC c (n:Int)=true
  m:cs.length≤256
theorem ChoZ.of {n:Nat} {cs:List CR} {os:List Int} (h:ChB (n:Int) cs os=true):ChoZ n cs os:=⟨cho_of h,ChB_all h,(ChB_true h).2.2.1⟩
theorem ws_at {n i:Nat} {cs:List CR} {z:CR} (hall:∀ c∈cs,isC c (n:Int)=true) (hz:cs[i]?=some z):(wsOf n cs)[i]?=some (vsOf z):=by
  unfold wsOf
  rw [List.getElem?_map,hz]
  simp only [Option.map_some,wOf,if_pos (hall z (List.mem_of_getElem? hz))]
theorem ws_getD {n i:Nat} {cs:List CR} {z:CR} (hall:∀ c∈cs,isC c (n:Int)=true) (hz:cs[i]?=some z):(wsOf n cs).getD i []=vsOf z:=getD_of_get (ws_at hall hz)
theorem isC_st {c:CR} {n:Int} (h:isC c n=true):0≤c.st∧c.st≤4:=by
  unfold isC at h
  simp only [Bool.and_eq_true,decide_eq_true_eq] at h
  omega
theorem ChoZ.st {n:Nat} {cs:List CR} {o:List Int} (h:ChoZ n cs o):StOk (wsOf n cs) (stS cs):=⟨fun s hs=>by
  obtain ⟨c,hc,rfl⟩:=List.mem_map.1 hs
  exact isC_st (h.all c hc),by rw [ws_len]; simp [stS],by rw [ws_len]; exact h.m⟩
theorem ChoZ.len {n:Nat} {cs:List CR} {o:List Int} (h:ChoZ n cs o):o.length=cs.length:=by rw [h.c.len,ws_len]
theorem ChoZ.back {n:Nat} {cs:List CR} {o o':List Int} (h:ChB (n:Int) cs o=true) (h':Cho n (wsOf n cs) o'):ChB (n:Int) cs o'=true:=by
  obtain ⟨h1,h2,h3,h4,h5,h6⟩:=ChB_true h;have hall:=ChB_all h
  have hl:o'.length=cs.length:=by rw [h'.len,ws_len]
  refine decide_eq_true ⟨h1,h2,h3,hl,fun j hj=>⟨(h5 j hj).1,?_⟩,h6⟩
  have hg:o'[j]?=some (o'.getD j 0):=by rw [List.getD_eq_getElem?_getD,List.getElem?_eq_getElem (by omega)]; rfl
  have hlo:=h'.lo _ (List.mem_of_getElem? hg)
  rcases Int.lt_or_le (o'.getD j 0) 0 with h7 | h7
  · left; omega
  right
  have ho:outF o' j=some (o'.getD j 0).toNat:=outF_some.2 (by rw [hg]; congr 1; omega)
  obtain ⟨w,hw,hv⟩:=h'.T.tell _ _ ho
  have hz:cs[j]?=some (cs.getD j c0R):=by rw [List.getD_eq_getElem?_getD,List.getElem?_eq_getElem hj]; rfl
  rw [ws_at hall hz] at hw
  injection hw with hw; subst hw
  obtain ⟨t,ht,he⟩:=List.mem_map.1 hv;have Y0:=isC_all (hall _ (List.mem_of_getElem? hz)) t ht
  refine ⟨List.any_eq_true.2 ⟨t,ht,decide_eq_true (by omega)⟩,fun k hk e=>?_⟩
  have hk1:o'[k]?=some (o'.getD k 0):=by rw [List.getD_eq_getElem?_getD,List.getElem?_eq_getElem (by omega)]; rfl
  have hk2:outF o' k=some (o'.getD j 0).toNat:=outF_some.2 (by rw [hk1,e]; congr 1; omega)
  have:=h'.T.one _ _ _ ho hk2
  omega
def strZ (n:Nat) (cs:List CR) (o:List Int) (v:Nat):Int:=strong (wsOf n cs) (stS cs) o v
noncomputable def hvZ (n:Nat) (cs:List CR) (o:List Int) (v:Nat):Nat:=hv (wsOf n cs) o v
def foldS (n:Nat) (cs:List CR) (o:List Int) (v:Nat) (ts:List TR) (s:Int):Int:=ts.foldl (fun s t=>if t.v.toNat=v then s else max s (strZ n cs o t.v.toNat)) s
theorem foldS_snoc {n:Nat} {cs:List CR} {o:List Int} {v k:Nat} {ts:List TR} {t:TR} {s:Int} (h:ts[k]?=some t):foldS n cs o v (ts.take (k + 1)) s=if t.v.toNat=v then foldS n cs o v (ts.take k) s else max (foldS n cs o v (ts.take k) s) (strZ n cs o t.v.toNat):=by
  obtain ⟨h1,rfl⟩:=List.getElem?_eq_some_iff.1 h
  unfold foldS
  rw [List.take_succ_eq_append_getElem h1,List.foldl_append]
  rfl
section
variable {n:Nat} {cs:List CR} {o:List Int} {v i:Nat} {z:CR} {t:TR}
theorem ChoZ.none_ (h:ChoZ n cs o) (hw:who o v=none):strZ n cs o v=4:=strong_none h.c hw
theorem ChoZ.lt (h:ChoZ n cs o) (hw:who o v=some i):i<cs.length:=by
  have h1:=(who_some h.c.T).1 hw;obtain ⟨w,h2,_⟩:=h.c.get h1
  have:=(List.getElem?_eq_some_iff.1 h2).1
  rwa [ws_len] at this
theorem ChoZ.some_ (h:ChoZ n cs o) (hw:who o v=some i) (hz:cs[i]?=some z):strZ n cs o v=foldS n cs o v z.ts z.st:=by
  unfold strZ
  rw [strong_some h.c hw,ws_getD h.all hz,stS_get hz]
  unfold foldS vsOf
  rw [List.foldl_map]
  rfl
theorem ChoZ.deep (h:ChoZ n cs o) (hw:who o v=some i) (hz:cs[i]?=some z) (ht:t∈z.ts) (hne:t.v≠(v:Int)):t.v.toNat<n∧0≤t.v∧t.v.toNat≠v∧hvZ n cs o t.v.toNat<hvZ n cs o v:=by
  have h1:=isC_all (h.all z (List.mem_of_getElem? hz)) t ht
  have h2:t.v.toNat≠v:=by omega
  exact ⟨by omega,h1.1,h2,hv_lt h.c ((who_some h.c.T).1 hw) (ws_at h.all hz) (List.mem_map.2 ⟨t,ht,rfl⟩) h2⟩
end
theorem c_strong1 {M : List Nat} {w : World} {g n B : Nat} {vl v1 v2 : Value} {cs : List CR} {o : List Int} (hb : Blk w g 78 #[vl, v1, v2]) (hL : Lay rdC M w vl cs) (O2 : w.ownsRow B 3 1 v2 n (intsZ (byN n o))) (hC : ChoZ n cs o) {v : Nat} (hv : v < n) (ih : ∀ u, u < n → hvZ n cs o u < hvZ n cs o v → ∀ w1, Mod [] w w1 → Ret Tryz.prog 109 #[.pointer (some ⟨g, 0, none⟩), .int .i64 (u : Int)] w1 (fun r w2 => r = .int .i64 (strZ n cs o u) ∧ Mod [] w1 w2)) :
    Ret Tryz.prog 109 #[.pointer (some ⟨g,0,none⟩),.int .i64 ((v:Nat):Int)] w (fun r w'=>r=.int .i64 (strZ n cs o v)∧Mod [] w w'):=by
 obtain ⟨TL,tL,rfl⟩:=hL.form;have hmaxL:=hL.max; unfold maxLen at hmaxL
 refine Ret.of (vs:=[.pointer (some ⟨g,0,none⟩),.int .i64 ((v:Nat):Int)]) (n:=51) Tryz.func109 rfl rfl rfl rfl ?_
 have C0:Mod [] w w:=Mod.refl _ _
 refine W.sr<|L.b rfl<|L.z<|W.sr<|L.k rfl<|L.v (R1.nilCheck rfl) rfl<|L.fA rfl tyF78_2<|L.v ((R1.loadFld rfl hb rfl tyP26).asV (v:=v2) rfl) rfl ?_
 refine L.k rfl<|L.v (R1.atOwn (i:=v) rfl rfl O2 Q26 rfl hv) rfl<|L.v ((R1.ldZ rfl O2 hv tyP3).asV (v:=.int .i64 (fi (who o v))) (by rw [byN_get o hv])) rfl<|L.b rfl<|L.z<|W.seq<|W.sr<|L.k rfl<|L.v (R1.eq rfl rfl) rfl ?_
 refine L.z<|W.cond rfl ?_ ?_
 ·
  intro J17
  try simp only [bq,ne_eq] at J17
  rw [fi_neg1] at J17
  refine W.sr<|L.b rfl<|L.z<|W.ret<|X.thenRet<|X.result1 rfl (.tmp rfl .nil) ?_
  rw [hC.none_ J17]
  exact ⟨rfl,C0⟩
 intro J17
 try simp only [bq,ne_eq] at J17
 rw [fi_neg1] at J17
 obtain ⟨i,hw⟩:=Option.ne_none_iff_exists'.1 J17;have hi:=hC.lt hw
 have hfi:fi (who o v)=(i:Int):=by rw [hw]; rfl
 refine W.skip<|X.seq<|W.sr<|L.k rfl<|L.v (R1.nilCheck rfl) rfl<|L.fA rfl tyF78_0<|L.lF rfl hb rfl tyP22<|L.k rfl<|L.aL (j:=i) rfl rfl hL Q22 hfi hi<|L.v (R1.fieldAddr rfl tyF42_0) rfl ?_
 obtain ⟨z25,cs25,P25,V25,vt25,ds25,rfl,Y25,vn25,vd25,rfl,I25,H25⟩:=Lay.elemQ hL (j:=i) hi;obtain ⟨T25,t25,rfl⟩:=Y25.form;obtain ⟨A25,c25,rfl⟩:=I25.form;obtain ⟨B25,e25,rfl⟩:=H25.form
 refine L.v (R1.loadEF rfl V25 rfl tyP3) rfl<|L.b rfl<|L.z<|W.seq<|W.sr<|L.k rfl<|L.v (R1.nilCheck rfl) rfl<|L.fA rfl tyF78_0<|L.lF rfl hb rfl tyP22 ?_
 refine L.k rfl<|L.aL (j:=i) rfl rfl hL Q22 hfi hi<|L.v (R1.fieldAddr rfl tyF42_1) rfl ?_
 obtain ⟨z33,cs33,P33,V33,vt33,ds33,rfl,Y33,vn33,vd33,rfl,I33,H33⟩:=Lay.elemQ hL (j:=i) hi;obtain ⟨T33,t33,rfl⟩:=Y33.form;obtain ⟨A33,c33,rfl⟩:=I33.form;obtain ⟨B33,e33,rfl⟩:=H33.form
 obtain rfl:z25=z33:=by have h9:=P33; rw [P25] at h9; injection h9
 refine L.v (R1.loadEF rfl V33 rfl tyP37) rfl ?_
 have hmax33:=Y33.max; unfold maxLen at hmax33
 refine L.lL rfl Y33 Q37<|L.k rfl<|L.z<|W.block<|W.loop (ι:=Nat × Int) (fun (k,s)=>[(0,.pointer (some ⟨g,0,none⟩)),(1,.int .i64 ((v:Nat):Int)),(6,.int .i64 s),(33,.slice T33 z25.ts.length t33),(34,.int .i64 ((z25.ts.length:Nat):Int)),(35,.int .i64 ((k:Nat):Int))]) (fun (k,s) w_=>Blk w_ g 78 #[.slice TL cs.length tL,v1,v2]∧Lay rdC M w_ (.slice TL cs.length tL) cs∧w_.ownsRow B 3 1 v2 n (intsZ (byN n o))∧Lay rdT M w_ (.slice T33 z25.ts.length t33) z25.ts∧k≤z25.ts.length∧s=(foldS n cs o v (z25.ts.take k) z25.st)∧Mod [] w w_) (fun (k,s)=>z25.ts.length - k) (0,z25.st) ?_ ?_ ?_
 · repeat' constructor
 ·
  exact ⟨hb,hL.su,O2,Y33.su,Nat.zero_le _,rfl,C0⟩
 rintro ⟨k,s⟩ w1 ⟨hb,hL,O2,Y33,hk,hs,C0⟩
 refine W.sr<|L.lt rfl rfl<|L.z<|W.seq<|W.cond rfl ?_ ?_
 ·
  intro J36
  try simp only [bq,ne_eq] at J36
  refine W.skip<|X.seq<|W.seq<|W.block<|W.sr<|L.aL (j:=k) rfl rfl Y33 Q37 rfl (by omega) ?_
  obtain ⟨z38,cs38,P38,V38,ds38,rfl,vn38,vd38,rfl,I38,H38⟩:=Lay.elemQ Y33 (j:=k) (by omega);obtain ⟨A38,c38,rfl⟩:=I38.form;obtain ⟨B38,e38,rfl⟩:=H38.form
  refine L.v (R1.loadE rfl V38 tyG47) rfl<|L.alloc tyZ47 rfl ?_
  intro g8 w2 D8
  have hne_g_g8:=hb.ne_ D8;replace hb:=hb.gr D8.mod;replace hL:=hL.new D8;have hno_ho2_g8:=own_ne_new O2 D8;replace O2:=own_gs O2 D8.mod;replace Y33:=Y33.new D8;have K8:=New.ge D8 C0.size;replace C0:=C0.tn D8;have E8:=D8.blk;clear D8
  refine L.storeBox rfl rfl E8 rfl rfl tyG47 ?_
  intro w3 E8' C3
  replace hb:=hb.fr C3;replace hL:=hL.ms C3;replace O2:=own_far O2 C3 hno_ho2_g8;replace Y33:=Y33.ms C3;replace C0:=C0.old1 C3 K8;clear C3;replace E8:=E8'; clear E8'
  refine L.z<|W.sr<|L.fA rfl tyF47_0<|L.lF rfl E8 rfl tyP3<|L.k rfl<|L.v (R1.ne rfl rfl) rfl<|L.z<|W.cond rfl ?_ ?_
  ·
   intro J42
   try simp only [bq,ne_eq] at J42
   obtain ⟨H1,H2,H3,H4⟩:=hC.deep hw P25 (List.mem_of_getElem? P38) J42
   refine W.region<|L.k rfl<|L.k rfl<|L.fA rfl tyF47_0<|L.v ((R1.loadFld rfl E8 rfl tyP3).asV (v:=.int .i64 ((z38.v.toNat:Nat):Int)) (by show Value.int .i64 z38.v=_; rw [Int.toNat_of_nonneg H2])) rfl<|L.c rfl (ih _ H1 H4 _ C0) ?_
   rintro _ w4 ⟨rfl,C4⟩
   replace hb:=hb.gr C4;replace hL:=hL.gr C4;replace O2:=own_gs O2 C4;replace Y33:=Y33.gr C4;replace C0:=C0.trans C4;clear C4
   refine L.v (R1.maxI rfl rfl) rfl<|L.b rfl<|L.nil<|X.blockEnd<|X.seq<|W.region<|L.inc rfl rfl (by omega)<|L.k rfl<|L.nil<|X.next (k + 1,max s (strZ n cs o z38.v.toNat)) ?_ ?_ ?_
   · repeat' constructor
   ·
    have hsn:=foldS_snoc (n:=n) (cs:=cs) (o:=o) (v:=v) (s:=z25.st) P38
    rw [if_neg (by omega)] at hsn
    exact ⟨hb,hL.su,O2,Y33.su,by omega,by rw [hsn,hs],C0⟩
   first | omega | (dsimp only; omega)
  intro J42
  try simp only [bq,ne_eq] at J42
  refine W.skip<|X.blockEnd<|X.seq<|W.region<|L.inc rfl rfl (by omega)<|L.k rfl<|L.nil<|X.next (k + 1,s) ?_ ?_ ?_
  · repeat' constructor
  ·
   have hsn:=foldS_snoc (n:=n) (cs:=cs) (o:=o) (v:=v) (s:=z25.st) P38
   rw [if_pos (by omega)] at hsn
   exact ⟨hb,hL.su,O2,Y33.su,by omega,by rw [hsn,hs],C0⟩
  first | omega | (dsimp only; omega)
 intro J36
 try simp only [bq,ne_eq] at J36
 obtain rfl:k=z25.ts.length:=by omega
 refine W.brk<|W.sr<|L.k rfl<|L.b rfl<|L.z ?_
 refine W.ret<|X.result1 rfl (.tmp rfl .nil) ?_
 rw [List.take_length] at hs
 rw [hC.some_ hw P25,← hs]
 exact ⟨rfl,C0⟩
theorem c_strongK {M:List Nat} {w:World} {g n B:Nat} {vl v1 v2:Value} {cs:List CR} {o:List Int} (hb:Blk w g 78 #[vl,v1,v2]) (hL:Lay rdC M w vl cs) (O2:w.ownsRow B 3 1 v2 n (intsZ (byN n o))) (hC:ChoZ n cs o):∀ (k v:Nat),v<n→hvZ n cs o v<k→∀ w1,Mod [] w w1→Ret Tryz.prog 109 #[.pointer (some ⟨g,0,none⟩),.int .i64 (v:Int)] w1 (fun r w2=>r=.int .i64 (strZ n cs o v)∧Mod [] w1 w2)
  | 0,_,_,h,_,_=>absurd h (Nat.not_lt_zero _)
  | k + 1,v,hv,h,w1,hm=>c_strong1 (hb.gr hm) (hL.gr hm) (own_gs O2 hm) hC hv (fun u hu hlt w2 C2=>c_strongK hb hL O2 hC k u hu (by omega) w2 (hm.trans C2))
theorem c_strong {M:List Nat} {w:World} {g n B:Nat} {vl v1 v2:Value} {cs:List CR} {o:List Int} (hb:Blk w g 78 #[vl,v1,v2]) (hL:Lay rdC M w vl cs) (O2:w.ownsRow B 3 1 v2 n (intsZ (byN n o))) (hC:ChoZ n cs o) {v:Nat} (hv:v<n):Ret Tryz.prog 109 #[.pointer (some ⟨g,0,none⟩),.int .i64 (v:Int)] w (fun r w2=>r=.int .i64 (strZ n cs o v)∧Mod [] w w2):=c_strongK hb hL O2 hC _ v hv (Nat.lt_succ_self _) w (Mod.refl _ _)
theorem who_at {o:List Int} {i v:Nat} (hi:i<o.length) (h:o.getD i 0=(v:Int)) (hno:∀ j,j<i→o.getD j 0≠(v:Int)):who o v=some i:=by
  unfold who
  rw [List.findIdx?_eq_some_iff_getElem]
  refine ⟨hi,by rw [getD_at hi]; exact decide_eq_true h,fun j hj=>?_⟩
  rw [getD_at (by omega)]
  simpa using hno j hj
theorem c_who {N9 : List Nat} {w : World} {vo : Value} {os : List Int} (hO : Lay rdI N9 w vo os) {v : Nat} :
    Ret Tryz.prog 87 #[vo,.int .i64 ((v:Nat):Int)] w (fun r w'=>r=.int .i64 (fi (who os v))∧Mod [] w w'):=by
 obtain ⟨TO,tO,rfl⟩:=hO.form;have hmaxO:=hO.max; unfold maxLen at hmaxO
 refine Ret.of (vs:=[.slice TO os.length tO,.int .i64 ((v:Nat):Int)]) (n:=19) Tryz.func87 rfl rfl rfl rfl ?_
 have C0:Mod [] w w:=Mod.refl _ _
 refine W.sr<|L.b rfl<|L.z<|W.seq<|W.sr<|L.b rfl<|L.z ?_
 refine W.block<|W.loop (ι:=Nat) (fun i=>[(0,.slice TO os.length tO),(1,.int .i64 ((v:Nat):Int)),(5,.int .i64 ((i:Nat):Int))]) (fun i w_=>Lay rdI N9 w_ (.slice TO os.length tO) os∧i≤os.length∧(∀ x∈os.take i,x≠(v:Int))∧Mod [] w w_) (fun i=>os.length - i) 0 ?_ ?_ ?_
 · exact ⟨rfl,rfl,rfl,trivial⟩
 ·
  exact ⟨hO.su,Nat.zero_le _,(fun x h=>by simp at h),C0⟩
 rintro i w1 ⟨hO,hi,hno,C0⟩
 refine W.seq<|W.sr<|L.k rfl<|L.k rfl<|L.lL rfl hO Q26<|L.lt rfl rfl<|L.z<|W.cond rfl ?_ ?_
 ·
  intro J9
  try simp only [bq,ne_eq] at J9
  refine W.skip<|X.seq<|W.seq<|W.block<|W.sr<|L.k rfl<|L.k rfl<|L.aL (j:=i) rfl rfl hO Q26 rfl (by omega)<|L.v (R1.loadLI rfl hO tyP3 (by omega) (getD_at _)) rfl<|L.k rfl ?_
  refine L.v (R1.eq rfl rfl) rfl<|L.z<|W.cond rfl ?_ ?_
  ·
   intro J17
   try simp only [bq,ne_eq] at J17
   refine W.sr<|L.k rfl<|L.b rfl<|L.z<|W.ret<|X.blockRet<|X.thenRet<|X.nextRet<|X.blockRet ?_
   refine X.thenRet<|X.result1 rfl (.tmp rfl .nil)<|⟨?_,C0⟩
   have h9:who os v=some i:=who_at (by omega) J17 (fun j hj=>by have h8:=hno os[j] (by rw [List.mem_take_iff_getElem]; exact ⟨j,by omega,rfl⟩); rwa [getD_at (by omega)] at h8)
   rw [h9]; rfl
  intro J17
  try simp only [bq,ne_eq] at J17
  refine W.skip<|X.blockEnd<|X.seq<|W.region<|L.k rfl<|L.inc rfl rfl (by omega)<|L.b rfl<|L.nil<|X.next (i + 1) ?_ ?_ ?_
  · exact ⟨rfl,rfl,rfl,trivial⟩
  ·
   refine ⟨hO,by omega,fun x hx=>?_,C0⟩
   have hi9:i<os.length:=by omega
   rw [List.take_succ_eq_append_getElem hi9,getD_at hi9] at hx
   rcases List.mem_append.1 hx with h9 | h9
   · exact hno x h9
   rw [List.mem_singleton.1 h9]; exact J17
  first | omega | (dsimp only; omega)
 intro J9
 try simp only [bq,ne_eq] at J9
 obtain rfl:i=os.length:=by omega
 refine W.brk<|W.sr<|L.b rfl<|L.z<|W.ret ?_
 refine X.result1 rfl (.tmp rfl .nil) ?_
 rw [List.take_length] at hno
 refine ⟨?_,C0⟩
 have h9:who os v=none:=by unfold who; rw [List.findIdx?_eq_none_iff]; intro x hx; exact decide_eq_false (hno x hx)
 rw [h9]; rfl
theorem c_walk1 {M N9 : List Nat} {w : World} {n : Nat} {vl vo : Value} {cs : List CR} {o : List Int} (hL : Lay rdC M w vl cs) (hO : Lay rdI N9 w vo o) (hC : ChoZ n cs o) {v : Nat} (hv : v < n) (ih : ∀ u, u < n → hvZ n cs o u < hvZ n cs o v → ∀ w1, Mod [] w w1 → Ret Tryz.prog 86 #[vl, vo, .int .i64 (u : Int)] w1 (fun r w2 => r = .int .i64 (strZ n cs o u) ∧ Mod [] w1 w2)) :
    Ret Tryz.prog 86 #[vl,vo,.int .i64 ((v:Nat):Int)] w (fun r w'=>r=.int .i64 (strZ n cs o v)∧Mod [] w w'):=by
 obtain ⟨TL,tL,rfl⟩:=hL.form;have hmaxL:=hL.max; unfold maxLen at hmaxL;obtain ⟨TO,tO,rfl⟩:=hO.form
 refine Ret.of (vs:=[.slice TL cs.length tL,.slice TO o.length tO,.int .i64 ((v:Nat):Int)]) (n:=56) Tryz.func86 rfl rfl rfl rfl ?_
 have C0:Mod [] w w:=Mod.refl _ _
 refine W.sr<|L.b rfl<|L.z<|W.sr<|L.k rfl<|L.k rfl<|L.c rfl (c_who hO) ?_
 rintro _ w1 ⟨rfl,C1⟩
 replace hL:=hL.gr C1;replace hO:=hO.gr C1;replace C0:=C0.trans C1;clear C1
 refine L.b rfl<|L.z<|W.seq<|W.sr<|L.k rfl<|L.v ((R1.lt rfl rfl).asB (c:=(decide (who o v=none))) (fi_neg _)) rfl<|L.z<|W.cond rfl ?_ ?_
 ·
  intro J14
  try simp only [bq,ne_eq] at J14
  refine W.sr<|L.b rfl<|L.z<|W.ret<|X.thenRet<|X.result1 rfl (.tmp rfl .nil) ?_
  rw [hC.none_ J14]
  exact ⟨rfl,C0⟩
 intro J14
 try simp only [bq,ne_eq] at J14
 obtain ⟨i,hw⟩:=Option.ne_none_iff_exists'.1 J14;have hi:=hC.lt hw
 have hfi:fi (who o v)=(i:Int):=by rw [hw]; rfl
 refine W.skip<|X.seq<|W.sr<|L.k rfl<|L.k rfl<|L.aL (j:=i) rfl rfl hL Q22 hfi hi<|L.v (R1.fieldAddr rfl tyF42_0) rfl ?_
 obtain ⟨z19,cs19,P19,V19,vt19,ds19,rfl,Y19,vn19,vd19,rfl,I19,H19⟩:=Lay.elemQ hL (j:=i) hi;obtain ⟨T19,t19,rfl⟩:=Y19.form;obtain ⟨A19,c19,rfl⟩:=I19.form;obtain ⟨B19,e19,rfl⟩:=H19.form
 refine L.v (R1.loadEF rfl V19 rfl tyP3) rfl ?_
 have hmax33:=Y19.max; unfold maxLen at hmax33
 refine L.b rfl<|L.z<|W.seq<|W.sr<|L.b rfl<|L.z<|W.block<|W.loop (ι:=Nat × Int) (fun (k,s)=>[(0,.slice TL cs.length tL),(1,.slice TO o.length tO),(2,.int .i64 ((v:Nat):Int)),(7,.int .i64 (fi (who o v))),(8,.int .i64 s),(9,.int .i64 ((k:Nat):Int))]) (fun (k,s) w_=>Lay rdC M w_ (.slice TL cs.length tL) cs∧Lay rdI N9 w_ (.slice TO o.length tO) o∧k≤z19.ts.length∧s=(foldS n cs o v (z19.ts.take k) z19.st)∧Mod [] w w_) (fun (k,s)=>z19.ts.length - k) (0,z19.st) ?_ ?_ ?_
 · repeat' constructor
 ·
  exact ⟨hL.su,hO.su,Nat.zero_le _,rfl,C0⟩
 rintro ⟨k,s⟩ w2 ⟨hL,hO,hk,hs,C0⟩
 refine W.seq<|W.sr<|L.k rfl<|L.k rfl<|L.k rfl<|L.aL (j:=i) rfl rfl hL Q22 hfi hi<|L.v (R1.fieldAddr rfl tyF42_1) rfl ?_
 obtain ⟨z25,cs25,P25,V25,vt25,ds25,rfl,Y25,vn25,vd25,rfl,I25,H25⟩:=Lay.elemQ hL (j:=i) hi;obtain ⟨T25,t25,rfl⟩:=Y25.form;obtain ⟨A25,c25,rfl⟩:=I25.form;obtain ⟨B25,e25,rfl⟩:=H25.form
 obtain rfl:z19=z25:=by have h9:=P25; rw [P19] at h9; injection h9
 refine L.v (R1.loadEF rfl V25 rfl tyP37) rfl<|L.lL rfl Y25 Q37<|L.lt rfl rfl<|L.z<|W.cond rfl ?_ ?_
 ·
  intro J27
  try simp only [bq,ne_eq] at J27
  refine W.skip<|X.seq<|W.seq<|W.block<|W.sr<|L.k rfl<|L.k rfl<|L.aL (j:=i) rfl rfl hL Q22 hfi hi<|L.v (R1.fieldAddr rfl tyF42_1) rfl ?_
  obtain ⟨z34,cs34,P34,V34,vt34,ds34,rfl,Y34,vn34,vd34,rfl,I34,H34⟩:=Lay.elemQ hL (j:=i) hi;obtain ⟨T34,t34,rfl⟩:=Y34.form;obtain ⟨A34,c34,rfl⟩:=I34.form;obtain ⟨B34,e34,rfl⟩:=H34.form
  obtain rfl:z19=z34:=by have h9:=P34; rw [P19] at h9; injection h9
  refine L.v (R1.loadEF rfl V34 rfl tyP37) rfl<|L.k rfl<|L.aL (j:=k) rfl rfl Y34 Q37 rfl (by omega)<|L.v (R1.fieldAddr rfl tyF47_0) rfl ?_
  obtain ⟨z38,cs38,P38,V38,ds38,rfl,vn38,vd38,rfl,I38,H38⟩:=Lay.elemQ Y34 (j:=k) (by omega);obtain ⟨A38,c38,rfl⟩:=I38.form;obtain ⟨B38,e38,rfl⟩:=H38.form
  refine L.v (R1.loadEF rfl V38 rfl tyP3) rfl<|L.k rfl<|L.v (R1.ne rfl rfl) rfl<|L.z<|W.cond rfl ?_ ?_
  ·
   intro J40
   try simp only [bq,ne_eq] at J40
   obtain ⟨H1,H2,H3,H4⟩:=hC.deep hw P19 (List.mem_of_getElem? P38) J40
   refine W.region<|L.k rfl<|L.k rfl<|L.k rfl<|L.k rfl<|L.k rfl<|L.aL (j:=i) rfl rfl hL Q22 hfi hi<|L.v (R1.fieldAddr rfl tyF42_1) rfl ?_
   obtain ⟨z48,cs48,P48,V48,vt48,ds48,rfl,Y48,vn48,vd48,rfl,I48,H48⟩:=Lay.elemQ hL (j:=i) hi;obtain ⟨T48,t48,rfl⟩:=Y48.form;obtain ⟨A48,c48,rfl⟩:=I48.form;obtain ⟨B48,e48,rfl⟩:=H48.form
   obtain rfl:z19=z48:=by have h9:=P48; rw [P19] at h9; injection h9
   refine L.v (R1.loadEF rfl V48 rfl tyP37) rfl<|L.k rfl<|L.aL (j:=k) rfl rfl Y48 Q37 rfl (by omega)<|L.v (R1.fieldAddr rfl tyF47_0) rfl ?_
   obtain ⟨z52,cs52,P52,V52,ds52,rfl,vn52,vd52,rfl,I52,H52⟩:=Lay.elemQ Y48 (j:=k) (by omega);obtain ⟨A52,c52,rfl⟩:=I52.form;obtain ⟨B52,e52,rfl⟩:=H52.form
   obtain rfl:z38=z52:=by have h9:=P52; rw [P38] at h9; injection h9
   refine L.v ((R1.loadEF rfl V52 rfl tyP3).asV (v:=.int .i64 ((z38.v.toNat:Nat):Int)) (by rw [Int.toNat_of_nonneg H2])) rfl<|L.c rfl (ih _ H1 H4 _ C0) ?_
   rintro _ w3 ⟨rfl,C3⟩
   replace hL:=hL.gr C3;replace hO:=hO.gr C3;replace C0:=C0.trans C3;clear C3
   refine L.v (R1.maxI rfl rfl) rfl<|L.b rfl<|L.nil<|X.blockEnd<|X.seq<|W.region<|L.k rfl<|L.inc rfl rfl (by omega)<|L.b rfl<|L.nil<|X.next (k + 1,max s (strZ n cs o z38.v.toNat)) ?_ ?_ ?_
   · repeat' constructor
   ·
    have hsn:=foldS_snoc (n:=n) (cs:=cs) (o:=o) (v:=v) (s:=z19.st) P38
    rw [if_neg (by omega)] at hsn
    exact ⟨hL.su,hO.su,by omega,by rw [hsn,hs],C0⟩
   first | omega | (dsimp only; omega)
  intro J40
  try simp only [bq,ne_eq] at J40
  refine W.skip<|X.blockEnd<|X.seq<|W.region<|L.k rfl<|L.inc rfl rfl (by omega)<|L.b rfl<|L.nil<|X.next (k + 1,s) ?_ ?_ ?_
  · repeat' constructor
  ·
   have hsn:=foldS_snoc (n:=n) (cs:=cs) (o:=o) (v:=v) (s:=z19.st) P38
   rw [if_pos (by omega)] at hsn
   exact ⟨hL.su,hO.su,by omega,by rw [hsn,hs],C0⟩
  first | omega | (dsimp only; omega)
 intro J27
 try simp only [bq,ne_eq] at J27
 obtain rfl:k=z19.ts.length:=by omega
 refine W.brk<|W.sr<|L.k rfl<|L.b rfl<|L.z ?_
 refine W.ret<|X.result1 rfl (.tmp rfl .nil) ?_
 rw [List.take_length] at hs
 rw [hC.some_ hw P19,← hs]
 exact ⟨rfl,C0⟩
theorem c_walkK {M N9:List Nat} {w:World} {n:Nat} {vl vo:Value} {cs:List CR} {o:List Int} (hL:Lay rdC M w vl cs) (hO:Lay rdI N9 w vo o) (hC:ChoZ n cs o):∀ (k v:Nat),v<n→hvZ n cs o v<k→∀ w1,Mod [] w w1→Ret Tryz.prog 86 #[vl,vo,.int .i64 (v:Int)] w1 (fun r w2=>r=.int .i64 (strZ n cs o v)∧Mod [] w1 w2)
  | 0,_,_,h,_,_=>absurd h (Nat.not_lt_zero _)
  | k + 1,v,hv,h,w1,hm=>c_walk1 (hL.gr hm) (hO.gr hm) hC hv (fun u hu hlt w2 C2=>c_walkK hL hO hC k u hu (by omega) w2 (hm.trans C2))
theorem c_walk {M N9:List Nat} {w:World} {n:Nat} {vl vo:Value} {cs:List CR} {o:List Int} (hL:Lay rdC M w vl cs) (hO:Lay rdI N9 w vo o) (hC:ChoZ n cs o) {v:Nat} (hv:v<n):Ret Tryz.prog 86 #[vl,vo,.int .i64 (v:Int)] w (fun r w2=>r=.int .i64 (strZ n cs o v)∧Mod [] w w2):=c_walkK hL hO hC _ v hv (Nat.lt_succ_self _) w (Mod.refl _ _)
theorem fi_geq (F:Option Nat):decide (fi F ≥ 0)=decide (F≠none):=by
  cases F with
  | none=>rfl
  | some x=>simp [fi]
def wkZ (n:Nat) (cs:List CR) (o:List Int) (i:Nat) (T:List Nat):Option Nat:=wk (wsOf n cs) (stS cs) o i T
def wkL (n:Nat) (cs:List CR) (o:List Int) (T:List Nat) (ts:List TR) (b:Option Nat × Int):Option Nat × Int:=wkF (strZ n cs o) T (ts.map fun t=>t.v.toNat) b
theorem wkL_snoc {n:Nat} {cs:List CR} {o:List Int} {T:List Nat} {k:Nat} {ts:List TR} {t:TR} {b:Option Nat × Int} (h:ts[k]?=some t):wkL n cs o T (ts.take (k + 1)) b=if t.v.toNat ∉ T∧(wkL n cs o T (ts.take k) b).2<strZ n cs o t.v.toNat then (some t.v.toNat,strZ n cs o t.v.toNat) else wkL n cs o T (ts.take k) b:=by
  obtain ⟨h1,rfl⟩:=List.getElem?_eq_some_iff.1 h
  unfold wkL
  rw [List.take_succ_eq_append_getElem h1,List.map_append,wkF_app]
  rfl
def tI (T:List Nat):List Int:=T.map fun (x:Nat)=>(x:Int)
theorem mem_tI {T:List Nat} {x:Int} (h:0≤x):x∈tI T↔x.toNat∈T:=by
  unfold tI
  rw [List.mem_map]
  constructor
  · rintro ⟨y,h1,h2⟩
    have:x.toNat=y:=by omega
    rwa [this]
  intro h1; exact ⟨x.toNat,h1,by omega⟩
section
variable {n f:Nat} {cs:List CR} {o o0:List Int} {v i i0:Nat} {z:CR} {t:TR} {T:List Nat}
theorem ChoZ.wk_ (h:ChoZ n cs o) (hz:cs[i]?=some z):wkZ n cs o i T=(wkL n cs o T z.ts (none,z.st)).1:=by
  unfold wkZ wk
  rw [ws_getD h.all hz,stS_get hz]
  rfl
theorem ChoZ.var (h:ChoZ n cs o) (hz:cs[i]?=some z) (ht:t∈z.ts):t.v.toNat<n∧0≤t.v:=by
  have h1:=isC_all (h.all z (List.mem_of_getElem? hz)) t ht
  omega
theorem ChoZ.wk_lt (h:ChoZ n cs o) (hz:cs[i]?=some z) (hw:wkZ n cs o i T=some v):v<n:=by
  have h1:=(wk_some hw).1
  rw [ws_getD h.all hz] at h1
  obtain ⟨t,ht,rfl⟩:=List.mem_map.1 h1
  exact (h.var hz ht).1
theorem ChoZ.at_ (h:ChoZ n cs o) (hi:i<cs.length):∃ z,cs[i]?=some z:=⟨_,List.getElem?_eq_getElem hi⟩
theorem ChoZ.idle (h:ChoZ n cs o) (hi:i<cs.length):o.getD i 0=-1↔outF o i=none:=h.c.idle (by rw [ws_len]; exact hi)
theorem byN_move {o':List Int} {ws:List (List Nat)} (h:Cho n ws o) (h':Cho n ws o') (e:∀ x,outF o' x=if x=i then some v else if outF o x=some v then none else outF o x) (hno:outF o i=none) (hv:v<n):byN n o'=(byN n o).set v (i:Int):=by
  apply List.ext_getElem (by simp [byN])
  intro k h1 h2
  rw [List.getElem_set]
  simp only [byN,List.getElem_map,List.getElem_range]
  by_cases hk:v=k
  · subst hk
    rw [if_pos rfl,(who_some h'.T).2 (by rw [e,if_pos rfl])]; rfl
  rw [if_neg hk]
  congr 1
  cases h3:who o k with
  | none =>
    rw [who_none h'.T]
    intro x hx
    rw [e] at hx
    split at hx
    · injection hx with hx; exact hk hx
    · split at hx
      · cases hx
      · exact (who_none h.T).1 h3 x hx
  | some j =>
    have h4:=(who_some h.T).1 h3
    rw [who_some h'.T,e,if_neg (fun e9=>by rw [e9,hno] at h4; cases h4),if_neg (fun e9=>by rw [h4] at e9; injection e9 with e9; exact hk e9.symm)]
    exact h4
def enfZ (n:Nat) (cs:List CR) (o:List Int) (i:Nat):List Int:=enf n (wsOf n cs) (stS cs) o i
def EI (n:Nat) (cs:List CR) (o0:List Int) (i0 f:Nat) (o:List Int):Option Nat→List Nat→Prop
  | some i,T=>EInv n (wsOf n cs) (stS cs) o0 i0 o i T∧free n T<f∧enfF (wsOf n cs) (stS cs) f o i T=enfZ n cs o0 i0
  | none,_=>o=enfZ n cs o0 i0
theorem EI.start (h0:ChoZ n cs o0) (hi:i0<cs.length) (hno:o0.getD i0 0=-1):EI n cs o0 i0 (n + 1) o0 (some i0) []:=⟨EInv.start h0.c (by rw [ws_len]; exact hi) ((h0.idle hi).1 hno),by rw [free_nil]; omega,rfl⟩
theorem EI.cho (h0:ChoZ n cs o0) (h:EI n cs o0 i0 f o (some i) T):ChoZ n cs o∧i<cs.length∧outF o i=none∧0<f:=⟨⟨h.1.c,h0.all,h0.m⟩,by have:=h.1.lt; rwa [ws_len] at this,h.1.no,by have:=h.2.1; omega⟩
theorem EI.stop (h:EI n cs o0 i0 f o (some i) T) (hw:wkZ n cs o i T=none):o=enfZ n cs o0 i0:=by
  obtain ⟨h1,h2,h3⟩:=h
  cases f with
  | zero=>omega
  | succ f=>rw [enfF] at h3; unfold wkZ at hw; rw [hw] at h3; exact h3
def outP (o:List Int):Option Nat→List Int
  | none=>o
  | some j=>o.set j (-1)
theorem EI.next (h0:ChoZ n cs o0) (hi0:i0<cs.length) (hno0:o0.getD i0 0=-1) (h:EI n cs o0 i0 f o (some i) T) (hz:cs[i]?=some z) (hw:wkZ n cs o i T=some v):EI n cs o0 i0 (f - 1) ((outP o (who o v)).set i (v:Int)) (who o v) (vsOf z ++ T)∧byN n ((outP o (who o v)).set i (v:Int))=(byN n o).set v (i:Int):=by
  obtain ⟨hc,hil,hno,hf⟩:=h.cho h0;obtain ⟨h1,h2,h3⟩:=h;have hv:=hc.wk_lt hz hw
  have hws:wk (wsOf n cs) (stS cs) o i T=some v:=hw
  have hm:=(wk_some hws).1;have hnT:=(wk_some hws).2.1
  have hil2:i<(wsOf n cs).length:=by rw [ws_len]; exact hil
  obtain ⟨f,rfl⟩:∃ f',f=f' + 1:=⟨f - 1,by omega⟩
  rw [enfF,hws] at h3
  dsimp only at h3
  cases hj:who o v with
  | none =>
    rw [hj] at h3
    obtain ⟨c1,c2⟩:=hc.c.add hil2 hm ((who_none hc.c.T).1 hj)
    refine ⟨h3,byN_move hc.c c1 (fun x=>?_) hno hv⟩
    show outF (o.set i (v:Int)) x=_
    rw [c2,if_neg ((who_none hc.c.T).1 hj x)]
  | some j =>
    rw [hj] at h3
    have hjo:=(who_some hc.c.T).1 hj
    have hij:i≠j:=fun e=>by rw [← e,hno] at hjo; cases hjo
    obtain ⟨c1,c2⟩:=hc.c.move hil2 hm hjo hij
    refine ⟨⟨?_,?_,?_⟩,byN_move hc.c c1 (fun x=>?_) hno hv⟩
    · have:=h1.step h0.c ((h0.idle hi0).1 hno0) hws hj
      rw [ws_getD hc.all hz] at this
      exact this
    · rw [ws_getD hc.all hz] at hm
      have:=free_lt (n:=n) hv hm hnT
      simp only [Nat.add_sub_cancel]; omega
    · rw [ws_getD hc.all hz] at h3
      exact h3
    show outF ((o.set j (-1)).set i (v:Int)) x=_
    rw [c2]
    by_cases e1:x=i
    · rw [if_pos e1,if_pos e1]
    rw [if_neg e1,if_neg e1]
    by_cases e2:x=j
    · rw [if_pos e2,if_pos (by rw [e2]; exact hjo)]
    rw [if_neg e2,if_neg (fun e3=>e2 (hc.c.T.one _ _ _ e3 hjo))]
def takenL (ts:List TR) (k:Nat) (T:List Nat):List Nat:=(ts.take k).map (fun t=>t.v.toNat) ++ T
theorem takenL_mem {ts:List TR} {k:Nat} (h:ts[k]?=some t) (h0:0≤t.v) (x:Int):x∈t.v :: tI (takenL ts k T)↔x∈tI (takenL ts (k + 1) T):=by
  obtain ⟨h1,rfl⟩:=List.getElem?_eq_some_iff.1 h
  unfold tI takenL
  rw [List.take_succ_eq_append_getElem h1]
  have e:((ts[k].v.toNat:Nat):Int)=ts[k].v:=Int.toNat_of_nonneg h0
  simp only [List.map_append,List.map_cons,List.map_nil,List.mem_append,List.mem_cons,List.not_mem_nil,or_false,e]
  constructor
  · rintro (h2 | h2 | h2)
    · exact .inl (.inr h2)
    · exact .inl (.inl h2)
    exact .inr h2
  rintro ((h2 | h2) | h2)
  · exact .inr (.inl h2)
  · exact .inl h2
  exact .inr (.inr h2)
theorem takenL_full (z:CR) (T:List Nat):takenL z.ts z.ts.length T=vsOf z ++ T:=by unfold takenL vsOf; rw [List.take_length]
end
theorem mapT_103:mapT Tryz.prog 103:=⟨3,4,by kernel_rfl,by kernel_rfl,run_zeroV tyZ4⟩
theorem c_weakest {M : List Nat} {w : World} {g n B : Nat} {vl v1 v2 : Value} {cs : List CR} {o : List Int} (hb : Blk w g 78 #[vl, v1, v2]) (hL : Lay rdC M w vl cs) (O2 : w.ownsRow B 3 1 v2 n (intsZ (byN n o))) (hC : ChoZ n cs o) {i : Nat} (hi : i < cs.length) {vt : Value} {T : List Nat} (htk : MapV w vt (tI T)) :
    Ret Tryz.prog 73 #[.pointer (some ⟨g,0,none⟩),.int .i64 ((i:Nat):Int),vt] w (fun r w'=>r=.int .i64 (fi (wkZ n cs o i T))∧Mod [] w w'):=by
 obtain ⟨TL,tL,rfl⟩:=hL.form;have hmaxL:=hL.max; unfold maxLen at hmaxL
 refine Ret.of (vs:=[.pointer (some ⟨g,0,none⟩),.int .i64 ((i:Nat):Int),vt]) (n:=52) Tryz.func73 rfl rfl rfl rfl ?_
 have C0:Mod [] w w:=Mod.refl _ _
 refine W.sr<|L.b rfl<|L.z<|W.seq<|W.drawW (T:=[]) rfl (by decide +kernel) (NoHang.then NoHang.post) (fun w1 C1=>?_)
 replace hb:=hb.gr C1;replace hL:=hL.gr C1;replace O2:=own_gs O2 C1;replace htk:=htk.gr C1;replace C0:=C0.trans C1
 have G1:Mod [] w1 w1:=Mod.refl _ _
 clear C1;have hb_s:=hb
 refine D.z 0 rfl (by kernel_rfl) rfl G1<|D.t 1 rfl (by kernel_rfl) (fun _ hS=>R1.nilCheck rfl) G1<|D.t 2 rfl (by kernel_rfl) (fun _ hS=>R1.fieldAt rfl tyF78_0) G1<|D.t 3 rfl (by kernel_rfl) (fun _ hS=>R1.loadFld rfl (hb_s.gr hS) rfl tyP22) G1<|D.z 4 rfl (by kernel_rfl) rfl G1<|D.t 5 rfl (by kernel_rfl) (fun _ hS=>R1.atLay (j:=i) rfl rfl (Lay.gr hL hS) Q22 rfl hi) G1<|D.t 6 rfl (by kernel_rfl) (fun _ hS=>R1.fieldAddr rfl tyF42_0) G1 ?_
 obtain ⟨z19,cs19,P19,V19,vt19,ds19,rfl,Y19,vn19,vd19,rfl,I19,H19⟩:=Lay.elemQ hL (j:=i) hi;obtain ⟨T19,t19,rfl⟩:=Y19.form;obtain ⟨A19,c19,rfl⟩:=I19.form;obtain ⟨B19,e19,rfl⟩:=H19.form
 refine D.t 7 rfl (by kernel_rfl) (fun _ hS=>R1.loadEF rfl (SlE.gr V19 hS) rfl tyP3) G1<|D.t 8 rfl (by kernel_rfl) (fun _ hS=>R1.assign rfl) G1<|D.t 9 rfl (by kernel_rfl) (fun _ hS=>R1.assign rfl) G1<|D.done (by decide +kernel) ?_ _
 refine X.seq<|W.seq<|W.sr<|L.k rfl<|L.v (R1.nilCheck rfl) rfl<|L.fA rfl tyF78_0<|L.lF rfl hb rfl tyP22<|L.k rfl<|L.aL (j:=i) rfl rfl hL Q22 rfl hi<|L.v (R1.fieldAddr rfl tyF42_1) rfl ?_
 obtain ⟨z27,cs27,P27,V27,vt27,ds27,rfl,Y27,vn27,vd27,rfl,I27,H27⟩:=Lay.elemQ hL (j:=i) hi;obtain ⟨T27,t27,rfl⟩:=Y27.form;obtain ⟨A27,c27,rfl⟩:=I27.form;obtain ⟨B27,e27,rfl⟩:=H27.form
 obtain rfl:z19=z27:=by have h9:=P27; rw [P19] at h9; injection h9
 refine L.v (R1.loadEF rfl V27 rfl tyP37) rfl ?_
 have hmax27:=Y27.max; unfold maxLen at hmax27
 refine L.lL rfl Y27 Q37<|L.k rfl<|L.z<|W.block<|W.loop (ι:=Nat × (Option Nat × Int)) (fun (k,b)=>[(0,.pointer (some ⟨g,0,none⟩)),(1,.int .i64 ((i:Nat):Int)),(2,vt),(7,.int .i64 (fi b.1)),(8,.int .i64 b.2),(27,.slice T27 z19.ts.length t27),(28,.int .i64 ((z19.ts.length:Nat):Int)),(29,.int .i64 ((k:Nat):Int))]) (fun (k,b) w_=>Blk w_ g 78 #[.slice TL cs.length tL,v1,v2]∧Lay rdC M w_ (.slice TL cs.length tL) cs∧w_.ownsRow B 3 1 v2 n (intsZ (byN n o))∧Lay rdT M w_ (.slice T27 z19.ts.length t27) z19.ts∧MapV w_ vt (tI T)∧k≤z19.ts.length∧b=(wkL n cs o T (z19.ts.take k) (none,z19.st))∧Mod [] w w_) (fun (k,b)=>z19.ts.length - k) (0,(none,z19.st)) ?_ ?_ ?_
 · repeat' constructor
 ·
  exact ⟨hb,hL.su,O2,Y27.su,htk,Nat.zero_le _,rfl,C0⟩
 rintro ⟨k,b⟩ w2 ⟨hb,hL,O2,Y27,htk,hk,hbk,C0⟩
 refine W.sr<|L.lt rfl rfl<|L.z<|W.seq<|W.cond rfl ?_ ?_
 ·
  intro J30
  try simp only [bq,ne_eq] at J30
  refine W.skip<|X.seq<|W.seq<|W.block<|W.sr<|L.aL (j:=k) rfl rfl Y27 Q37 rfl (by omega) ?_
  obtain ⟨z32,cs32,P32,V32,ds32,rfl,vn32,vd32,rfl,I32,H32⟩:=Lay.elemQ Y27 (j:=k) (by omega);obtain ⟨A32,c32,rfl⟩:=I32.form;obtain ⟨B32,e32,rfl⟩:=H32.form
  refine L.v (R1.loadE rfl V32 tyG47) rfl ?_
  obtain ⟨H1,H2⟩:=hC.var P19 (List.mem_of_getElem? P32)
  refine L.alloc tyZ47 rfl ?_
  intro g10 w3 D10
  have hne_g_g10:=hb.ne_ D10;replace hb:=hb.gr D10.mod;replace hL:=hL.new D10;have hno_ho2_g10:=own_ne_new O2 D10;replace O2:=own_gs O2 D10.mod;replace Y27:=Y27.new D10;have hnv_g10:=htk.nv D10;replace htk:=htk.gr D10.mod;have K10:=New.ge D10 C0.size;replace C0:=C0.tn D10;have E10:=D10.blk;clear D10
  refine L.storeBox rfl rfl E10 rfl rfl tyG47 ?_
  intro w4 E10' C4
  replace hb:=hb.fr C4;replace hL:=hL.ms C4;replace O2:=own_far O2 C4 hno_ho2_g10;replace Y27:=Y27.ms C4;replace htk:=htk.far C4 hnv_g10;replace C0:=C0.old1 C4 K10;clear C4;replace E10:=E10'; clear E10'
  refine L.z<|W.sr<|L.k rfl<|L.fA rfl tyF47_0<|L.v ((R1.loadFld rfl E10 rfl tyP3).asV (v:=.int .i64 ((z32.v.toNat:Nat):Int)) (by show Value.int .i64 z32.v=_; rw [Int.toNat_of_nonneg H2])) rfl<|L.c rfl (c_strong hb hL O2 hC H1) ?_
  rintro _ w5 ⟨rfl,C5⟩
  replace hb:=hb.gr C5;replace hL:=hL.gr C5;replace O2:=own_gs O2 C5;replace Y27:=Y27.gr C5;replace htk:=htk.gr C5;replace C0:=C0.trans C5;replace E10:=E10.gr C5;clear C5
  refine L.b rfl<|L.z<|W.sr<|L.k rfl<|L.fA rfl tyF47_0<|L.v ((R1.loadFld rfl E10 rfl tyP3).asV (v:=.int .i64 z32.v) (rfl)) rfl<|L.v ((R1.lookupV rfl rfl htk mapT_103).asB (c:=(decide (z32.v.toNat∈T))) (by rw [decide_eq_decide]; exact mem_tI H2)) rfl<|L.v (R1.not rfl) rfl<|L.k rfl ?_
  cases W42:(!(decide (z32.v.toNat∈T)))
  ·
   simp only [Bool.not_eq_true',Bool.not_eq_false',bq] at W42
   refine L.o rfl<|L.o rfl<|L.o rfl<|L.pF rfl rfl<|L.z<|W.condF rfl<|W.skip<|X.blockEnd<|X.seq<|W.region ?_
   refine L.inc rfl rfl (by omega)<|L.k rfl<|L.nil<|X.next (k + 1,b) ?_ ?_ ?_
   · repeat' constructor
   ·
    have hsn:=wkL_snoc (n:=n) (cs:=cs) (o:=o) (T:=T) (b:=(none,z19.st)) P32
    rw [if_neg (fun h9=>h9.1 W42)] at hsn
    exact ⟨hb,hL.su,O2,Y27.su,htk,by omega,by rw [hsn,hbk],C0⟩
   first | omega | (dsimp only; omega)
  simp only [Bool.not_eq_true',Bool.not_eq_false',bq] at W42
  refine L.p rfl (R1.move rfl)<|L.p rfl (R1.move rfl)<|L.p rfl ((R1.gt rfl rfl).asB (c:=(decide (b.2<(strZ n cs o z32.v.toNat)))) (rfl))<|L.pT rfl rfl<|L.z<|W.cond rfl ?_ ?_
  ·
   intro J46
   try simp only [bq,ne_eq] at J46
   refine W.region<|L.fA rfl tyF47_0<|L.v ((R1.loadFld rfl E10 rfl tyP3).asV (v:=.int .i64 (fi (some z32.v.toNat))) (by show Value.int .i64 z32.v=.int .i64 ((z32.v.toNat:Nat):Int); rw [Int.toNat_of_nonneg H2])) rfl<|L.k rfl<|L.b rfl<|L.b rfl<|L.nil<|X.blockEnd<|X.seq<|W.region<|L.inc rfl rfl (by omega) ?_
   refine L.k rfl<|L.nil<|X.next (k + 1,(some z32.v.toNat,(strZ n cs o z32.v.toNat))) ?_ ?_ ?_
   · repeat' constructor
   ·
    have hsn:=wkL_snoc (n:=n) (cs:=cs) (o:=o) (T:=T) (b:=(none,z19.st)) P32
    rw [if_pos ⟨W42,by rw [← hbk]; exact J46⟩] at hsn
    exact ⟨hb,hL.su,O2,Y27.su,htk,by omega,hsn.symm,C0⟩
   first | omega | (dsimp only; omega)
  intro J46
  try simp only [bq,ne_eq] at J46
  refine W.skip<|X.blockEnd<|X.seq<|W.region<|L.inc rfl rfl (by omega)<|L.k rfl<|L.nil<|X.next (k + 1,b) ?_ ?_ ?_
  · repeat' constructor
  ·
   have hsn:=wkL_snoc (n:=n) (cs:=cs) (o:=o) (T:=T) (b:=(none,z19.st)) P32
   rw [if_neg (fun h9=>absurd h9.2 (by rw [← hbk]; omega))] at hsn
   exact ⟨hb,hL.su,O2,Y27.su,htk,by omega,by rw [hsn,hbk],C0⟩
  first | omega | (dsimp only; omega)
 intro J30
 try simp only [bq,ne_eq] at J30
 obtain rfl:k=z19.ts.length:=by omega
 refine W.brk<|W.sr<|L.k rfl<|L.b rfl<|L.z ?_
 refine W.ret<|X.result1 rfl (.tmp rfl .nil) ?_
 rw [List.take_length] at hbk
 rw [hC.wk_ P19,← hbk]
 exact ⟨rfl,C0⟩
theorem c_enforces {M : List Nat} {w : World} {g n B : Nat} {vl v1 v2 : Value} {cs : List CR} {o0 : List Int} (hb : Blk w g 78 #[vl, v1, v2]) (hL : Lay rdC (ownL v1 ++ (ownL v2 ++ M)) w vl cs) (O1 : w.ownsRow B 3 1 v1 cs.length (intsZ o0)) (O2 : w.ownsRow B 3 1 v2 n (intsZ (byN n o0))) (haw : Away v1 v2) (hno_ho1_g : v1.ownBlock ≠ some g) (hno_ho2_g : v2.ownBlock ≠ some g) (hC0 : ChoZ n cs o0) {i0 : Nat} (hi0 : i0 < cs.length) (hno0 : o0.getD i0 0 = -1) :
    Ret Tryz.prog 39 #[.pointer (some ⟨g,0,none⟩),.int .i64 ((i0:Nat):Int)] w (fun r w'=>w'.ownsRow B 3 1 v1 cs.length (intsZ (enfZ n cs o0 i0))∧w'.ownsRow B 3 1 v2 n (intsZ (byN n (enfZ n cs o0 i0)))∧Mod (ownL v1 ++ ownL v2) w w'):=by
 obtain ⟨TL,tL,rfl⟩:=hL.form;have hmaxL:=hL.max; unfold maxLen at hmaxL
 refine Ret.of (vs:=[.pointer (some ⟨g,0,none⟩),.int .i64 ((i0:Nat):Int)]) (n:=65) Tryz.func39 rfl rfl rfl rfl ?_
 have C0:Mod (ownL v1 ++ ownL v2) w w:=Mod.refl _ _
 refine W.sr<|L.makeMapI rfl ?_
 intro g9 w1 hle_ hmp C1
 replace hle_:=Nat.le_of_eq hle_.symm;have hne_g_g9:=Nat.ne_of_lt (Nat.lt_of_lt_of_le (Blk.lt hb) hle_);replace hL:=hL.more hle_
 have hno_ho1_g9:_≠some g9:=fun h9=>by have h8:=(own_ge O1 _ h9).2; omega
 have hno_ho2_g9:_≠some g9:=fun h9=>by have h8:=(own_ge O2 _ h9).2; omega
 have K9:=Nat.le_trans C0.size hle_; clear hle_;replace hb:=hb.gr C1;replace hL:=hL.gr C1;replace O1:=own_gs O1 C1;replace O2:=own_gs O2 C1;replace C0:=C0.trans (C1.mono (by simp));clear C1
 refine L.b rfl<|L.z<|W.block<|W.loop (ι:=Nat × List Int × Option Nat × List Nat) (fun (f,o,oi,T)=>[(0,.pointer (some ⟨g,0,none⟩)),(1,.int .i64 (fi oi)),(4,.map (some g9))]) (fun (f,o,oi,T) w_=>Blk w_ g 78 #[.slice TL cs.length tL,v1,v2]∧Lay rdC (g9 :: (ownL v1 ++ (ownL v2 ++ M))) w_ (.slice TL cs.length tL) cs∧w_.ownsRow B 3 1 v1 cs.length (intsZ o)∧w_.ownsRow B 3 1 v2 n (intsZ (byN n o))∧Away v1 v2∧MapI w_ g9 (tI T)∧EI n cs o0 i0 f o oi T∧Mod (ownL v1 ++ ownL v2) w w_) (fun (f,o,oi,T)=>f) (n + 1,o0,some i0,[]) ?_ ?_ ?_
 · exact ⟨rfl,rfl,rfl,trivial⟩
 ·
  exact ⟨hb,hL.su,O1,O2,haw,hmp,EI.start hC0 hi0 hno0,C0⟩
 rintro ⟨f,o,oi,T⟩ w2 ⟨hb,hL,O1,O2,haw,hmp,hE,C0⟩
 refine W.seq<|W.sr<|L.k rfl<|L.v (R1.ne rfl rfl) rfl<|L.z<|W.cond rfl ?_ ?_
 ·
  intro J11
  try simp only [bq,ne_eq] at J11
  rw [fi_neg1] at J11
  obtain ⟨i,rfl⟩:=Option.ne_none_iff_exists'.1 J11;obtain ⟨hC,hi,hnoi,hf0⟩:=hE.cho hC0;obtain ⟨z,hz⟩:=hC.at_ hi
  refine W.skip<|X.seq<|W.block<|W.sr<|L.k rfl<|L.k rfl<|L.k rfl<|L.c rfl (c_weakest hb hL O2 hC hi (MapV.of hmp)) ?_
  rintro _ w3 ⟨rfl,C3⟩
  replace hb:=hb.gr C3;replace hL:=hL.gr C3;replace O1:=own_gs O1 C3;replace O2:=own_gs O2 C3;replace hmp:=hmp.gr C3;replace C0:=C0.trans (C3.mono (by simp));clear C3
  refine L.b rfl<|L.z<|W.seq<|W.sr<|L.k rfl<|L.v (R1.eq rfl rfl) rfl<|L.z<|W.cond rfl ?_ ?_
  ·
   intro J17
   try simp only [bq,ne_eq] at J17
   rw [fi_neg1] at J17
   have hEo:=hE.stop J17
   refine W.ret<|X.thenRet<|X.blockRet<|X.nextRet<|X.blockRet<|X.result0 rfl ?_
   rw [hEo] at O1 O2
   exact ⟨O1,O2,C0⟩
  intro J17
  try simp only [bq,ne_eq] at J17
  rw [fi_neg1] at J17
  obtain ⟨v,hwk⟩:=Option.ne_none_iff_exists'.1 J17;have hv:=hC.wk_lt hz hwk
  have hfv:fi (wkZ n cs o i T)=(v:Int):=by rw [hwk]; rfl
  obtain ⟨V2,hby⟩:=hE.next hC0 hi0 hno0 hz hwk;have hol:=hC.len
  refine W.skip<|X.seq<|W.sr<|L.k rfl<|L.v (R1.nilCheck rfl) rfl<|L.fA rfl tyF78_2<|L.v ((R1.loadFld rfl hb rfl tyP26).asV (v:=v2) rfl) rfl<|L.k rfl<|L.v (R1.atOwn (i:=v) rfl rfl O2 Q26 hfv hv) rfl<|L.v ((R1.ldZ rfl O2 hv tyP3).asV (v:=.int .i64 (fi (who o v))) (by rw [byN_get o hv])) rfl ?_
  refine L.b rfl<|L.z<|W.seq<|W.sr<|L.k rfl<|L.v (R1.ne rfl rfl) rfl<|L.z<|W.cut (ι:=Unit) (fun _=>[(0,.pointer (some ⟨g,0,none⟩)),(1,.int .i64 ((i:Nat):Int)),(4,.map (some g9)),(5,.int .i64 (fi (wkZ n cs o i T))),(6,.int .i64 (fi (who o v)))]) (fun _ w_=>Blk w_ g 78 #[.slice TL cs.length tL,v1,v2]∧Lay rdC (g9 :: (ownL v1 ++ (ownL v2 ++ M))) w_ (.slice TL cs.length tL) cs∧w_.ownsRow B 3 1 v1 cs.length (intsZ (outP o (who o v)))∧w_.ownsRow B 3 1 v2 n (intsZ (byN n o))∧Away v1 v2∧MapI w_ g9 (tI T)∧Mod (ownL v1 ++ ownL v2) w w_) ?_ ?_
  ·
   refine W.cond rfl ?_ ?_
   ·
    intro J26
    try simp only [bq,ne_eq] at J26
    rw [fi_neg1] at J26
    obtain ⟨j,hwj⟩:=Option.ne_none_iff_exists'.1 J26;have hj:=hC.lt hwj
    have hfj:fi (who o v)=(j:Int):=by rw [hwj]; rfl
    refine W.region<|L.k rfl<|L.v (R1.nilCheck rfl) rfl<|L.fA rfl tyF78_1<|L.v ((R1.loadFld rfl hb rfl tyP26).asV (v:=v1) rfl) rfl<|L.k rfl<|L.v (R1.atOwn (i:=j) rfl rfl O1 Q26 hfj hj) rfl<|L.storeZ rfl rfl O1 hj tyP3 ?_
    intro w4 O1' C4
    replace hb:=Blk.ownfar hb C4 hno_ho1_g;replace hL:=hL.mo C4;replace O2:=own_away (s':=1) (el':=0) (k':=0) (B':=0) (ys:=[]) O2 C4 (by first | assumption | exact Away.symm (by assumption));replace hmp:=MapI.ownfar hmp C4 hno_ho1_g9;replace C0:=C0.trans (C4.mono (by intro b hb; simp [hb]));clear C4;replace O1:=O1'; clear O1'
    refine L.nil<|X.join () ?_ ?_
    · repeat' constructor
    exact ⟨hb,hL.su,by rw [hwj]; exact O1,O2,haw,hmp,C0⟩
   intro J26
   try simp only [bq,ne_eq] at J26
   rw [fi_neg1] at J26
   refine W.skip<|X.join () ?_ ?_
   · repeat' constructor
   exact ⟨hb,hL.su,by rw [J26]; exact O1,O2,haw,hmp,C0⟩
  rintro _ wj ⟨hb,hL,O1,O2,haw,hmp,C0⟩
  refine X.seq<|W.seq<|W.drawG (ownL v1) (T:=[14,15]) rfl (by decide +kernel) (NoHang.then (NoHang.block (NoHang.next (NoHang.block NoHang.post)))) (fun w5 C5=>?_)
  replace hb:=hb.gr C5;replace hL:=hL.gr C5;replace O1:=own_gs O1 C5;replace O2:=own_gs O2 C5;replace hmp:=hmp.gr C5;replace C0:=C0.trans (C5.mono (by simp))
  have G1:Mod (ownL v1) w5 w5:=Mod.refl _ _
  clear C5;have hb_s:=hb
  refine D.z 0 rfl (by kernel_rfl) rfl G1<|D.t 1 rfl (by kernel_rfl) (fun _ hS=>R1.nilCheck rfl) G1<|D.t 2 rfl (by kernel_rfl) (fun _ hS=>R1.fieldAt rfl tyF78_1) G1<|D.t 3 rfl (by kernel_rfl) (fun _ hS=>(R1.loadFld rfl (Blk.ownfar hb_s hS hno_ho1_g) rfl tyP26).asV (v:=v1) rfl) G1<|D.z 4 rfl (by kernel_rfl) rfl G1<|D.z 5 rfl (by kernel_rfl) rfl G1<|D.t 6 rfl (by kernel_rfl) (fun _ hS=>R1.nilCheck rfl) G1<|D.t 7 rfl (by kernel_rfl) (fun _ hS=>R1.fieldAt rfl tyF78_2) G1<|D.t 8 rfl (by kernel_rfl) (fun _ hS=>(R1.loadFld rfl (Blk.ownfar hb_s hS hno_ho1_g) rfl tyP26).asV (v:=v2) rfl) G1<|D.z 9 rfl (by kernel_rfl) rfl G1<|D.z 10 rfl (by kernel_rfl) rfl G1 ?_
  refine D.z 11 rfl (by kernel_rfl) rfl G1<|D.t 12 rfl (by kernel_rfl) (fun _ hS=>R1.atOwnW (i:=i) rfl rfl O1 Q26 rfl hi) G1<|D.one 13 rfl (by kernel_rfl) (fun hX=>?_)
  refine L.storeZ rfl rfl O1 hi tyP3 ?_
  intro w6 O1' C6
  replace G1:=G1.trans C6;replace hb:=Blk.ownfar hb C6 hno_ho1_g;replace hL:=hL.mo C6;replace O2:=own_away (s':=1) (el':=0) (k':=0) (B':=0) (ys:=[]) O2 C6 (by first | assumption | exact Away.symm (by assumption));replace hmp:=MapI.ownfar hmp C6 hno_ho1_g9;replace C0:=C0.trans (C6.mono (by intro b hb; simp [hb]));clear C6;replace O1:=O1'; clear O1'
  refine L.nil (hX _ _ ⟨.inr G1,?_⟩)
  refine D.one 14 rfl (by kernel_rfl) (fun hX=>?_)
  refine L.v (R1.atOwn (i:=v) rfl rfl O2 Q26 hfv hv) rfl (L.nil (hX _ _ ⟨.inr G1,?_⟩))
  refine D.one 15 rfl (by kernel_rfl) (fun hX=>?_)
  refine L.storeZ rfl rfl O2 hv tyP3 ?_
  intro w7 O2' C7
  replace hb:=Blk.ownfar hb C7 hno_ho2_g;replace hL:=hL.mo C7;replace hmp:=MapI.ownfar hmp C7 hno_ho2_g9;replace C0:=C0.trans (C7.mono (by intro b hb; simp [hb]));replace O1:=own_away (s':=1) (el':=0) (k':=0) (B':=0) (ys:=[]) O1 C7 (by first | assumption | exact Away.symm (by assumption));clear C7;replace O2:=O2'; clear O2'
  refine L.nil (hX _ _ ⟨.inl rfl,?_⟩)
  refine D.done (by decide +kernel) ?_ _
  refine X.seq<|W.seq<|W.sr<|L.k rfl<|L.v (R1.nilCheck rfl) rfl<|L.fA rfl tyF78_0<|L.lF rfl hb rfl tyP22<|L.k rfl<|L.aL (j:=i) rfl rfl hL Q22 rfl hi<|L.v (R1.fieldAddr rfl tyF42_1) rfl ?_
  obtain ⟨z54,cs54,P54,V54,vt54,ds54,rfl,Y54,vn54,vd54,rfl,I54,H54⟩:=Lay.elemQ hL (j:=i) hi;obtain ⟨T54,t54,rfl⟩:=Y54.form;obtain ⟨A54,c54,rfl⟩:=I54.form;obtain ⟨B54,e54,rfl⟩:=H54.form
  obtain rfl:z=z54:=by have h9:=P54; rw [hz] at h9; injection h9
  refine L.v (R1.loadEF rfl V54 rfl tyP37) rfl ?_
  have hmax54:=Y54.max; unfold maxLen at hmax54
  refine L.lL rfl Y54 Q37<|L.k rfl<|L.z<|W.block<|W.loop (ι:=Nat) (fun k=>[(0,.pointer (some ⟨g,0,none⟩)),(1,.int .i64 ((i:Nat):Int)),(4,.map (some g9)),(6,.int .i64 (fi (who o v))),(54,.slice T54 z.ts.length t54),(55,.int .i64 ((z.ts.length:Nat):Int)),(56,.int .i64 ((k:Nat):Int))]) (fun k w_=>Blk w_ g 78 #[.slice TL cs.length tL,v1,v2]∧Lay rdC (g9 :: (ownL v1 ++ (ownL v2 ++ M))) w_ (.slice TL cs.length tL) cs∧Lay rdT (g9 :: (ownL v1 ++ (ownL v2 ++ M))) w_ (.slice T54 z.ts.length t54) z.ts∧w_.ownsRow B 3 1 v1 cs.length (intsZ ((outP o (who o v)).set i (v:Int)))∧w_.ownsRow B 3 1 v2 n (intsZ (byN n ((outP o (who o v)).set i (v:Int))))∧Away v1 v2∧MapI w_ g9 (tI (takenL z.ts k T))∧k≤z.ts.length∧Mod (ownL v1 ++ ownL v2) w w_) (fun k=>z.ts.length - k) 0 ?_ ?_ ?_
  · repeat' constructor
  ·
   exact ⟨hb,hL.su,Y54.su,by rw [hfv] at O1; exact O1,by rw [hby]; exact O2,haw,hmp,Nat.zero_le _,C0⟩
  rintro k w8 ⟨hb,hL,Y54,O1,O2,haw,hmp,hk,C0⟩
  refine W.sr<|L.lt rfl rfl<|L.z<|W.seq<|W.cond rfl ?_ ?_
  ·
   intro J57
   try simp only [bq,ne_eq] at J57
   refine W.skip<|X.seq<|W.seq<|W.block<|W.sr<|L.aL (j:=k) rfl rfl Y54 Q37 rfl (by omega) ?_
   obtain ⟨z59,cs59,P59,V59,ds59,rfl,vn59,vd59,rfl,I59,H59⟩:=Lay.elemQ Y54 (j:=k) (by omega);obtain ⟨A59,c59,rfl⟩:=I59.form;obtain ⟨B59,e59,rfl⟩:=H59.form
   refine L.v (R1.loadE rfl V59 tyG47) rfl ?_
   obtain ⟨H1,H2⟩:=hC.var hz (List.mem_of_getElem? P59)
   refine L.alloc tyZ47 rfl ?_
   intro g8 w9 D8
   have hne_g_g8:=hb.ne_ D8;replace hb:=hb.gr D8.mod;replace hL:=hL.new D8;replace Y54:=Y54.new D8;have hno_ho1_g8:=own_ne_new O1 D8;replace O1:=own_gs O1 D8.mod;have hno_ho2_g8:=own_ne_new O2 D8;replace O2:=own_gs O2 D8.mod;have hne_g9_g8:=hmp.ne_ D8;replace hmp:=hmp.gr D8.mod;have K8:=New.ge D8 C0.size;replace C0:=C0.tn D8;have E8:=D8.blk;clear D8
   refine L.storeBox rfl rfl E8 rfl rfl tyG47 ?_
   intro w10 E8' C10
   replace hb:=hb.fr C10;replace hL:=hL.ms C10;replace Y54:=Y54.ms C10;replace O1:=own_far O1 C10 hno_ho1_g8;replace O2:=own_far O2 C10 hno_ho2_g8;replace hmp:=MapI.mod hmp C10 (by simpa using (by first | exact hne_g9_g8 | exact (hne_g8_g9).symm));replace C0:=C0.old1 C10 K8;clear C10;replace E8:=E8'; clear E8'
   refine L.z<|W.region<|L.k rfl<|L.fA rfl tyF47_0<|L.v ((R1.loadFld rfl E8 rfl tyP3).asV (v:=.int .i64 z59.v) (rfl)) rfl<|L.mapUpdI rfl rfl rfl hmp mapT_103 ?_
   intro w11 hmp' C11
   replace hb:=hb.fr C11;replace hL:=hL.ms C11;replace Y54:=Y54.ms C11;replace O1:=own_far O1 C11 hno_ho1_g9;replace O2:=own_far O2 C11 hno_ho2_g9;replace C0:=C0.old1 C11 K9;clear C11;replace hmp:=hmp'; clear hmp';replace hmp:=hmp.congr (takenL_mem P59 H2)
   refine L.nil<|X.blockEnd<|X.seq<|W.region<|L.inc rfl rfl (by omega)<|L.k rfl<|L.nil<|X.next (k + 1) ?_ ?_ ?_
   · repeat' constructor
   ·
    exact ⟨hb,hL.su,Y54.su,O1,O2,haw,hmp,by omega,C0⟩
   first | omega | (dsimp only; omega)
  intro J57
  try simp only [bq,ne_eq] at J57
  obtain rfl:k=z.ts.length:=by omega
  refine W.brk<|W.region<|L.k rfl<|L.b rfl<|L.nil<|X.blockEnd<|X.next (f - 1,((outP o (who o v)).set i (v:Int)),who o v,vsOf z ++ T) ?_ ?_ ?_
  · exact ⟨rfl,rfl,rfl,trivial⟩
  ·
   exact ⟨hb,hL.su,O1,O2,haw,by rw [takenL_full] at hmp; exact hmp,V2,C0⟩
  first | omega | (dsimp only; omega)
 intro J11
 try simp only [bq,ne_eq] at J11
 rw [fi_neg1] at J11
 subst J11
 refine W.exit<|X.thenExit<|X.nextExit<|X.here<|X.fall0 rfl ?_
 rw [show o=enfZ n cs o0 i0 from hE] at O1 O2
 exact ⟨O1,O2,C0⟩
end Go.Proofs.YthoooolflmbmbaaGreat
