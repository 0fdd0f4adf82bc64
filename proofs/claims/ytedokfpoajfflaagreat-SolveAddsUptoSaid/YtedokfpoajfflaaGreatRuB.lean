/- Walks: what the functions compute. -/
import Derived.Test.YtedokfpoajfflaaGreatRuA
namespace Go.Proofs.YtedokfpoajfflaaGreat
open Go.RowKit
set_option linter.unusedVariables false
set_option linter.unusedSimpArgs false
set_option maxRecDepth 10000
def waD (os:List Int) (ds:List Bool):List Int:=(List.range os.length).map fun j=>if ds.getD j false=true then -1 else os.getD j 0
theorem waD_len (os:List Int) (ds:List Bool):(waD os ds).length=os.length:=by simp [waD]
theorem waD_get {os:List Int} (ds:List Bool) {j:Nat} (h:j<os.length):(waD os ds).getD j 0=if ds.getD j false=true then -1 else os.getD j 0:=by
  simp [waD,List.getD_eq_getElem?_getD,h]
theorem waD_start (os:List Int) (n:Nat):waD os (List.replicate n false)=os:=by
  unfold waD
  apply List.ext_getElem (by simp)
  intro j h1 h2
  simp only [List.getElem_map,List.getElem_range]
  rw [if_neg (by simp [List.getD_eq_getElem?_getD,List.getElem?_replicate]; split <;> simp),getD_at h2]
theorem waD_set {os:List Int} {ds:List Bool} {m:Nat} (hm:m<os.length) (hl:ds.length=os.length):waD os (ds.set m true)=(waD os ds).set m (-1):=by
  apply List.ext_getElem (by simp [waD])
  intro j h1 h2
  rw [List.getElem_set]
  simp only [waD,List.getElem_map,List.getElem_range]
  by_cases e:m=j
  · subst e; rw [if_pos rfl,if_pos (by simp [List.getD_eq_getElem?_getD,hl,hm])]
  rw [if_neg e]
  have e2:(ds.set m true).getD j false=ds.getD j false:=by simp [List.getD_eq_getElem?_getD,List.getElem?_set,e]
  rw [e2]
theorem mem_waD {os:List Int} {ds:List Bool} {v:Int} (hv:0≤v):v∈waD os ds↔∃ j,j<os.length∧ds.getD j false=false∧os.getD j 0=v:=by
  unfold waD
  rw [List.mem_map]
  constructor
  · rintro ⟨j,hj,e⟩
    rw [List.mem_range] at hj
    split at e
    · omega
    rename_i h; exact ⟨j,hj,by simpa using h,e⟩
  rintro ⟨j,hj,h1,h2⟩
  exact ⟨j,List.mem_range.2 hj,by rw [if_neg (by rw [h1]; decide)]; exact h2⟩
def PT_ (os wa:List Int) (i:Nat):TR→Bool:=fun t=>decide (t.v≠os.getD i 0) && decide (t.v∈wa)
theorem rdW_D {n:Int} {cs:List CR} {os:List Int} {ds:List Bool} {i:Nat} (hch:chP n cs os cs.length) (hl:os.length=cs.length) (hi:i<cs.length):rdW cs os (waD os ds) i=(decide (0≤os.getD i 0) && (!(ds.getD i false) && !((cs.getD i c0R).ts.any (PT_ os (waD os ds) i)))):=by
  have h1:=chP_lo hch hi
  unfold rdW
  rw [waD_get ds (by omega),← Bool.and_assoc]
  congr 1
  cases ds.getD i false with
  | true=>simp
  | false=>rw [if_neg (by decide)]; simp only [Bool.not_false,Bool.and_true]; exact decide_eq_decide.2 (by omega)
theorem c_r14_ready {M : List Nat} {w : World} {vl vo vd : Value} {cs : List CR} {os : List Int} {ds : List Bool} {i B9 : Nat} {n : Int} (hL : Lay rdC M w vl cs) (hO : Lay rdI M w vo os) (hd : w.ownsRow B9 4 1 vd cs.length (boolsV ds)) (hol : os.length = cs.length) (hi : i < cs.length) (hC : isC (cs.getD i c0R) n = true) :
    Ret Tryz.prog 85 #[vl,vo,vd,.int .i64 ((i:Nat):Int)] w (fun r w'=>r=.bool (!((cs.getD i c0R).ts.any (PT_ os (waD os ds) i)))∧Mod [] w w'):=by
 obtain ⟨TL,tL,rfl⟩:=hL.form;obtain ⟨TO,tO,rfl⟩:=hO.form
 obtain ⟨zc,hzc⟩:∃ z,cs[i]?=some z:=⟨_,List.getElem?_eq_getElem hi⟩
 rw [getD_of_get hzc] at hC ⊢
 have hmaxL:=hL.max; unfold maxLen at hmaxL
 refine Ret.of (vs:=[.slice TL cs.length tL,.slice TO os.length tO,vd,.int .i64 ((i:Nat):Int)]) (n:=58) Tryz.func85 rfl rfl rfl rfl ?_
 have hm0:Mod [] w w:=Mod.refl _ _
 refine W.seq<|W.region<|L.a rfl rfl<|L.nil<|X.seq<|W.seq<|W.seq<|W.region<|L.a rfl rfl<|L.nil<|X.seq ?_
 refine W.block<|W.loop (ι:=Nat) (fun k=>[(0,.slice TL cs.length tL),(1,.slice TO os.length tO),(2,vd),(3,.int .i64 ((i:Nat):Int)),(9,.int .i64 ((k:Nat):Int))]) (fun k w_=>Lay rdC M w_ (.slice TL cs.length tL) cs∧Lay rdI M w_ (.slice TO os.length tO) os∧w_.ownsRow B9 4 1 vd cs.length (boolsV ds)∧Mod [] w w_∧k≤zc.ts.length∧(∀ t∈zc.ts.take k,PT_ os (waD os ds) i t=false)) (fun k=>zc.ts.length - k) 0 ?_ ?_ ?_
 · exact ⟨rfl,rfl,rfl,rfl,rfl,trivial⟩
 ·
  exact ⟨hL.su,hO.su,hd,hm0,Nat.zero_le _,(fun t h=>by simp at h)⟩
 rintro k w1 ⟨hL,hO,hd,hm0,hk,hno⟩
 refine W.seq<|W.seq<|W.region<|L.m rfl rfl<|L.m rfl rfl<|L.m rfl rfl<|L.v (R1.atLay (j:=i) rfl rfl hL tyS22 rfl (by omega)) rfl<|L.v (R1.fieldAddr rfl tyF47_1) rfl ?_
 obtain ⟨z17,cs17,hz17,hE17,vt17,ds17,rfl,ht17,vn17,vd17,rfl,hn17,hd17⟩:=Lay.elemQ hL (j:=i) (by omega);obtain ⟨T17,t17,rfl⟩:=ht17.form;obtain ⟨A17,c17,rfl⟩:=hn17.form;obtain ⟨B17,e17,rfl⟩:=hd17.form
 obtain rfl:zc=z17:=by have h9:=hz17; rw [hzc] at h9; injection h9
 refine L.v (R1.loadEF rfl hE17 rfl tyP44) rfl<|L.v (R1.lenLay rfl ht17 tyS44) rfl<|L.v (R1.lt rfl rfl) rfl<|L.nil<|X.seq<|W.cond rfl ?_ ?_
 ·
  intro hc19
  try simp only [bq,ne_eq] at hc19
  have hmaxt:=ht17.max; unfold maxLen at hmaxt
  refine W.skip<|X.seq<|W.seq<|W.block<|W.seq<|W.region<|L.m rfl rfl<|L.m rfl rfl<|L.v (R1.atLay (j:=i) rfl rfl hL tyS22 rfl (by omega)) rfl<|L.v (R1.fieldAddr rfl tyF47_1) rfl ?_
  obtain ⟨z26,cs26,hz26,hE26,vt26,ds26,rfl,ht26,vn26,vd26,rfl,hn26,hd26⟩:=Lay.elemQ hL (j:=i) (by omega);obtain ⟨T26,t26,rfl⟩:=ht26.form;obtain ⟨A26,c26,rfl⟩:=hn26.form;obtain ⟨B26,e26,rfl⟩:=hd26.form
  obtain rfl:zc=z26:=by have h9:=hz26; rw [hzc] at h9; injection h9
  refine L.v (R1.loadEF rfl hE26 rfl tyP44) rfl<|L.m rfl rfl<|L.v (R1.atLay (j:=k) rfl rfl ht26 tyS44 rfl (by omega)) rfl<|L.v (R1.fieldAddr rfl tyF43_0) rfl ?_
  obtain ⟨z30,cs30,hz30,hE30,ds30,rfl,vn30,vd30,rfl,hn30,hd30⟩:=Lay.elemQ ht26 (j:=k) (by omega);obtain ⟨A30,c30,rfl⟩:=hn30.form;obtain ⟨B30,e30,rfl⟩:=hd30.form
  refine L.v (R1.loadEF rfl hE30 rfl tyP3) rfl<|L.a rfl rfl<|L.nil<|X.seq<|W.seq<|W.region<|L.a rfl rfl<|L.nil<|X.seq<|W.block<|W.loop (ι:=Nat) (fun j=>[(0,.slice TL cs.length tL),(1,.slice TO os.length tO),(2,vd),(3,.int .i64 ((i:Nat):Int)),(9,.int .i64 ((k:Nat):Int)),(10,.int .i64 z30.v),(11,.int .i64 ((j:Nat):Int))]) (fun j w_=>Lay rdC M w_ (.slice TL cs.length tL) cs∧Lay rdI M w_ (.slice TO os.length tO) os∧w_.ownsRow B9 4 1 vd cs.length (boolsV ds)∧Mod [] w w_∧j≤cs.length∧(∀ a,a<j→z30.v≠os.getD i 0→os.getD a 0=z30.v→ds.getD a false=true)) (fun j=>cs.length - j) 0 ?_ ?_ ?_
  · exact ⟨rfl,rfl,rfl,rfl,rfl,rfl,rfl,trivial⟩
  ·
   exact ⟨hL.su,hO.su,hd,hm0,Nat.zero_le _,(fun a h=>by omega)⟩
  rintro j w2 ⟨hL,hO,hd,hm0,hj,hnj⟩
  refine W.seq<|W.seq<|W.region<|L.m rfl rfl<|L.m rfl rfl<|L.v (R1.lenLay rfl hL tyS22) rfl<|L.v (R1.lt rfl rfl) rfl<|L.nil<|X.seq<|W.cond rfl ?_ ?_
  ·
   intro hc34
   try simp only [bq,ne_eq] at hc34
   refine W.skip<|X.seq<|W.seq<|W.block<|W.seq<|W.region<|L.m rfl rfl<|L.m rfl rfl<|L.m rfl rfl<|L.v (R1.atLay (j:=i) rfl rfl hO tyS29 rfl (by omega)) rfl<|L.v (R1.loadLI rfl hO tyP3 (by omega) (getD_at _)) rfl ?_
   refine L.v ((R1.ne rfl rfl).asB (c:=(decide (z30.v≠os.getD i 0))) (rfl)) rfl<|L.m rfl rfl ?_
   cases hgd43:(decide (z30.v≠os.getD i 0))
   ·
    try simp only [bq,ne_eq] at hgd43
    refine L.off rfl rfl rfl rfl rfl<|L.off rfl rfl rfl rfl rfl<|L.off rfl rfl rfl rfl rfl<|L.off rfl rfl rfl rfl rfl<|L.off rfl rfl rfl rfl rfl<|L.off rfl rfl rfl rfl rfl<|L.v (R1.pickF rfl rfl) rfl<|L.m rfl rfl<|L.off rfl rfl rfl rfl rfl<|L.off rfl rfl rfl rfl rfl<|L.off rfl rfl rfl rfl rfl ?_
    refine L.off rfl rfl rfl rfl rfl<|L.off rfl rfl rfl rfl rfl<|L.v (R1.pickF rfl rfl) rfl<|L.nil<|X.seq<|W.condF rfl<|W.skip<|X.blockEnd<|X.seq<|W.region<|L.m rfl rfl ?_
    refine L.v (R1.addI (b:=1) rfl rfl (by omega)) rfl<|L.a rfl rfl<|L.nil<|X.next (j + 1) ?_ ?_ ?_
    · exact ⟨rfl,rfl,rfl,rfl,rfl,rfl,rfl,trivial⟩
    ·
     refine ⟨hL,hO,hd,hm0,by omega,fun a ha h1 h2=>?_⟩
     rcases Nat.lt_or_ge a j with h9 | h9
     · exact hnj a h9 h1 h2
     obtain rfl:a=j:=by omega
     first | exact hc57 | exact absurd h2 (by assumption) | omega
    first | omega | (dsimp only; omega)
   try simp only [bq,ne_eq] at hgd43
   refine L.on rfl rfl rfl (R1.move rfl) rfl<|L.on rfl rfl rfl (R1.move rfl) rfl<|L.on rfl rfl rfl (R1.atLay (j:=j) rfl rfl hO tyS29 rfl (by omega)) rfl<|L.on rfl rfl rfl (R1.loadLI rfl hO tyP3 (by omega) (getD_at _)) rfl<|L.on rfl rfl rfl (R1.move rfl) rfl<|L.on rfl rfl rfl ((R1.eq rfl rfl).asB (c:=(decide (os.getD j 0=z30.v))) (rfl)) rfl<|L.v (R1.pickT rfl rfl) rfl<|L.m rfl rfl ?_
   cases hgd51:(decide (os.getD j 0=z30.v))
   ·
    try simp only [bq,ne_eq] at hgd51
    refine L.off rfl rfl rfl rfl rfl<|L.off rfl rfl rfl rfl rfl<|L.off rfl rfl rfl rfl rfl<|L.off rfl rfl rfl rfl rfl<|L.off rfl rfl rfl rfl rfl<|L.v (R1.pickF rfl rfl) rfl<|L.nil<|X.seq<|W.condF rfl<|W.skip<|X.blockEnd ?_
    refine X.seq<|W.region<|L.m rfl rfl<|L.v (R1.addI (b:=1) rfl rfl (by omega)) rfl<|L.a rfl rfl<|L.nil<|X.next (j + 1) ?_ ?_ ?_
    · exact ⟨rfl,rfl,rfl,rfl,rfl,rfl,rfl,trivial⟩
    ·
     refine ⟨hL,hO,hd,hm0,by omega,fun a ha h1 h2=>?_⟩
     rcases Nat.lt_or_ge a j with h9 | h9
     · exact hnj a h9 h1 h2
     obtain rfl:a=j:=by omega
     first | exact hc57 | exact absurd h2 (by assumption) | omega
    first | omega | (dsimp only; omega)
   try simp only [bq,ne_eq] at hgd51
   refine L.on rfl rfl rfl (R1.move rfl) rfl<|L.on rfl rfl rfl (R1.move rfl) rfl<|L.on rfl rfl rfl (R1.atOwn (i:=j) rfl rfl hd tyS109 rfl (by omega)) rfl<|L.on rfl rfl rfl (R1.ldBo rfl hd (by omega) tyP4) rfl<|L.on rfl rfl rfl (R1.not rfl) rfl<|L.v (R1.pickT rfl rfl) rfl<|L.nil<|X.seq<|W.cond rfl ?_ ?_
   ·
    intro hc57
    simp only [Bool.not_eq_true',Bool.not_eq_false'] at hc57
    refine W.seq<|W.region<|L.a rfl rfl<|L.nil<|X.seq<|W.ret<|X.blockRet<|X.thenRet<|X.nextRet<|X.blockRet<|X.blockRet ?_
    refine X.thenRet<|X.nextRet<|X.blockRet<|X.thenRet<|X.result1 rfl (.tmp rfl .nil)<|⟨?_,hm0⟩
    have h9:zc.ts.any (PT_ os (waD os ds) i)=true:=List.any_eq_true.2 ⟨z30,List.mem_of_getElem? hz30,by
      simp only [PT_,Bool.and_eq_true,decide_eq_true_eq]
      exact ⟨hgd43,(mem_waD (isC_all hC _ (List.mem_of_getElem? hz30)).1).2 ⟨j,by omega,hc57,hgd51⟩⟩⟩
    rw [h9]; rfl
   intro hc57
   simp only [Bool.not_eq_true',Bool.not_eq_false'] at hc57
   refine W.skip<|X.blockEnd<|X.seq<|W.region<|L.m rfl rfl<|L.v (R1.addI (b:=1) rfl rfl (by omega)) rfl<|L.a rfl rfl<|L.nil<|X.next (j + 1) ?_ ?_ ?_
   · exact ⟨rfl,rfl,rfl,rfl,rfl,rfl,rfl,trivial⟩
   ·
    refine ⟨hL,hO,hd,hm0,by omega,fun a ha h1 h2=>?_⟩
    rcases Nat.lt_or_ge a j with h9 | h9
    · exact hnj a h9 h1 h2
    obtain rfl:a=j:=by omega
    first | exact hc57 | exact absurd h2 (by assumption) | omega
   first | omega | (dsimp only; omega)
  intro hc34
  try simp only [bq,ne_eq] at hc34
  obtain rfl:j=cs.length:=by omega
  refine W.exit<|X.thenExit<|X.nextExit<|X.here<|X.blockEnd<|X.seq<|W.region<|L.m rfl rfl<|L.v (R1.addI (b:=1) rfl rfl (by omega)) rfl<|L.a rfl rfl<|L.nil ?_
  refine X.next (k + 1) ?_ ?_ ?_
  · exact ⟨rfl,rfl,rfl,rfl,rfl,trivial⟩
  ·
   refine ⟨hL,hO,hd,hm0,by omega,fun t ht9=>?_⟩
   obtain ⟨hk9,he9⟩:=List.getElem?_eq_some_iff.1 hz30
   rw [List.take_succ_eq_append_getElem hk9,he9] at ht9
   rcases List.mem_append.1 ht9 with h9 | h9
   · exact hno t h9
   rw [List.mem_singleton.1 h9]
   cases hp:PT_ os (waD os ds) i z30 with
   | false=>rfl
   | true =>
     simp only [PT_,Bool.and_eq_true,decide_eq_true_eq] at hp
     obtain ⟨a,ha1,ha2,ha3⟩:=(mem_waD (isC_all hC _ (List.mem_of_getElem? hz30)).1).1 hp.2
     rw [hnj a (by omega) hp.1 ha3] at ha2; cases ha2
  first | omega | (dsimp only; omega)
 intro hc19
 try simp only [bq,ne_eq] at hc19
 obtain rfl:k=zc.ts.length:=by omega
 refine W.exit<|X.thenExit<|X.nextExit<|X.here<|X.seq<|W.seq<|W.region<|L.a rfl rfl<|L.nil<|X.seq<|W.ret ?_
 refine X.result1 rfl (.tmp rfl .nil) ?_
 rw [List.take_length] at hno
 refine ⟨?_,hm0⟩
 rw [any_no hno]; rfl
set_option maxHeartbeats 1000000 in
theorem c_r14_Order {M : List Nat} {w : World} {vl vo : Value} {cs : List CR} {os : List Int} {z0 : Int} (hL : Lay rdC M w vl cs) (hO : Lay rdI M w vo os) (hbd : Bd M w) (hsm : ∀ c ∈ cs, SmC 1099511627776 c) :
    Ret Tryz.prog 55 #[vl,vo,.int .i64 z0] w (fun r w'=>w'.ownsRow w.heap.size 3 1 r (ordZ z0 cs os).length (intsZ (ordZ z0 cs os))∧Mod [] w w'):=by
 obtain ⟨TL,tL,rfl⟩:=hL.form;obtain ⟨TO,tO,rfl⟩:=hO.form;have hmaxL:=hL.max; unfold maxLen at hmaxL;have hmaxO:=hO.max; unfold maxLen at hmaxO
 refine Ret.of (vs:=[.slice TL cs.length tL,.slice TO os.length tO,.int .i64 z0]) (n:=59) Tryz.func55 rfl rfl rfl rfl ?_
 have hm0:Mod [] w w:=Mod.refl _ _
 refine W.seq<|W.region<|L.a rfl rfl<|L.nil<|X.seq<|W.seq<|W.seq<|W.region<|L.m rfl rfl<|L.m rfl rfl<|L.m rfl rfl ?_
 refine L.call rfl (c_r13_Is hL hO hbd hsm) rfl ?_
 rintro _ w1 ⟨rfl,hm1⟩
 replace hL:=hL.gr hm1;replace hO:=hO.gr hm1;replace hbd:=hbd.gr hm1;replace hm0:=hm0.trans hm1;clear hm1
 refine L.v (R1.not rfl) rfl<|L.nil<|X.seq<|W.cond rfl ?_ ?_
 ·
  intro hc15
  simp only [Bool.not_eq_true',Bool.not_eq_false'] at hc15
  refine W.seq<|W.region<|L.a rfl rfl<|L.nil<|X.seq<|W.ret<|X.thenRet<|X.result1 rfl (.tmp rfl .nil) ?_
  have e9:ordZ z0 cs os=[]:=by unfold ordZ; rw [hc15]; rfl
  rw [e9]
  exact ⟨own_nil _ _ _ _,hm0⟩
 intro hc15
 simp only [Bool.not_eq_true',Bool.not_eq_false'] at hc15
 obtain ⟨hz1,hz2,hcl,hol,hch,hF0⟩:=ChB_true hc15
 refine W.skip<|X.seq<|W.seq<|W.region<|L.m rfl rfl<|L.v (R1.lenLay rfl hL tyS22) rfl<|L.makeSlice (m:=cs.length) rfl rfl rfl rfl tyS109 tyZ4 (by omega) (by unfold maxLen; omega) rfl ?_
 intro g18 w2 hN18
 have hd:=own_madeB (B:=w.heap.size) hN18 hm0.size (by unfold maxLen; omega);replace hL:=hL.new hN18;replace hO:=hO.new hN18;replace hbd:=hbd.new hN18;replace hm0:=hm0.trans (hN18.mod.mono (by simp));clear hN18
 obtain ⟨v18,hv_v18⟩:∃ v,v=Value.slice (some ⟨g18,0,none⟩) cs.length cs.length:=⟨_,rfl⟩
 have hol_v18:ownL v18=[g18]:=by rw [hv_v18]; rfl
 rw [← hv_v18] at hd ⊢
 replace hL:=hL.sub (of_cons hol_v18);replace hO:=hO.sub (of_cons hol_v18);replace hbd:=hbd.sub (of_cons hol_v18);clear hv_v18 hol_v18
 refine L.a rfl rfl<|L.nil<|X.seq<|W.seq<|W.region<|L.a rfl rfl<|L.nil<|X.seq<|W.block<|W.loop (ι:=List Bool × Value × List Nat) (fun (ds,u,al)=>[(0,.slice TL cs.length tL),(1,.slice TO os.length tO),(7,v18),(8,u)]) (fun (ds,u,al) w_=>Lay rdC (ownL u ++ (ownL v18 ++ M)) w_ (.slice TL cs.length tL) cs∧Lay rdI (ownL u ++ (ownL v18 ++ M)) w_ (.slice TO os.length tO) os∧w_.ownsRow w.heap.size 4 1 v18 cs.length (boolsV ds)∧w_.ownsRow w.heap.size 3 1 u al.length (intsZ (al.map fun (k:Nat)=>(k:Int)))∧Away v18 u∧Mod [] w w_∧ds.length=os.length∧al ++ ordT cs os (waD os ds)=ordT cs os os) (fun (ds,u,al)=>pend (waD os ds)) (List.replicate cs.length false,.slice none 0 0,[]) ?_ ?_ ?_
 · exact ⟨rfl,rfl,rfl,rfl,trivial⟩
 ·
  exact ⟨hL.su,hO.su,hd,own_nil _ _ _ _,(fun g h1 h2=>by cases h2),hm0,by simp [hol],by rw [waD_start]; rfl⟩
 rintro ⟨ds,u,al⟩ w3 ⟨hL,hO,hd,hu,haw_hd_hu,hm0,hdl,hal⟩
 refine W.block<|W.seq<|W.region<|L.a rfl rfl<|L.nil<|X.seq<|W.seq<|W.seq<|W.region<|L.a rfl rfl<|L.nil ?_
 refine X.seq<|W.block<|W.loop (ι:=Nat × Option Nat) (fun (i,nx)=>[(0,.slice TL cs.length tL),(1,.slice TO os.length tO),(7,v18),(8,u),(9,.int .i64 (fi nx)),(10,.int .i64 ((i:Nat):Int))]) (fun (i,nx) w_=>Lay rdC (ownL u ++ (ownL v18 ++ M)) w_ (.slice TL cs.length tL) cs∧Lay rdI (ownL u ++ (ownL v18 ++ M)) w_ (.slice TO os.length tO) os∧w_.ownsRow w.heap.size 4 1 v18 cs.length (boolsV ds)∧w_.ownsRow w.heap.size 3 1 u al.length (intsZ (al.map fun (k:Nat)=>(k:Int)))∧Away v18 u∧Mod [] w w_∧i≤cs.length∧((nx=none∧∀ j,j<i→rdW cs os (waD os ds) j=false)∨∃ m,nx=some m∧m<cs.length∧rdW cs os (waD os ds) m=true∧∀ j,j<m→rdW cs os (waD os ds) j=false)) (fun (i,nx)=>cs.length - i) (0,none) ?_ ?_ ?_
 · exact ⟨rfl,rfl,rfl,rfl,rfl,rfl,trivial⟩
 ·
  exact ⟨hL.su,hO.su,hd,hu,haw_hd_hu,hm0,Nat.zero_le _,(.inl ⟨rfl,fun j h=>by omega⟩)⟩
 rintro ⟨i,nx⟩ w4 ⟨hL,hO,hd,hu,haw_hd_hu,hm0,hi,hnx⟩
 refine W.seq<|W.seq<|W.region<|L.m rfl rfl<|L.m rfl rfl<|L.v (R1.lenLay rfl hL tyS22) rfl<|L.v ((R1.lt rfl rfl).asB (c:=(decide ((i:Int)<(cs.length:Int)))) (rfl)) rfl<|L.m rfl rfl ?_
 cases hgd23:(decide ((i:Int)<(cs.length:Int)))
 ·
  try simp only [bq,ne_eq] at hgd23
  refine L.off rfl rfl rfl rfl rfl<|L.off rfl rfl rfl rfl rfl<|L.v (R1.pickF rfl rfl) rfl<|L.nil<|X.seq<|W.condF rfl<|W.exit<|X.thenExit<|X.nextExit<|X.here<|X.seq ?_
  refine W.seq<|W.seq<|W.region<|L.m rfl rfl<|L.v (R1.lt rfl rfl) rfl<|L.nil<|X.seq<|W.cond rfl ?_ ?_
  ·
   intro hc50
   try simp only [bq,ne_eq] at hc50
   refine W.seq<|W.region<|L.m rfl rfl<|L.a rfl rfl<|L.nil<|X.seq<|W.ret<|X.thenRet<|X.blockRet<|X.nextRet<|X.blockRet ?_
   refine X.result1 rfl (.tmp rfl .nil) ?_
   obtain ⟨hnn,hna⟩:nx=none∧∀ j,j<cs.length→rdW cs os (waD os ds) j=false:=by
     rcases hnx with ⟨h9,h8⟩ | ⟨m,rfl,_⟩
     · first | exact ⟨h9,fun j hj=>h8 j (by omega)⟩ | (subst h9; simp [fi] at hc26)
     exact absurd hc50 (by show ¬ ((m:Int)<0); omega)
   have e8:=ordT_stop (fun j hj=>hna j (by omega))
   rw [e8,List.append_nil] at hal
   subst hal
   have e9:ordZ z0 cs os=(ordT cs os os).map (fun (k:Nat)=>(k:Int)):=by unfold ordZ; rw [hc15]; rfl
   rw [e9]
   exact ⟨own_congr hu (by simp) rfl,hm0⟩
  intro hc50
  try simp only [bq,ne_eq] at hc50
  obtain ⟨m,rfl,hm1,hm2,hm3⟩:∃ m,nx=some m∧m<cs.length∧rdW cs os (waD os ds) m=true∧∀ j,j<m→rdW cs os (waD os ds) j=false:=by
    rcases hnx with ⟨rfl,_⟩ | h9
    · exact absurd hc50 (by decide)
    exact h9
  have hst:=ordT_step (by rw [waD_len]) (by omega) hm2 hm3
  refine W.skip<|X.seq<|W.seq<|W.region<|L.m rfl rfl<|L.m rfl rfl<|L.v (R1.atOwn (i:=m) rfl rfl hd tyS109 rfl (by omega)) rfl<|L.storeBo rfl rfl hd (by omega) tyP4 ?_
  intro w5 hd' hm5
  replace hL:=hL.mo hm5;replace hO:=hO.mo hm5;replace hu:=own_away (s':=1) (el':=0) (k':=0) (B':=0) (ys:=[]) hu hm5 (by first | assumption | exact Away.symm (by assumption));replace hm0:=Mod.oldOwn hm0 hm5 hd;clear hm5;replace hd:=hd'; clear hd'
  refine L.nil<|X.seq<|W.region<|L.m rfl rfl<|L.m rfl rfl<|L.build1 rfl rfl tyS29 tyZ3 rfl ?_
  intro g57 w6 hN57
  replace hL:=hL.gr hN57.mod;replace hO:=hO.gr hN57.mod;replace hu:=own_gr hu hN57.mod (by simp);replace hm0:=hm0.trans hN57.mod;replace hd:=own_gr hd hN57.mod (by simp)
  have hrow:Sl [] w6 1 (.slice (some ⟨g57,0,none⟩) 1 1) 1 [.int .i64 (fi (some m))]:=Sl.of_blk hN57.blk 0 (Nat.le_refl _) (by decide) rfl (by simp) (fun j hj=>by simp)
  clear hN57;have hall:=congrArg List.length hal
  rw [List.length_append] at hall
  have hle:=ordT_le cs os os
  refine L.append rfl rfl hu hrow (by simp [Value.oneCell']) tyS29 tyZ3 (by omega) (by unfold maxLen; omega) hm0.size rfl ?_
  intro v58 w7 ho58' hG58
  have haw_hd_hu_:=Away.grew haw_hd_hu hG58 hd;replace hL:=hL.grew2 hG58 (by first | exact mem_own | (intro b hb; simp [hb]));replace hO:=hO.grew2 hG58 (by first | exact mem_own | (intro b hb; simp [hb]));replace hm0:=Mod.oldOwn hm0 hG58.mod hu;replace hd:=own_away (s':=1) (el':=0) (k':=0) (B':=0) (ys:=[]) hd hG58.mod (by first | assumption | exact Away.symm (by assumption));replace haw_hd_hu:=haw_hd_hu_; clear haw_hd_hu_;replace hu:=ho58'; clear ho58';clear hG58
  refine L.a rfl rfl<|L.nil<|X.blockEnd<|X.next (ds.set m true,v58,al ++ [m]) ?_ ?_ ?_
  · exact ⟨rfl,rfl,rfl,rfl,trivial⟩
  ·
   exact ⟨hL.su,hO.su,hd,own_congr hu (by simp) (by rw [natsI_snoc,intsZ_append]; rfl),haw_hd_hu,hm0,by simpa using hdl,by rw [waD_set (by omega) hdl,← hal,hst.1]; simp⟩
  dsimp only; rw [waD_set (by omega) hdl]; exact hst.2
 try simp only [bq,ne_eq] at hgd23
 refine L.on rfl rfl rfl (R1.move rfl) rfl<|L.on rfl rfl rfl ((R1.lt rfl rfl).asB (c:=(decide (fi nx<0))) (rfl)) rfl<|L.v (R1.pickT rfl rfl) rfl<|L.nil<|X.seq<|W.cond rfl ?_ ?_
 ·
  intro hc26
  try simp only [bq,ne_eq] at hc26
  obtain ⟨hnn,hna⟩:nx=none∧∀ j,j<i→rdW cs os (waD os ds) j=false:=by
    rcases hnx with h9 | ⟨m,rfl,_⟩
    · exact h9
    exact absurd hc26 (by show ¬ ((m:Int)<0); omega)
  refine W.skip<|X.seq<|W.seq<|W.block<|W.seq<|W.region<|L.m rfl rfl<|L.m rfl rfl<|L.v (R1.atLay (j:=i) rfl rfl hO tyS29 rfl (by omega)) rfl<|L.v (R1.loadLI rfl hO tyP3 (by omega) (getD_at _)) rfl<|L.v ((R1.ge rfl rfl).asB (c:=(decide (0≤os.getD i 0))) (rfl)) rfl ?_
  refine L.m rfl rfl ?_
  cases hgd34:(decide (0≤os.getD i 0))
  ·
   have hcc_:=hgd34
   refine L.off rfl rfl rfl rfl rfl<|L.off rfl rfl rfl rfl rfl<|L.off rfl rfl rfl rfl rfl<|L.off rfl rfl rfl rfl rfl<|L.off rfl rfl rfl rfl rfl<|L.v (R1.pickF rfl rfl) rfl<|L.m rfl rfl<|L.off rfl rfl rfl rfl rfl<|L.off rfl rfl rfl rfl rfl<|L.off rfl rfl rfl rfl rfl<|L.off rfl rfl rfl rfl rfl ?_
   refine L.off rfl rfl rfl rfl rfl<|L.v (R1.pickF rfl rfl) rfl<|L.nil<|X.seq<|W.condF rfl<|W.skip<|X.blockEnd<|X.seq<|W.region<|L.m rfl rfl<|L.v (R1.addI (b:=1) rfl rfl (by omega)) rfl ?_
   refine L.a rfl rfl<|L.nil<|X.next (i + 1,nx) ?_ ?_ ?_
   · exact ⟨rfl,rfl,rfl,rfl,rfl,rfl,trivial⟩
   ·
    have hr9:rdW cs os (waD os ds) i=false:=by rw [rdW_D hch hol (by omega)]; rw [hgd34]; rfl
    exact ⟨hL.su,hO.su,hd,hu,haw_hd_hu,hm0,by omega,(.inl ⟨hnn,fun j hj=>by rcases Nat.lt_or_ge j i with h9 | h9; exact hna j h9; obtain rfl:j=i:=(by omega); exact hr9⟩)⟩
   first | omega | (dsimp only; omega)
  have hcc_:=hgd34
  refine L.on rfl rfl rfl (R1.move rfl) rfl<|L.on rfl rfl rfl (R1.move rfl) rfl<|L.on rfl rfl rfl (R1.atOwn (i:=i) rfl rfl hd tyS109 rfl (by omega)) rfl<|L.on rfl rfl rfl (R1.ldBo rfl hd (by omega) tyP4) rfl<|L.on rfl rfl rfl (R1.not rfl) rfl<|L.v (R1.pickT rfl rfl) rfl<|L.m rfl rfl ?_
  cases hgd41:(!(ds.getD i false))
  ·
   have hcc_:=hgd41
   refine L.off rfl rfl rfl rfl rfl<|L.off rfl rfl rfl rfl rfl<|L.off rfl rfl rfl rfl rfl<|L.off rfl rfl rfl rfl rfl<|L.off rfl rfl rfl rfl rfl<|L.v (R1.pickF rfl rfl) rfl<|L.nil<|X.seq<|W.condF rfl<|W.skip<|X.blockEnd ?_
   refine X.seq<|W.region<|L.m rfl rfl<|L.v (R1.addI (b:=1) rfl rfl (by omega)) rfl<|L.a rfl rfl<|L.nil<|X.next (i + 1,nx) ?_ ?_ ?_
   · exact ⟨rfl,rfl,rfl,rfl,rfl,rfl,trivial⟩
   ·
    have hr9:rdW cs os (waD os ds) i=false:=by rw [rdW_D hch hol (by omega)]; rw [hgd34,hgd41]; rfl
    exact ⟨hL.su,hO.su,hd,hu,haw_hd_hu,hm0,by omega,(.inl ⟨hnn,fun j hj=>by rcases Nat.lt_or_ge j i with h9 | h9; exact hna j h9; obtain rfl:j=i:=(by omega); exact hr9⟩)⟩
   first | omega | (dsimp only; omega)
  have hcc_:=hgd41
  refine L.on rfl rfl rfl (R1.move rfl) rfl<|L.on rfl rfl rfl (R1.move rfl) rfl<|L.on rfl rfl rfl (R1.move rfl) rfl<|L.on rfl rfl rfl (R1.move rfl) rfl<|L.callOn rfl rfl rfl rfl (c_r14_ready hL hO hd hol (by omega) (hch i (by omega)).1) rfl ?_
  rintro _ w8 ⟨rfl,hm8⟩
  replace hL:=hL.gr hm8;replace hO:=hO.gr hm8;replace hd:=own_gr hd hm8 (by simp);replace hu:=own_gr hu hm8 (by simp);replace hm0:=hm0.trans hm8;clear hm8
  refine L.v (R1.pickT rfl rfl) rfl<|L.nil<|X.seq<|W.cond rfl ?_ ?_
  ·
   intro hc47
   have hcc_:=hc47
   refine W.region<|L.m rfl rfl<|L.a rfl rfl<|L.nil<|X.blockEnd<|X.seq<|W.region<|L.m rfl rfl<|L.v (R1.addI (b:=1) rfl rfl (by omega)) rfl<|L.a rfl rfl<|L.nil ?_
   refine X.next (i + 1,some i) ?_ ?_ ?_
   · exact ⟨rfl,rfl,rfl,rfl,rfl,rfl,trivial⟩
   ·
    exact ⟨hL.su,hO.su,hd,hu,haw_hd_hu,hm0,by omega,(.inr ⟨i,rfl,by omega,by rw [rdW_D hch hol (by omega),hgd34,hgd41,hc47]; rfl,hna⟩)⟩
   first | omega | (dsimp only; omega)
  intro hc47
  have hcc_:=hc47
  refine W.skip<|X.blockEnd<|X.seq<|W.region<|L.m rfl rfl<|L.v (R1.addI (b:=1) rfl rfl (by omega)) rfl<|L.a rfl rfl<|L.nil<|X.next (i + 1,nx) ?_ ?_ ?_
  · exact ⟨rfl,rfl,rfl,rfl,rfl,rfl,trivial⟩
  ·
   have hr9:rdW cs os (waD os ds) i=false:=by rw [rdW_D hch hol (by omega)]; rw [hgd34,hgd41,hc47]; rfl
   exact ⟨hL.su,hO.su,hd,hu,haw_hd_hu,hm0,by omega,(.inl ⟨hnn,fun j hj=>by rcases Nat.lt_or_ge j i with h9 | h9; exact hna j h9; obtain rfl:j=i:=(by omega); exact hr9⟩)⟩
  first | omega | (dsimp only; omega)
 intro hc26
 try simp only [bq,ne_eq] at hc26
 refine W.exit<|X.thenExit<|X.nextExit<|X.here<|X.seq<|W.seq<|W.seq<|W.region<|L.m rfl rfl<|L.v (R1.lt rfl rfl) rfl<|L.nil ?_
 refine X.seq<|W.cond rfl ?_ ?_
 ·
  intro hc50
  try simp only [bq,ne_eq] at hc50
  refine W.seq<|W.region<|L.m rfl rfl<|L.a rfl rfl<|L.nil<|X.seq<|W.ret<|X.thenRet<|X.blockRet<|X.nextRet<|X.blockRet ?_
  refine X.result1 rfl (.tmp rfl .nil) ?_
  obtain ⟨hnn,hna⟩:nx=none∧∀ j,j<cs.length→rdW cs os (waD os ds) j=false:=by
    rcases hnx with ⟨h9,h8⟩ | ⟨m,rfl,_⟩
    · first | exact ⟨h9,fun j hj=>h8 j (by omega)⟩ | (subst h9; simp [fi] at hc26)
    exact absurd hc50 (by show ¬ ((m:Int)<0); omega)
  have e8:=ordT_stop (fun j hj=>hna j (by omega))
  rw [e8,List.append_nil] at hal
  subst hal
  have e9:ordZ z0 cs os=(ordT cs os os).map (fun (k:Nat)=>(k:Int)):=by unfold ordZ; rw [hc15]; rfl
  rw [e9]
  exact ⟨own_congr hu (by simp) rfl,hm0⟩
 intro hc50
 try simp only [bq,ne_eq] at hc50
 obtain ⟨m,rfl,hm1,hm2,hm3⟩:∃ m,nx=some m∧m<cs.length∧rdW cs os (waD os ds) m=true∧∀ j,j<m→rdW cs os (waD os ds) j=false:=by
   rcases hnx with ⟨rfl,_⟩ | h9
   · exact absurd hc50 (by decide)
   exact h9
 have hst:=ordT_step (by rw [waD_len]) (by omega) hm2 hm3
 refine W.skip<|X.seq<|W.seq<|W.region<|L.m rfl rfl<|L.m rfl rfl<|L.v (R1.atOwn (i:=m) rfl rfl hd tyS109 rfl (by omega)) rfl<|L.storeBo rfl rfl hd (by omega) tyP4 ?_
 intro w9 hd' hm9
 replace hL:=hL.mo hm9;replace hO:=hO.mo hm9;replace hu:=own_away (s':=1) (el':=0) (k':=0) (B':=0) (ys:=[]) hu hm9 (by first | assumption | exact Away.symm (by assumption));replace hm0:=Mod.oldOwn hm0 hm9 hd;clear hm9;replace hd:=hd'; clear hd'
 refine L.nil<|X.seq<|W.region<|L.m rfl rfl<|L.m rfl rfl<|L.build1 rfl rfl tyS29 tyZ3 rfl ?_
 intro g57 w10 hN57
 replace hL:=hL.gr hN57.mod;replace hO:=hO.gr hN57.mod;replace hu:=own_gr hu hN57.mod (by simp);replace hm0:=hm0.trans hN57.mod;replace hd:=own_gr hd hN57.mod (by simp)
 have hrow:Sl [] w10 1 (.slice (some ⟨g57,0,none⟩) 1 1) 1 [.int .i64 (fi (some m))]:=Sl.of_blk hN57.blk 0 (Nat.le_refl _) (by decide) rfl (by simp) (fun j hj=>by simp)
 clear hN57;have hall:=congrArg List.length hal
 rw [List.length_append] at hall
 have hle:=ordT_le cs os os
 refine L.append rfl rfl hu hrow (by simp [Value.oneCell']) tyS29 tyZ3 (by omega) (by unfold maxLen; omega) hm0.size rfl ?_
 intro v58 w11 ho58' hG58
 have haw_hd_hu_:=Away.grew haw_hd_hu hG58 hd;replace hL:=hL.grew2 hG58 (by first | exact mem_own | (intro b hb; simp [hb]));replace hO:=hO.grew2 hG58 (by first | exact mem_own | (intro b hb; simp [hb]));replace hm0:=Mod.oldOwn hm0 hG58.mod hu;replace hd:=own_away (s':=1) (el':=0) (k':=0) (B':=0) (ys:=[]) hd hG58.mod (by first | assumption | exact Away.symm (by assumption));replace haw_hd_hu:=haw_hd_hu_; clear haw_hd_hu_;replace hu:=ho58'; clear ho58';clear hG58
 refine L.a rfl rfl<|L.nil<|X.blockEnd<|X.next (ds.set m true,v58,al ++ [m]) ?_ ?_ ?_
 · exact ⟨rfl,rfl,rfl,rfl,trivial⟩
 ·
  exact ⟨hL.su,hO.su,hd,own_congr hu (by simp) (by rw [natsI_snoc,intsZ_append]; rfl),haw_hd_hu,hm0,by simpa using hdl,by rw [waD_set (by omega) hdl,← hal,hst.1]; simp⟩
 dsimp only; rw [waD_set (by omega) hdl]; exact hst.2
end Go.Proofs.YtedokfpoajfflaaGreat
