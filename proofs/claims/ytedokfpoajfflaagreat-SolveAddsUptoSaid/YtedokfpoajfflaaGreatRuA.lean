/- Walks: what the functions compute. -/
import Derived.Test.YtedokfpoajfflaaGreatDeC
namespace Go.Proofs.YtedokfpoajfflaaGreat
open Go.RowKit
set_option linter.unusedVariables false
set_option linter.unusedSimpArgs false
set_option maxRecDepth 10000
def rdW (cs:List CR) (os wa:List Int) (i:Nat):Bool:=decide (wa.getD i 0≠-1) && !((cs.getD i c0R).ts.any fun t=>decide (t.v≠os.getD i 0) && decide (t.v∈wa))
def ordF (cs:List CR) (os:List Int):Nat→List Int→List Nat
  | 0,_=>[]
  | f + 1,wa=>match (List.range os.length).find? (rdW cs os wa) with
    | none=>[]
    | some i=>i :: ordF cs os f (wa.set i (-1))
def pend (wa:List Int):Nat:=wa.countP (fun x=>decide (x≠-1))
def ordT (cs:List CR) (os wa:List Int):List Nat:=ordF cs os (pend wa + 1) wa
theorem pend_set {wa:List Int} {i:Nat} (h:wa.getD i 0≠-1) (hi:i<wa.length):pend (wa.set i (-1))<pend wa:=by
  have e:wa.getD i 0=wa[i]:=by simp [List.getD_eq_getElem?_getD,hi]
  rw [e] at h
  unfold pend
  rw [List.countP_set hi]
  have h1:0<wa.countP (fun x=>decide (x≠-1)):=List.countP_pos_iff.2 ⟨wa[i],List.getElem_mem hi,by simpa using h⟩
  rw [if_pos (show decide (wa[i]≠-1)=true by simpa using h),if_neg (show ¬ decide ((-1:Int)≠-1)=true by decide)]
  omega
theorem find_at {p:Nat→Bool} {m i:Nat} (hi:i<m) (hp:p i=true) (hno:∀ j,j<i→p j=false):(List.range m).find? p=some i:=by
  rw [List.find?_range_eq_some]
  exact ⟨hp,by simpa using hi,fun j hj=>by simp [hno j hj]⟩
theorem find_no {p:Nat→Bool} {m:Nat} (hno:∀ j,j<m→p j=false):(List.range m).find? p=none:=by
  rw [List.find?_range_eq_none]
  intro j hj
  simp [hno j hj]
theorem ordF_stable (cs:List CR) (os:List Int):∀ (f:Nat) (wa:List Int),wa.length=os.length→pend wa<f→ordF cs os f wa=ordF cs os (f + 1) wa
  | 0,wa,_,h=>by omega
  | f + 1,wa,hl,h=>by
    rw [ordF,ordF]
    cases hf:(List.range os.length).find? (rdW cs os wa) with
    | none=>rfl
    | some i =>
      dsimp only
      rw [List.find?_range_eq_some] at hf
      have hi:i<os.length:=by simpa using hf.2.1
      have h1:wa.getD i 0≠-1:=by
        have:=hf.1
        unfold rdW at this
        simp only [Bool.and_eq_true,decide_eq_true_eq] at this
        exact this.1
      have h2:=pend_set h1 (by omega)
      rw [ordF_stable cs os f (wa.set i (-1)) (by simpa using hl) (by omega)]
theorem ordF_any (cs:List CR) (os:List Int) {wa:List Int} (hl:wa.length=os.length):∀ d,ordF cs os (pend wa + 1 + d) wa=ordT cs os wa
  | 0=>rfl
  | d + 1=>by rw [← Nat.add_assoc,← ordF_stable cs os _ wa hl (by omega)]; exact ordF_any cs os hl d
theorem ordT_stop {cs:List CR} {os wa:List Int} (hno:∀ j,j<os.length→rdW cs os wa j=false):ordT cs os wa=[]:=by
  unfold ordT
  rw [ordF,find_no hno]
theorem ordT_step {cs:List CR} {os wa:List Int} {i:Nat} (hl:wa.length=os.length) (hi:i<os.length) (h:rdW cs os wa i=true) (hno:∀ j,j<i→rdW cs os wa j=false):ordT cs os wa=i :: ordT cs os (wa.set i (-1))∧pend (wa.set i (-1))<pend wa:=by
  have h1:wa.getD i 0≠-1:=by
    have:=h
    unfold rdW at this
    simp only [Bool.and_eq_true,decide_eq_true_eq] at this
    exact this.1
  have h2:=pend_set h1 (by omega)
  refine ⟨?_,h2⟩
  rw [show ordT cs os wa=ordF cs os (pend wa + 1) wa from rfl,ordF,find_at hi h hno]
  dsimp only
  congr 1
  have:=ordF_any cs os (wa:=wa.set i (-1)) (by simpa using hl) (pend wa - (pend (wa.set i (-1)) + 1))
  rw [← this]
  congr 1
  omega
def ordZ (z:Int) (cs:List CR) (os:List Int):List Int:=if ChB z cs os=true then (ordT cs os os).map (fun (k:Nat)=>(k:Int)) else []
theorem rdW_false {cs:List CR} {os wa:List Int} {i:Nat} {z:CR} (hz:cs.getD i c0R=z):rdW cs os wa i=(decide (wa.getD i 0≠-1) && !(z.ts.any fun t=>decide (t.v≠os.getD i 0) && decide (t.v∈wa))):=by unfold rdW; rw [hz]
theorem pend_le (wa:List Int):pend wa≤wa.length:=List.countP_le_length
theorem ordF_le (cs:List CR) (os:List Int):∀ (f:Nat) (wa:List Int),(ordF cs os f wa).length≤f
  | 0,_=>Nat.le_refl _
  | f + 1,wa=>by
    rw [ordF]
    split
    · exact Nat.zero_le _
    simp only [List.length_cons]; exact Nat.succ_le_succ (ordF_le cs os f _)
theorem ordT_le (cs:List CR) (os wa:List Int):(ordT cs os wa).length≤wa.length + 1:=Nat.le_trans (ordF_le _ _ _ _) (Nat.succ_le_succ (pend_le wa))
theorem ordF_mem (cs:List CR) (os:List Int):∀ (f:Nat) (wa:List Int) (i:Nat),i∈ordF cs os f wa→i<os.length
  | 0,_,_,h=>by cases h
  | f + 1,wa,i,h=>by
    rw [ordF] at h
    cases hf:(List.range os.length).find? (rdW cs os wa) with
    | none=>rw [hf] at h; cases h
    | some j =>
      rw [hf] at h
      rcases List.mem_cons.1 h with rfl | h
      · rw [List.find?_range_eq_some] at hf; simpa using hf.2.1
      exact ordF_mem cs os f _ i h
theorem natsI_snoc (l:List Nat) (i:Nat):(l ++ [i]).map (fun (k:Nat)=>(k:Int))=l.map (fun (k:Nat)=>(k:Int)) ++ [(i:Int)]:=by simp
theorem c_IndexI {N9 : List Nat} {w : World} {v : Value} {zs : List Int} {x : Int} (hL : Lay rdI N9 w v zs) :
    Ret Tryz.prog 104 #[v,.int .i64 x] w (fun r w'=>∃ z:Int,r=.int .i64 z∧(0≤z↔x∈zs)∧Mod [] w w'):=by
 obtain ⟨T,t,rfl⟩:=hL.form;have hmax:=hL.max; unfold maxLen at hmax
 refine Ret.of (vs:=[.slice T zs.length t,.int .i64 x]) (n:=19) Tryz.func104 rfl rfl rfl rfl ?_
 have hm0:Mod [] w w:=Mod.refl _ _
 refine W.seq<|W.region<|L.a rfl rfl<|L.nil<|X.seq<|W.seq<|W.seq<|W.region<|L.m rfl rfl<|L.v (R1.lenLay rfl hL tyS29) rfl<|L.m rfl rfl ?_
 refine L.nil<|X.seq<|W.block<|W.loop (ι:=Nat) (fun i=>[(0,.slice T zs.length t),(1,.int .i64 x),(7,.int .i64 (zs.length:Int)),(8,.int .i64 (i:Int))]) (fun i w_=>i≤zs.length∧(∀ j,j<i→zs.getD j 0≠x)∧Lay rdI N9 w_ (.slice T zs.length t) zs∧Mod [] w w_) (fun i=>zs.length - i) 0 ?_ ?_ ?_
 · exact ⟨rfl,rfl,rfl,rfl,trivial⟩
 ·
  exact ⟨Nat.zero_le _,(fun j h=>by omega),hL,hm0⟩
 rintro i w1 ⟨hi,hno,hL,hm0⟩
 refine W.seq<|W.region<|L.v (R1.lt rfl rfl) rfl<|L.nil<|X.seq<|W.seq<|W.cond rfl ?_ ?_
 ·
  intro hc9
  try simp only [bq,ne_eq] at hc9
  refine W.skip<|X.seq<|W.seq<|W.block<|W.seq<|W.region<|L.m rfl rfl<|L.a rfl rfl<|L.nil<|X.seq<|W.seq ?_
  refine W.region<|L.m rfl rfl<|L.m rfl rfl<|L.m rfl rfl<|L.v (R1.atLay (j:=i) rfl rfl hL tyS29 rfl (by omega)) rfl<|L.v (R1.loadLI rfl hL tyP3 (by omega) (getD_at _)) rfl<|L.v (R1.eq rfl rfl) rfl<|L.nil<|X.seq<|W.cond rfl ?_ ?_
  ·
   intro hc16
   try simp only [bq,ne_eq] at hc16
   refine W.seq<|W.region<|L.m rfl rfl<|L.a rfl rfl<|L.nil<|X.seq<|W.ret<|X.blockRet<|X.thenRet<|X.nextRet<|X.blockRet ?_
   refine X.thenRet<|X.result1 rfl (.tmp rfl .nil)<|⟨_,rfl,⟨fun _=>?_,fun _=>by omega⟩,hm0⟩
   rw [hc16,← getD_at (show i<zs.length by omega)]; exact List.getElem_mem _
  intro hc16
  try simp only [bq,ne_eq] at hc16
  refine W.skip<|X.blockEnd<|X.seq<|W.region<|L.v (R1.addI (b:=1) rfl rfl (by omega)) rfl<|L.m rfl rfl<|L.nil<|X.next (i + 1) ?_ ?_ ?_
  · exact ⟨rfl,rfl,rfl,rfl,trivial⟩
  ·
   refine ⟨by omega,fun j hj=>?_,hL,hm0⟩
   rcases Nat.lt_or_ge j i with h9 | h9
   · exact hno j h9
   obtain rfl:j=i:=by omega
   omega
  first | omega | (dsimp only; omega)
 intro hc9
 try simp only [bq,ne_eq] at hc9
 obtain rfl:i=zs.length:=by omega
 refine W.exit<|X.thenExit<|X.nextExit<|X.here<|X.seq<|W.seq<|W.region<|L.a rfl rfl<|L.nil<|X.seq<|W.ret ?_
 refine X.result1 rfl (.tmp rfl .nil)<|⟨_,rfl,⟨fun h9=>by omega,fun h9=>?_⟩,hm0⟩
 obtain ⟨j,hj,he⟩:=List.mem_iff_getElem.1 h9
 rw [getD_at hj] at he
 exact absurd he (hno j hj)
theorem c_ContainsI {N9 : List Nat} {w : World} {v : Value} {zs : List Int} {x : Int} (hL : Lay rdI N9 w v zs) :
    Ret Tryz.prog 78 #[v,.int .i64 x] w (fun r w'=>r=.bool (decide (x∈zs))∧Mod [] w w'):=by
 refine Ret.of (vs:=[v,.int .i64 x]) (n:=9) Tryz.func78 rfl rfl rfl rfl ?_
 have hm0:Mod [] w w:=Mod.refl _ _
 refine W.seq<|W.region<|L.a rfl rfl<|L.nil<|X.seq<|W.seq<|W.region<|L.m rfl rfl<|L.m rfl rfl<|L.call rfl (c_IndexI hL) rfl ?_
 rintro _ w1 ⟨z7,rfl,hz7,hm1⟩
 replace hm0:=hm0.trans hm1;clear hm1
 refine L.v ((R1.ge rfl rfl).asB (c:=(decide (x∈zs))) (by congr 1; apply propext; exact hz7)) rfl<|L.a rfl rfl<|L.nil<|X.seq<|W.ret<|X.result1 rfl (.tmp rfl .nil) ?_
 exact ⟨rfl,hm0⟩
theorem c_ordFF {M M2 : List Nat} {w : World} {z : TR} {A B : Option Addr} {c e go gi gw i : Nat} {vo vw : Value} {os wa : List Int} (hbO : Blk w go 29 #[vo]) (hbi : Blk w gi 3 #[.int .i64 (i : Int)]) (hbW : Blk w gw 29 #[vw]) (hO : Lay rdI M w vo os) (hW : Lay rdI M2 w vw wa) (hi : i < os.length) :
    Ret Tryz.prog 77 #[.agg #[.int .i64 z.v,.bool z.c.s,.slice A z.c.n.length c,.slice B z.c.d.length e],.pointer (some ⟨go,0,none⟩),.pointer (some ⟨gi,0,none⟩),.pointer (some ⟨gw,0,none⟩)] w (fun r w'=>r=.bool (decide (z.v≠os.getD i 0) && decide (z.v∈wa))∧Mod [] w w'):=by
 obtain ⟨TO,tO,rfl⟩:=hO.form;obtain ⟨TW,tW,rfl⟩:=hW.form
 refine Ret.of (vs:=[.agg #[.int .i64 z.v,.bool z.c.s,.slice A z.c.n.length c,.slice B z.c.d.length e],.pointer (some ⟨go,0,none⟩),.pointer (some ⟨gi,0,none⟩),.pointer (some ⟨gw,0,none⟩)]) (n:=19) Tryz.func77 rfl rfl rfl rfl ?_
 have hm0:Mod [] w w:=Mod.refl _ _
 refine W.seq<|W.region<|L.box rfl rfl ?_
 intro g4 w1 hN4
 replace hbO:=Blk.gr hbO hN4.mod;replace hbi:=Blk.gr hbi hN4.mod;replace hbW:=Blk.gr hbW hN4.mod;replace hO:=hO.new hN4;replace hW:=hW.new hN4;replace hm0:=hm0.trans (hN4.mod.mono (by simp));have hb4:=hN4.blk;clear hN4
 refine L.a rfl rfl<|L.nil<|X.seq<|W.seq<|W.drawW (T:=[]) rfl (by decide +kernel) (NoHang.then NoHang.post) (fun w2 hm2=>?_)
 replace hbO:=Blk.gr hbO hm2;replace hbi:=Blk.gr hbi hm2;replace hbW:=Blk.gr hbW hm2;replace hO:=hO.gr hm2;replace hW:=hW.gr hm2;replace hm0:=hm0.trans hm2;replace hb4:=Blk.gr hb4 hm2
 have hS1:Mod [] w2 w2:=Mod.refl _ _
 clear hm2;have hbO_s:=hbO;have hbi_s:=hbi;have hbW_s:=hbW;have hO_s:=hO;have hb4_s:=hb4
 refine D.take 0 rfl (by kernel_rfl) (fun w_ hS=>(R1.fieldAt rfl tyF43_0)) hS1 rfl<|D.take 1 rfl (by kernel_rfl) (fun w_ hS=>(R1.loadFld rfl (Blk.gr hb4_s hS) rfl tyP3)) hS1 rfl<|D.take 2 rfl (by kernel_rfl) (fun w_ hS=>(R1.loadFld rfl (Blk.gr hbO_s hS) rfl tyP29)) hS1 rfl<|D.take 3 rfl (by kernel_rfl) (fun w_ hS=>(R1.loadFld rfl (Blk.gr hbi_s hS) rfl tyP3)) hS1 rfl<|D.take 4 rfl (by kernel_rfl) (fun w_ hS=>(R1.atLay (j:=i) rfl rfl (Lay.gr hO_s hS) tyS29 rfl (by omega))) hS1 rfl<|D.take 5 rfl (by kernel_rfl) (fun w_ hS=>(R1.loadLI rfl (Lay.gr hO_s hS) tyP3 (by omega) (getD_at _))) hS1 rfl<|D.take 6 rfl (by kernel_rfl) (fun w_ hS=>((R1.ne rfl rfl).asB (c:=(decide (z.v≠os.getD i 0))) (rfl))) hS1 rfl<|D.m 7 rfl (by kernel_rfl) rfl hS1 rfl ?_
 cases hgd13:(decide (z.v≠os.getD i 0))
 ·
  have hcc_:=hgd13
  refine D.off 8 rfl rfl rfl rfl rfl (by kernel_rfl) hS1 rfl<|D.off 9 rfl rfl rfl rfl rfl (by kernel_rfl) hS1 rfl<|D.off 10 rfl rfl rfl rfl rfl (by kernel_rfl) hS1 rfl<|D.off 11 rfl rfl rfl rfl rfl (by kernel_rfl) hS1 rfl<|D.take 12 rfl (by kernel_rfl) (fun w_ hS=>(R1.pickF rfl rfl)) hS1 rfl<|D.take 13 rfl (by kernel_rfl) (fun w_ hS=>(R1.assign rfl)) hS1 rfl<|D.done (by decide +kernel) ?_ _
  refine X.seq<|W.ret<|X.result1 rfl (.tmp rfl .nil) ?_
  exact ⟨rfl,hm0⟩
 have hcc_:=hgd13
 refine D.takeOn 8 rfl rfl rfl rfl (by kernel_rfl) (fun w_ hS=>(R1.loadFld rfl (Blk.gr hbW_s hS) rfl tyP29)) hS1 rfl<|D.takeOn 9 rfl rfl rfl rfl (by kernel_rfl) (fun w_ hS=>(R1.fieldAt rfl tyF43_0)) hS1 rfl<|D.takeOn 10 rfl rfl rfl rfl (by kernel_rfl) (fun w_ hS=>(R1.loadFld rfl (Blk.gr hb4_s hS) rfl tyP3)) hS1 rfl<|D.one 11 rfl (by kernel_rfl) (fun hX=>?_)
 refine L.callOn rfl rfl rfl rfl (c_ContainsI hW) rfl ?_
 rintro _ w3 ⟨rfl,hm3⟩
 replace hm0:=hm0.trans hm3;replace hS1:=hS1.trans hm3;clear hm3
 refine L.nil (hX _ _ ⟨.inr hS1,?_⟩)
 refine D.take 12 rfl (by kernel_rfl) (fun w_ hS=>(R1.pickT rfl rfl)) hS1 rfl<|D.take 13 rfl (by kernel_rfl) (fun w_ hS=>(R1.assign rfl)) hS1 rfl<|D.done (by decide +kernel) ?_ _
 refine X.seq<|W.ret<|X.result1 rfl (.tmp rfl .nil) ?_
 exact ⟨rfl,hm0⟩
theorem c_ordF {M : List Nat} {w : World} {go gl gw i : Nat} {vl vo vw : Value} {cs : List CR} {os wa : List Int} (hbW : Blk w gw 29 #[vw]) (hbL : Blk w gl 22 #[vl]) (hbO : Blk w go 29 #[vo]) (hL : Lay rdC M w vl cs) (hO : Lay rdI M w vo os) (hW : Lay rdI [] w vw wa) (hwl : wa.length = os.length) (hol : os.length = cs.length) (hi : i < cs.length) :
    Ret Tryz.prog 75 #[.int .i64 ((i:Nat):Int),.pointer (some ⟨gw,0,none⟩),.pointer (some ⟨gl,0,none⟩),.pointer (some ⟨go,0,none⟩)] w (fun r w'=>r=.bool (rdW cs os wa i)∧Mod [] w w'):=by
 obtain ⟨TL,tL,rfl⟩:=hL.form;obtain ⟨TW,tW,rfl⟩:=hW.form
 refine Ret.of (vs:=[.int .i64 ((i:Nat):Int),.pointer (some ⟨gw,0,none⟩),.pointer (some ⟨gl,0,none⟩),.pointer (some ⟨go,0,none⟩)]) (n:=21) Tryz.func75 rfl rfl rfl rfl ?_
 have hm0:Mod [] w w:=Mod.refl _ _
 refine W.seq<|W.region<|L.box rfl rfl ?_
 intro g4 w1 hN4
 replace hbW:=Blk.gr hbW hN4.mod;replace hbL:=Blk.gr hbL hN4.mod;replace hbO:=Blk.gr hbO hN4.mod;replace hL:=hL.new hN4;replace hO:=hO.new hN4;replace hW:=hW.new hN4;replace hm0:=hm0.trans (hN4.mod.mono (by simp));have hb4:=hN4.blk;clear hN4
 refine L.a rfl rfl<|L.nil<|X.seq<|W.seq<|W.region<|L.v (R1.loadFld rfl hbW rfl tyP29) rfl<|L.v (R1.loadFld rfl hb4 rfl tyP3) rfl<|L.v (R1.atLay (j:=i) rfl rfl hW tyS29 rfl (by omega)) rfl<|L.v (R1.loadLI rfl hW tyP3 (by omega) (getD_at _)) rfl<|L.v ((R1.ne rfl rfl).asB (c:=(decide (wa.getD i 0≠-1))) (rfl)) rfl<|L.m rfl rfl ?_
 cases hgd11:(decide (wa.getD i 0≠-1))
 ·
  have hcc_:=hgd11
  refine L.off rfl rfl rfl rfl rfl<|L.off rfl rfl rfl rfl rfl<|L.off rfl rfl rfl rfl rfl<|L.off rfl rfl rfl rfl rfl<|L.off rfl rfl rfl rfl rfl<|L.off rfl rfl rfl rfl rfl<|L.off rfl rfl rfl rfl rfl<|L.off rfl rfl rfl rfl rfl<|L.v (R1.pickF rfl rfl) rfl<|L.a rfl rfl<|L.nil ?_
  refine X.seq<|W.ret<|X.result1 rfl (.tmp rfl .nil)<|⟨?_,hm0⟩
  first
  | (rw [rdW_false (getD_of_get hz16),hgd11]; rfl)
  | (unfold rdW; rw [hgd11]; rfl)
 have hcc_:=hgd11
 refine L.on rfl rfl rfl (R1.loadFld rfl hbL rfl tyP22) rfl<|L.on rfl rfl rfl (R1.loadFld rfl hb4 rfl tyP3) rfl<|L.on rfl rfl rfl (R1.atLay (j:=i) rfl rfl hL tyS22 rfl (by omega)) rfl<|L.on rfl rfl rfl (R1.fieldAddr rfl tyF47_1) rfl ?_
 obtain ⟨z16,cs16,hz16,hE16,vt16,ds16,rfl,ht16,vn16,vd16,rfl,hn16,hd16⟩:=Lay.elemQ hL (j:=i) (by omega);obtain ⟨T16,t16,rfl⟩:=ht16.form;obtain ⟨A16,c16,rfl⟩:=hn16.form;obtain ⟨B16,e16,rfl⟩:=hd16.form
 refine L.on rfl rfl rfl (R1.loadEF rfl hE16 rfl tyP44) rfl<|L.on rfl rfl rfl (R1.makeFunc rfl rfl) rfl ?_
 have hT:TestT Tryz.prog _ 77 [.pointer (some ⟨go,0,none⟩),.pointer (some ⟨g4,0,none⟩),.pointer (some ⟨gw,0,none⟩)] (fun t=>decide (t.v≠os.getD i 0) && decide (t.v∈wa)):=fun w1 z A B c e hm=>c_ordFF (Blk.gr hbO hm) (Blk.gr hb4 hm) (Blk.gr hbW hm) (hO.gr hm) (hW.gr hm) (by omega)
 refine L.callOn rfl rfl rfl rfl (c_ContainsT (p:=(fun t=>decide (t.v≠os.getD i 0) && decide (t.v∈wa))) (us:=[.pointer (some ⟨go,0,none⟩),.pointer (some ⟨g4,0,none⟩),.pointer (some ⟨gw,0,none⟩)]) ht16 hT) rfl ?_
 rintro _ w2 ⟨rfl,hm2⟩
 replace hm0:=hm0.trans hm2;clear hm2
 refine L.on rfl rfl rfl (R1.not rfl) rfl<|L.v (R1.pickT rfl rfl) rfl<|L.a rfl rfl<|L.nil<|X.seq<|W.ret<|X.result1 rfl (.tmp rfl .nil)<|⟨?_,hm0⟩
 first
 | (rw [rdW_false (getD_of_get hz16),hgd11]; rfl)
 | (unfold rdW; rw [hgd11]; rfl)
set_option maxHeartbeats 1000000 in
theorem c_Order {M : List Nat} {w : World} {vl vo : Value} {cs : List CR} {os : List Int} {z0 : Int} (hL : Lay rdC M w vl cs) (hO : Lay rdI M w vo os) (hbd : Bd M w) (hsm : ∀ c ∈ cs, SmC 1099511627776 c) :
    Ret Tryz.prog 46 #[vl,vo,.int .i64 z0] w (fun r w'=>w'.ownsRow w.heap.size 3 1 r (ordZ z0 cs os).length (intsZ (ordZ z0 cs os))∧Mod [] w w'):=by
 obtain ⟨TL,tL,rfl⟩:=hL.form;obtain ⟨TO,tO,rfl⟩:=hO.form;have hmaxL:=hL.max; unfold maxLen at hmaxL;have hmaxO:=hO.max; unfold maxLen at hmaxO
 refine Ret.of (vs:=[.slice TL cs.length tL,.slice TO os.length tO,.int .i64 z0]) (n:=37) Tryz.func46 rfl rfl rfl rfl ?_
 have hm0:Mod [] w w:=Mod.refl _ _
 refine W.seq<|W.region<|L.box rfl rfl ?_
 intro g3 w1 hN3
 replace hL:=hL.new hN3;replace hO:=hO.new hN3;replace hbd:=hbd.new hN3;have hge_g3:=New.ge hN3 hm0.size;replace hm0:=hm0.trans (hN3.mod.mono (by simp));have hb3:=hN3.blk;clear hN3
 refine L.box rfl rfl ?_
 intro g4 w2 hN4
 replace hL:=hL.new hN4;replace hO:=hO.new hN4;replace hbd:=hbd.new hN4;have hge_g4:=New.ge hN4 hm0.size;replace hm0:=hm0.trans (hN4.mod.mono (by simp));have hne_g3_g4:=hb3.ne_ hN4;replace hb3:=Blk.gr hb3 hN4.mod;have hb4:=hN4.blk;clear hN4
 refine L.a rfl rfl<|L.nil<|X.seq<|W.seq<|W.seq<|W.region<|L.v (R1.loadFld rfl hb3 rfl tyP22) rfl<|L.v (R1.loadFld rfl hb4 rfl tyP29) rfl<|L.m rfl rfl<|L.call rfl (c_dIs hL hO hbd hsm) rfl ?_
 rintro _ w3 ⟨rfl,hm3⟩
 replace hL:=hL.gr hm3;replace hO:=hO.gr hm3;replace hbd:=hbd.gr hm3;replace hm0:=hm0.trans hm3;replace hb3:=Blk.gr hb3 hm3;replace hb4:=Blk.gr hb4 hm3;clear hm3
 refine L.v (R1.not rfl) rfl<|L.nil<|X.seq<|W.cond rfl ?_ ?_
 ·
  intro hc15
  simp only [Bool.not_eq_true',Bool.not_eq_false'] at hc15
  refine W.seq<|W.region<|L.a rfl rfl<|L.nil<|X.seq<|W.ret<|X.thenRet<|X.result1 rfl (.tmp rfl .nil) ?_
  have e9:ordZ z0 cs os=[]:=by unfold ordZ; rw [hc15]; rfl
  rw [e9]
  exact ⟨own_nil _ _ _ _,hm0⟩
 intro hc15
 simp only [Bool.not_eq_true',Bool.not_eq_false'] at hc15
 obtain ⟨hz1,hz2,hcl,hol,hch,hF0⟩:=ChB_true hc15
 refine W.skip<|X.seq<|W.seq<|W.region<|L.v (R1.loadFld rfl hb4 rfl tyP29) rfl<|L.call rfl (c_CloneI hO (by omega)) rfl ?_
 rintro v17 w4 ⟨ho17,hm4⟩
 replace hL:=hL.ownd ho17 hm4;replace hO:=hO.ownd ho17 hm4;replace hbd:=hbd.ownd ho17 hm4;have hno_ho17_g3:=own_ne_old ho17 hb3;have hno_ho17_g4:=own_ne_old ho17 hb4;replace ho17:=own_less ho17 hm0.size;replace hm0:=hm0.trans hm4;replace hb3:=Blk.gr hb3 hm4;replace hb4:=Blk.gr hb4 hm4;clear hm4
 refine L.alloc tyZ29 rfl ?_
 intro g7 w5 hN7
 replace hL:=hL.new hN7;replace hO:=hO.new hN7;replace hbd:=hbd.new hN7;have hge_g7:=New.ge hN7 hm0.size;replace hm0:=hm0.trans (hN7.mod.mono (by simp));have hne_g3_g7:=hb3.ne_ hN7;replace hb3:=Blk.gr hb3 hN7.mod;have hne_g4_g7:=hb4.ne_ hN7;replace hb4:=Blk.gr hb4 hN7.mod;have hno_ho17_g7:=own_ne_new ho17 hN7;replace ho17:=own_gr ho17 hN7.mod (by simp);have hb7:=hN7.blk;clear hN7
 refine L.store rfl rfl hb7 (by decide) (own_one ho17) tyP29 ?_
 intro w6 hb7' hm6
 replace hL:=hL.mod hm6 (by simp);replace hO:=hO.mod hm6 (by simp);replace hbd:=hbd.gr hm6;replace hm0:=hm0.old1 hm6 hge_g7;replace hb3:=Blk.far hb3 hm6 (by first | exact hne_g3_g7 | exact (hne_g7_g3).symm);replace hb4:=Blk.far hb4 hm6 (by first | exact hne_g4_g7 | exact (hne_g7_g4).symm);replace ho17:=own_far ho17 hm6 hno_ho17_g7;clear hm6;replace hb7:=hb7'; clear hb7'
 refine L.nil<|X.seq<|W.seq<|W.region<|L.v (R1.makeFunc rfl rfl) rfl<|L.a rfl rfl<|L.nil<|X.seq<|W.seq<|W.region<|L.a rfl rfl ?_
 refine L.nil<|X.seq<|W.seq<|W.seq<|W.region<|L.a rfl rfl<|L.nil<|X.seq<|W.block<|W.loop (ι:=Nat × List Int × Value × List Nat) (fun (i,wa,u,al)=>[(3,.pointer (some ⟨g3,0,none⟩)),(4,.pointer (some ⟨g4,0,none⟩)),(7,.pointer (some ⟨g7,0,none⟩)),(8,.func (.func 75) #[] #[.pointer (some ⟨g7,0,none⟩),.pointer (some ⟨g3,0,none⟩),.pointer (some ⟨g4,0,none⟩)]),(9,u),(10,.int .i64 ((i:Nat):Int))]) (fun (i,wa,u,al) w_=>Lay rdC (ownL u ++ (g7 :: (ownL v17 ++ (g4 :: g3 :: M)))) w_ (.slice TL cs.length tL) cs∧Lay rdI (ownL u ++ (g7 :: (ownL v17 ++ (g4 :: g3 :: M)))) w_ (.slice TO os.length tO) os∧Blk w_ g3 22 #[.slice TL cs.length tL]∧Blk w_ g4 29 #[.slice TO os.length tO]∧Blk w_ g7 29 #[v17]∧w_.ownsRow w.heap.size 3 1 v17 os.length (intsZ wa)∧w_.ownsRow w.heap.size 3 1 u al.length (intsZ (al.map fun (k:Nat)=>(k:Int)))∧v17.ownBlock≠some g3∧v17.ownBlock≠some g4∧v17.ownBlock≠some g7∧u.ownBlock≠some g3∧u.ownBlock≠some g4∧u.ownBlock≠some g7∧Away v17 u∧wa.length=os.length∧(∀ j,j<i→rdW cs os wa j=false)∧i≤cs.length∧al ++ ordT cs os wa=ordT cs os os∧Mod [] w w_) (fun (i,wa,u,al)=>pend wa * (cs.length + 1) + (cs.length - i)) (0,os,.slice none 0 0,[]) ?_ ?_ ?_
 · exact ⟨rfl,rfl,rfl,rfl,rfl,rfl,trivial⟩
 ·
  exact ⟨hL.su,hO.su,hb3,hb4,hb7,ho17,own_nil _ _ _ _,hno_ho17_g3,hno_ho17_g4,hno_ho17_g7,(fun h=>by cases h),(fun h=>by cases h),(fun h=>by cases h),(fun g h1 h2=>by cases h2),rfl,(fun j h=>by omega),Nat.zero_le _,rfl,hm0⟩
 rintro ⟨i,wa,u,al⟩ w7 ⟨hL,hO,hb3,hb4,hb7,ho17,hu,hno_ho17_g3,hno_ho17_g4,hno_ho17_g7,hno_hu_g3,hno_hu_g4,hno_hu_g7,haw_ho17_hu,hwl,hno,hi,hal,hm0⟩
 refine W.seq<|W.seq<|W.region<|L.m rfl rfl<|L.v (R1.loadFld rfl hb3 rfl tyP22) rfl<|L.v (R1.lenLay rfl hL tyS22) rfl<|L.v (R1.lt rfl rfl) rfl<|L.nil<|X.seq<|W.cond rfl ?_ ?_
 ·
  intro hc22
  try simp only [bq,ne_eq] at hc22
  refine W.skip<|X.seq<|W.block<|W.seq<|W.seq<|W.region<|L.m rfl rfl<|L.m rfl rfl<|L.callV rfl rfl (c_ordF hb7 hb3 hb4 hL hO (Lay.of_Z ho17 (by simp)) hwl hol (by omega)) rfl ?_
  rintro _ w8 ⟨rfl,hm8⟩
  replace hL:=hL.gr hm8;replace hO:=hO.gr hm8;replace hb3:=Blk.gr hb3 hm8;replace hb4:=Blk.gr hb4 hm8;replace hb7:=Blk.gr hb7 hm8;replace ho17:=own_gr ho17 hm8 (by simp);replace hu:=own_gr hu hm8 (by simp);replace hm0:=hm0.trans hm8;clear hm8
  refine L.v (R1.not rfl) rfl<|L.nil<|X.seq<|W.cond rfl ?_ ?_
  ·
   intro hc26
   simp only [Bool.not_eq_true',Bool.not_eq_false'] at hc26
   refine W.seq<|W.region<|L.m rfl rfl<|L.v (R1.addI (b:=1) rfl rfl (by omega)) rfl<|L.a rfl rfl<|L.nil<|X.seq<|W.exit<|X.thenExit<|X.here<|X.next (i + 1,wa,u,al) ?_ ?_ ?_
   · exact ⟨rfl,rfl,rfl,rfl,rfl,rfl,trivial⟩
   ·
    exact ⟨hL.su,hO.su,hb3,hb4,hb7,ho17,hu,hno_ho17_g3,hno_ho17_g4,hno_ho17_g7,hno_hu_g3,hno_hu_g4,hno_hu_g7,haw_ho17_hu,hwl,(fun j hj=>by rcases Nat.lt_or_ge j i with h9 | h9; exact hno j h9; obtain rfl:j=i:=(by omega); exact hc26),by omega,hal,hm0⟩
   first | omega | (dsimp only; omega) | (dsimp only; have h9:=Nat.mul_le_mul_right (cs.length + 1) hst.2; rw [Nat.succ_mul] at h9; omega)
  intro hc26
  simp only [Bool.not_eq_true',Bool.not_eq_false'] at hc26
  have hst:=ordT_step hwl (by omega) hc26 hno
  refine W.skip<|X.seq<|W.seq<|W.region<|L.v ((R1.loadFld rfl hb7 rfl tyP29).asV (v:=v17) rfl) rfl<|L.m rfl rfl<|L.v (R1.atOwn (i:=i) rfl rfl ho17 tyS29 rfl (by omega)) rfl<|L.storeZ rfl rfl ho17 (by omega) tyP3 ?_
  intro w9 ho17' hm9
  replace hL:=hL.mo hm9;replace hO:=hO.mo hm9;replace hb3:=Blk.ownfar hb3 hm9 hno_ho17_g3;replace hb4:=Blk.ownfar hb4 hm9 hno_ho17_g4;replace hb7:=Blk.ownfar hb7 hm9 hno_ho17_g7;replace hu:=own_away (s':=1) (el':=0) (k':=0) (B':=0) (ys:=[]) hu hm9 (by first | assumption | exact Away.symm (by assumption));replace hm0:=Mod.oldOwn hm0 hm9 ho17;clear hm9;replace ho17:=ho17'; clear ho17'
  refine L.nil<|X.seq<|W.seq<|W.region<|L.m rfl rfl<|L.m rfl rfl<|L.build1 rfl rfl tyS29 tyZ3 rfl ?_
  intro g34 w10 hN34
  replace hL:=hL.gr hN34.mod;replace hO:=hO.gr hN34.mod;replace hb3:=Blk.gr hb3 hN34.mod;replace hb4:=Blk.gr hb4 hN34.mod;replace hb7:=Blk.gr hb7 hN34.mod;replace hu:=own_gr hu hN34.mod (by simp);replace hm0:=hm0.trans hN34.mod;replace ho17:=own_gr ho17 hN34.mod (by simp)
  have hrow:Sl [] w10 1 (.slice (some ⟨g34,0,none⟩) 1 1) 1 [.int .i64 ((i:Nat):Int)]:=Sl.of_blk hN34.blk 0 (Nat.le_refl _) (by decide) rfl (by simp) (fun j hj=>by simp)
  clear hN34;have hall:=congrArg List.length hal
  rw [List.length_append] at hall
  have hle:=ordT_le cs os os
  refine L.append rfl rfl hu hrow (by simp [Value.oneCell']) tyS29 tyZ3 (by omega) (by unfold maxLen; omega) hm0.size rfl ?_
  intro v35 w11 ho35' hG35
  have haw_ho17_hu_:=Away.grew haw_ho17_hu hG35 ho17;replace hL:=hL.grew2 hG35 (by first | exact mem_own | (intro b hb; simp [hb]));replace hO:=hO.grew2 hG35 (by first | exact mem_own | (intro b hb; simp [hb]));have hnn_g3:=hG35.ne hno_hu_g3 hb3;replace hb3:=Blk.grew hb3 hG35 hno_hu_g3;replace hno_hu_g3:=hnn_g3;have hnn_g4:=hG35.ne hno_hu_g4 hb4;replace hb4:=Blk.grew hb4 hG35 hno_hu_g4;replace hno_hu_g4:=hnn_g4;have hnn_g7:=hG35.ne hno_hu_g7 hb7;replace hb7:=Blk.grew hb7 hG35 hno_hu_g7;replace hno_hu_g7:=hnn_g7;replace hm0:=Mod.oldOwn hm0 hG35.mod hu;replace ho17:=own_away (s':=1) (el':=0) (k':=0) (B':=0) (ys:=[]) ho17 hG35.mod (by first | assumption | exact Away.symm (by assumption));replace haw_ho17_hu:=haw_ho17_hu_; clear haw_ho17_hu_;replace hu:=ho35'; clear ho35';clear hG35
  refine L.a rfl rfl<|L.nil<|X.seq<|W.region<|L.a rfl rfl<|L.nil<|X.blockEnd<|X.next (0,wa.set i (-1),v35,al ++ [i]) ?_ ?_ ?_
  · exact ⟨rfl,rfl,rfl,rfl,rfl,rfl,trivial⟩
  ·
   exact ⟨hL.su,hO.su,hb3,hb4,hb7,ho17,own_congr hu (by simp) (by rw [natsI_snoc,intsZ_append]; rfl),hno_ho17_g3,hno_ho17_g4,hno_ho17_g7,hno_hu_g3,hno_hu_g4,hno_hu_g7,haw_ho17_hu,by simpa using hwl,(fun j h=>by omega),Nat.zero_le _,by rw [← hal,hst.1]; simp,hm0⟩
  first | omega | (dsimp only; omega) | (dsimp only; have h9:=Nat.mul_le_mul_right (cs.length + 1) hst.2; rw [Nat.succ_mul] at h9; omega)
 intro hc22
 try simp only [bq,ne_eq] at hc22
 obtain rfl:i=cs.length:=by omega
 refine W.exit<|X.thenExit<|X.nextExit<|X.here<|X.seq<|W.seq<|W.region<|L.m rfl rfl<|L.a rfl rfl<|L.nil<|X.seq ?_
 refine W.ret<|X.result1 rfl (.tmp rfl .nil) ?_
 have e8:=ordT_stop (wa:=wa) (fun j hj=>hno j (by omega))
 rw [e8,List.append_nil] at hal
 subst hal
 have e9:ordZ z0 cs os=(ordT cs os os).map (fun (k:Nat)=>(k:Int)):=by unfold ordZ; rw [hc15]; rfl
 rw [e9]
 exact ⟨own_congr hu (by simp) rfl,hm0⟩
end Go.Proofs.YtedokfpoajfflaaGreat
