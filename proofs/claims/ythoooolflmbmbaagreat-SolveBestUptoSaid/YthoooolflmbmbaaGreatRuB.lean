/- Several texts in one. -/
import Derived.Test.YthoooolflmbmbaaGreatDeC
section
namespace Go.Proofs.YthoooolflmbmbaaGreat
open Go.RowKit
set_option linter.unusedVariables false
set_option linter.unusedSimpArgs false
set_option maxRecDepth 10000
def rdW (cs:List CR) (os wa:List Int) (i:Nat):Bool:=decide (wa.getD i 0≠-1) && !((cs.getD i c0R).ts.any fun t=>decide (t.v≠os.getD i 0) && decide (t.v∈wa))
def ordF (cs:List CR) (os:List Int):Nat→List Int→List Nat
  | 0,_=>[]
  | f + 1,wa=>match (List.range os.length).find? (rdW cs os wa) with
    | none=>[]
    | some i=>i :: ordF cs os f (wa.set i (-1))
def pend (wa:List Int):Nat:=wa.countP (fun x=>decide (x≠-1))
def ordT (cs:List CR) (os wa:List Int):List Nat:=ordF cs os (pend wa + 1) wa
theorem pend_set {wa:List Int} {i:Nat} (h:wa.getD i 0≠-1) (hi:i<wa.length):pend (wa.set i (-1))<pend wa:=by
  have e:wa.getD i 0=wa[i]:=by simp [List.getD_eq_getElem?_getD,hi]
  rw [e] at h
  unfold pend
  rw [List.countP_set hi]
  have h1:0<wa.countP (fun x=>decide (x≠-1)):=List.countP_pos_iff.2 ⟨wa[i],List.getElem_mem hi,by simpa using h⟩
  rw [if_pos (show decide (wa[i]≠-1)=true by simpa using h),if_neg (show ¬ decide ((-1:Int)≠-1)=true by decide)]
  omega
theorem find_at {p:Nat→Bool} {m i:Nat} (hi:i<m) (hp:p i=true) (hno:∀ j,j<i→p j=false):(List.range m).find? p=some i:=by
  rw [List.find?_range_eq_some]
  exact ⟨hp,by simpa using hi,fun j hj=>by simp [hno j hj]⟩
theorem find_no {p:Nat→Bool} {m:Nat} (hno:∀ j,j<m→p j=false):(List.range m).find? p=none:=by
  rw [List.find?_range_eq_none]
  intro j hj
  simp [hno j hj]
theorem ordF_stable (cs:List CR) (os:List Int):∀ (f:Nat) (wa:List Int),wa.length=os.length→pend wa<f→ordF cs os f wa=ordF cs os (f + 1) wa
  | 0,wa,_,h=>by omega
  | f + 1,wa,hl,h=>by
    rw [ordF,ordF]
    cases hf:(List.range os.length).find? (rdW cs os wa) with
    | none=>rfl
    | some i =>
      dsimp only
      rw [List.find?_range_eq_some] at hf
      have hi:i<os.length:=by simpa using hf.2.1
      have h1:wa.getD i 0≠-1:=by
        have:=hf.1
        unfold rdW at this
        simp only [Bool.and_eq_true,decide_eq_true_eq] at this
        exact this.1
      have h2:=pend_set h1 (by omega)
      rw [ordF_stable cs os f (wa.set i (-1)) (by simpa using hl) (by omega)]
theorem ordF_any (cs:List CR) (os:List Int) {wa:List Int} (hl:wa.length=os.length):∀ d,ordF cs os (pend wa + 1 + d) wa=ordT cs os wa
  | 0=>rfl
  | d + 1=>by rw [← Nat.add_assoc,← ordF_stable cs os _ wa hl (by omega)]; exact ordF_any cs os hl d
theorem ordT_stop {cs:List CR} {os wa:List Int} (hno:∀ j,j<os.length→rdW cs os wa j=false):ordT cs os wa=[]:=by
  unfold ordT
  rw [ordF,find_no hno]
theorem ordT_step {cs:List CR} {os wa:List Int} {i:Nat} (hl:wa.length=os.length) (hi:i<os.length) (h:rdW cs os wa i=true) (hno:∀ j,j<i→rdW cs os wa j=false):ordT cs os wa=i :: ordT cs os (wa.set i (-1))∧pend (wa.set i (-1))<pend wa:=by
  have h1:wa.getD i 0≠-1:=by
    have:=h
    unfold rdW at this
    simp only [Bool.and_eq_true,decide_eq_true_eq] at this
    exact this.1
  have h2:=pend_set h1 (by omega)
  refine ⟨?_,h2⟩
  rw [show ordT cs os wa=ordF cs os (pend wa + 1) wa from rfl,ordF,find_at hi h hno]
  dsimp only
  congr 1
  have:=ordF_any cs os (wa:=wa.set i (-1)) (by simpa using hl) (pend wa - (pend (wa.set i (-1)) + 1))
  rw [← this]
  congr 1
  omega
def ordZ (z:Int) (cs:List CR) (os:List Int):List Int:=if ChB z cs os=true then (ordT cs os os).map (fun (k:Nat)=>(k:Int)) else []
theorem rdW_false {cs:List CR} {os wa:List Int} {i:Nat} {z:CR} (hz:cs.getD i c0R=z):rdW cs os wa i=(decide (wa.getD i 0≠-1) && !(z.ts.any fun t=>decide (t.v≠os.getD i 0) && decide (t.v∈wa))):=by unfold rdW; rw [hz]
theorem pend_le (wa:List Int):pend wa≤wa.length:=List.countP_le_length
theorem ordF_le (cs:List CR) (os:List Int):∀ (f:Nat) (wa:List Int),(ordF cs os f wa).length≤f
  | 0,_=>Nat.le_refl _
  | f + 1,wa=>by
    rw [ordF]
    split
    · exact Nat.zero_le _
    simp only [List.length_cons]; exact Nat.succ_le_succ (ordF_le cs os f _)
theorem ordT_le (cs:List CR) (os wa:List Int):(ordT cs os wa).length≤wa.length + 1:=Nat.le_trans (ordF_le _ _ _ _) (Nat.succ_le_succ (pend_le wa))
theorem ordF_mem (cs:List CR) (os:List Int):∀ (f:Nat) (wa:List Int) (i:Nat),i∈ordF cs os f wa→i<os.length
  | 0,_,_,h=>by cases h
  | f + 1,wa,i,h=>by
    rw [ordF] at h
    cases hf:(List.range os.length).find? (rdW cs os wa) with
    | none=>rw [hf] at h; cases h
    | some j =>
      rw [hf] at h
      rcases List.mem_cons.1 h with rfl | h
      · rw [List.find?_range_eq_some] at hf; simpa using hf.2.1
      exact ordF_mem cs os f _ i h
theorem natsI_snoc (l:List Nat) (i:Nat):(l ++ [i]).map (fun (k:Nat)=>(k:Int))=l.map (fun (k:Nat)=>(k:Int)) ++ [(i:Int)]:=by simp
theorem c_IndexI {N9 : List Nat} {w : World} {v : Value} {zs : List Int} {x : Int} (hL : Lay rdI N9 w v zs) :
    Ret Tryz.prog 111 #[v,.int .i64 x] w (fun r w'=>∃ z:Int,r=.int .i64 z∧(0≤z↔x∈zs)∧Mod [] w w'):=by
 obtain ⟨T,t,rfl⟩:=hL.form;have hmax:=hL.max; unfold maxLen at hmax
 refine Ret.of (vs:=[.slice T zs.length t,.int .i64 x]) (n:=19) Tryz.func111 rfl rfl rfl rfl ?_
 have C0:Mod [] w w:=Mod.refl _ _
 refine W.sr<|L.b rfl<|L.z<|W.seq<|W.sr<|L.k rfl<|L.lL rfl hL Q26<|L.k rfl ?_
 refine L.z<|W.block<|W.loop (ι:=Nat) (fun i=>[(0,.slice T zs.length t),(1,.int .i64 x),(7,.int .i64 (zs.length:Int)),(8,.int .i64 (i:Int))]) (fun i w_=>i≤zs.length∧(∀ j,j<i→zs.getD j 0≠x)∧Lay rdI N9 w_ (.slice T zs.length t) zs∧Mod [] w w_) (fun i=>zs.length - i) 0 ?_ ?_ ?_
 · repeat' constructor
 ·
  exact ⟨Nat.zero_le _,(fun j h=>by omega),hL,C0⟩
 rintro i w1 ⟨hi,hno,hL,C0⟩
 refine W.sr<|L.lt rfl rfl<|L.z<|W.seq<|W.cond rfl ?_ ?_
 ·
  intro J9
  try simp only [bq,ne_eq] at J9
  refine W.skip<|X.seq<|W.seq<|W.block<|W.sr<|L.k rfl<|L.b rfl<|L.z<|W.seq ?_
  refine W.region<|L.k rfl<|L.k rfl<|L.k rfl<|L.aL (j:=i) rfl rfl hL Q26 rfl (by omega)<|L.v (R1.loadLI rfl hL tyP3 (by omega) (getD_at _)) rfl<|L.v (R1.eq rfl rfl) rfl<|L.z<|W.cond rfl ?_ ?_
  ·
   intro J16
   try simp only [bq,ne_eq] at J16
   refine W.sr<|L.k rfl<|L.b rfl<|L.z<|W.ret<|X.blockRet<|X.thenRet<|X.nextRet<|X.blockRet ?_
   refine X.thenRet<|X.result1 rfl (.tmp rfl .nil)<|⟨_,rfl,⟨fun _=>?_,fun _=>by omega⟩,C0⟩
   rw [J16,← getD_at (show i<zs.length by omega)]; exact List.getElem_mem _
  intro J16
  try simp only [bq,ne_eq] at J16
  refine W.skip<|X.blockEnd<|X.seq<|W.region<|L.inc rfl rfl (by omega)<|L.k rfl<|L.nil<|X.next (i + 1) ?_ ?_ ?_
  · repeat' constructor
  ·
   refine ⟨by omega,fun j hj=>?_,hL,C0⟩
   rcases Nat.lt_or_ge j i with h9 | h9
   · exact hno j h9
   obtain rfl:j=i:=by omega
   omega
  first | omega | (dsimp only; omega)
 intro J9
 try simp only [bq,ne_eq] at J9
 obtain rfl:i=zs.length:=by omega
 refine W.brk<|W.sr<|L.b rfl<|L.z<|W.ret ?_
 refine X.result1 rfl (.tmp rfl .nil)<|⟨_,rfl,⟨fun h9=>by omega,fun h9=>?_⟩,C0⟩
 obtain ⟨j,hj,he⟩:=List.mem_iff_getElem.1 h9
 rw [getD_at hj] at he
 exact absurd he (hno j hj)
theorem c_ContainsI {N9 : List Nat} {w : World} {v : Value} {zs : List Int} {x : Int} (hL : Lay rdI N9 w v zs) :
    Ret Tryz.prog 78 #[v,.int .i64 x] w (fun r w'=>r=.bool (decide (x∈zs))∧Mod [] w w'):=by
 refine Ret.of (vs:=[v,.int .i64 x]) (n:=9) Tryz.func78 rfl rfl rfl rfl ?_
 have C0:Mod [] w w:=Mod.refl _ _
 refine W.sr<|L.b rfl<|L.z<|W.sr<|L.k rfl<|L.k rfl<|L.c rfl (c_IndexI hL) ?_
 rintro _ w1 ⟨z7,rfl,P7,C1⟩
 replace C0:=C0.trans C1;clear C1
 refine L.v ((R1.ge rfl rfl).asB (c:=(decide (x∈zs))) (by congr 1; apply propext; exact P7)) rfl<|L.b rfl<|L.z<|W.ret<|X.result1 rfl (.tmp rfl .nil) ?_
 exact ⟨rfl,C0⟩
theorem c_ordFF {M M2 : List Nat} {w : World} {z : TR} {A B : Option Addr} {c e go gi gw i : Nat} {vo vw : Value} {os wa : List Int} (hbO : Blk w go 26 #[vo]) (hbi : Blk w gi 3 #[.int .i64 (i : Int)]) (hbW : Blk w gw 26 #[vw]) (hO : Lay rdI M w vo os) (hW : Lay rdI M2 w vw wa) (hi : i < os.length) :
    Ret Tryz.prog 77 #[.agg #[.int .i64 z.v,.bool z.c.s,.slice A z.c.n.length c,.slice B z.c.d.length e],.pointer (some ⟨go,0,none⟩),.pointer (some ⟨gi,0,none⟩),.pointer (some ⟨gw,0,none⟩)] w (fun r w'=>r=.bool (decide (z.v≠os.getD i 0) && decide (z.v∈wa))∧Mod [] w w'):=by
 obtain ⟨TO,tO,rfl⟩:=hO.form;obtain ⟨TW,tW,rfl⟩:=hW.form
 refine Ret.of (vs:=[.agg #[.int .i64 z.v,.bool z.c.s,.slice A z.c.n.length c,.slice B z.c.d.length e],.pointer (some ⟨go,0,none⟩),.pointer (some ⟨gi,0,none⟩),.pointer (some ⟨gw,0,none⟩)]) (n:=19) Tryz.func77 rfl rfl rfl rfl ?_
 have C0:Mod [] w w:=Mod.refl _ _
 refine W.sr<|L.box rfl rfl ?_
 intro g4 w1 D4
 replace hbO:=hbO.gr D4.mod;replace hbi:=hbi.gr D4.mod;replace hbW:=hbW.gr D4.mod;replace hO:=hO.new D4;replace hW:=hW.new D4;replace C0:=C0.tn D4;have E4:=D4.blk;clear D4
 refine L.b rfl<|L.z<|W.seq<|W.drawW (T:=[]) rfl (by decide +kernel) (NoHang.then NoHang.post) (fun w2 C2=>?_)
 replace hbO:=hbO.gr C2;replace hbi:=hbi.gr C2;replace hbW:=hbW.gr C2;replace hO:=hO.gr C2;replace hW:=hW.gr C2;replace C0:=C0.trans C2;replace E4:=E4.gr C2
 have G1:Mod [] w2 w2:=Mod.refl _ _
 clear C2;have hbO_s:=hbO;have hbi_s:=hbi;have hbW_s:=hbW;have hO_s:=hO;have hb4_s:=E4
 refine D.t 0 rfl (by kernel_rfl) (fun _ hS=>R1.fieldAt rfl tyF47_0) G1<|D.t 1 rfl (by kernel_rfl) (fun _ hS=>R1.loadFld rfl (hb4_s.gr hS) rfl tyP3) G1<|D.t 2 rfl (by kernel_rfl) (fun _ hS=>R1.loadFld rfl (hbO_s.gr hS) rfl tyP26) G1<|D.t 3 rfl (by kernel_rfl) (fun _ hS=>R1.loadFld rfl (hbi_s.gr hS) rfl tyP3) G1<|D.t 4 rfl (by kernel_rfl) (fun _ hS=>R1.atLay (j:=i) rfl rfl (Lay.gr hO_s hS) Q26 rfl (by omega)) G1<|D.t 5 rfl (by kernel_rfl) (fun _ hS=>R1.loadLI rfl (Lay.gr hO_s hS) tyP3 (by omega) (getD_at _)) G1<|D.t 6 rfl (by kernel_rfl) (fun _ hS=>(R1.ne rfl rfl).asB (c:=(decide (z.v≠os.getD i 0))) (rfl)) G1<|D.z 7 rfl (by kernel_rfl) rfl G1 ?_
 cases W13:(decide (z.v≠os.getD i 0))
 ·
  have hcc_:=W13
  refine D.o 8 rfl rfl (by kernel_rfl) G1<|D.o 9 rfl rfl (by kernel_rfl) G1<|D.o 10 rfl rfl (by kernel_rfl) G1<|D.o 11 rfl rfl (by kernel_rfl) G1<|D.t 12 rfl (by kernel_rfl) (fun _ hS=>R1.pickF rfl rfl) G1<|D.t 13 rfl (by kernel_rfl) (fun _ hS=>R1.assign rfl) G1<|D.done (by decide +kernel) ?_ _
  refine X.seq<|W.ret<|X.result1 rfl (.tmp rfl .nil) ?_
  exact ⟨rfl,C0⟩
 have hcc_:=W13
 refine D.u 8 rfl rfl (by kernel_rfl) (fun _ hS=>R1.loadFld rfl (hbW_s.gr hS) rfl tyP26) G1<|D.u 9 rfl rfl (by kernel_rfl) (fun _ hS=>R1.fieldAt rfl tyF47_0) G1<|D.u 10 rfl rfl (by kernel_rfl) (fun _ hS=>R1.loadFld rfl (hb4_s.gr hS) rfl tyP3) G1<|D.one 11 rfl (by kernel_rfl) (fun hX=>?_)
 refine L.callOn rfl rfl rfl rfl (c_ContainsI hW) rfl ?_
 rintro _ w3 ⟨rfl,C3⟩
 replace C0:=C0.trans C3;replace G1:=G1.trans C3;clear C3
 refine L.nil (hX _ _ ⟨.inr G1,?_⟩)
 refine D.t 12 rfl (by kernel_rfl) (fun _ hS=>R1.pickT rfl rfl) G1<|D.t 13 rfl (by kernel_rfl) (fun _ hS=>R1.assign rfl) G1<|D.done (by decide +kernel) ?_ _
 refine X.seq<|W.ret<|X.result1 rfl (.tmp rfl .nil) ?_
 exact ⟨rfl,C0⟩
theorem c_ordF {M : List Nat} {w : World} {go gl gw i : Nat} {vl vo vw : Value} {cs : List CR} {os wa : List Int} (hbW : Blk w gw 26 #[vw]) (hbL : Blk w gl 22 #[vl]) (hbO : Blk w go 26 #[vo]) (hL : Lay rdC M w vl cs) (hO : Lay rdI M w vo os) (hW : Lay rdI [] w vw wa) (hwl : wa.length = os.length) (hol : os.length = cs.length) (hi : i < cs.length) :
    Ret Tryz.prog 75 #[.int .i64 ((i:Nat):Int),.pointer (some ⟨gw,0,none⟩),.pointer (some ⟨gl,0,none⟩),.pointer (some ⟨go,0,none⟩)] w (fun r w'=>r=.bool (rdW cs os wa i)∧Mod [] w w'):=by
 obtain ⟨TL,tL,rfl⟩:=hL.form;obtain ⟨TW,tW,rfl⟩:=hW.form
 refine Ret.of (vs:=[.int .i64 ((i:Nat):Int),.pointer (some ⟨gw,0,none⟩),.pointer (some ⟨gl,0,none⟩),.pointer (some ⟨go,0,none⟩)]) (n:=21) Tryz.func75 rfl rfl rfl rfl ?_
 have C0:Mod [] w w:=Mod.refl _ _
 refine W.sr<|L.box rfl rfl ?_
 intro g4 w1 D4
 replace hbW:=hbW.gr D4.mod;replace hbL:=hbL.gr D4.mod;replace hbO:=hbO.gr D4.mod;replace hL:=hL.new D4;replace hO:=hO.new D4;replace hW:=hW.new D4;replace C0:=C0.tn D4;have E4:=D4.blk;clear D4
 refine L.b rfl<|L.z<|W.sr<|L.lF rfl hbW rfl tyP26<|L.lF rfl E4 rfl tyP3<|L.aL (j:=i) rfl rfl hW Q26 rfl (by omega)<|L.v (R1.loadLI rfl hW tyP3 (by omega) (getD_at _)) rfl<|L.v ((R1.ne rfl rfl).asB (c:=(decide (wa.getD i 0≠-1))) (rfl)) rfl<|L.k rfl ?_
 cases W11:(decide (wa.getD i 0≠-1))
 ·
  have hcc_:=W11
  refine L.o rfl<|L.o rfl<|L.o rfl<|L.o rfl<|L.o rfl<|L.o rfl<|L.o rfl<|L.o rfl<|L.pF rfl rfl<|L.b rfl<|L.nil ?_
  refine X.seq<|W.ret<|X.result1 rfl (.tmp rfl .nil)<|⟨?_,C0⟩
  first
  | (rw [rdW_false (getD_of_get P16),W11]; rfl)
  | (unfold rdW; rw [W11]; rfl)
 have hcc_:=W11
 refine L.p rfl (R1.loadFld rfl hbL rfl tyP22)<|L.p rfl (R1.loadFld rfl E4 rfl tyP3)<|L.p rfl (R1.atLay (j:=i) rfl rfl hL Q22 rfl (by omega))<|L.p rfl (R1.fieldAddr rfl tyF42_1) ?_
 obtain ⟨z16,cs16,P16,V16,vt16,ds16,rfl,Y16,vn16,vd16,rfl,I16,H16⟩:=Lay.elemQ hL (j:=i) (by omega);obtain ⟨T16,t16,rfl⟩:=Y16.form;obtain ⟨A16,c16,rfl⟩:=I16.form;obtain ⟨B16,e16,rfl⟩:=H16.form
 refine L.p rfl (R1.loadEF rfl V16 rfl tyP37)<|L.p rfl (R1.makeFunc rfl rfl) ?_
 have hT:TestT Tryz.prog _ 77 [.pointer (some ⟨go,0,none⟩),.pointer (some ⟨g4,0,none⟩),.pointer (some ⟨gw,0,none⟩)] (fun t=>decide (t.v≠os.getD i 0) && decide (t.v∈wa)):=fun w1 z A B c e hm=>c_ordFF (hbO.gr hm) (E4.gr hm) (hbW.gr hm) (hO.gr hm) (hW.gr hm) (by omega)
 refine L.callOn rfl rfl rfl rfl (c_ContainsT (p:=(fun t=>decide (t.v≠os.getD i 0) && decide (t.v∈wa))) (us:=[.pointer (some ⟨go,0,none⟩),.pointer (some ⟨g4,0,none⟩),.pointer (some ⟨gw,0,none⟩)]) Y16 hT) rfl ?_
 rintro _ w2 ⟨rfl,C2⟩
 replace C0:=C0.trans C2;clear C2
 refine L.p rfl (R1.not rfl)<|L.pT rfl rfl<|L.b rfl<|L.z<|W.ret<|X.result1 rfl (.tmp rfl .nil)<|⟨?_,C0⟩
 first
 | (rw [rdW_false (getD_of_get P16),W11]; rfl)
 | (unfold rdW; rw [W11]; rfl)
set_option maxHeartbeats 1000000 in
theorem c_Order {M : List Nat} {w : World} {vl vo : Value} {cs : List CR} {os : List Int} {z0 : Int} (hL : Lay rdC M w vl cs) (hO : Lay rdI M w vo os) (hbd : Bd M w) (hsm : ∀ c ∈ cs, SmC 1099511627776 c) :
    Ret Tryz.prog 43 #[vl,vo,.int .i64 z0] w (fun r w'=>w'.ownsRow w.heap.size 3 1 r (ordZ z0 cs os).length (intsZ (ordZ z0 cs os))∧Mod [] w w'):=by
 obtain ⟨TL,tL,rfl⟩:=hL.form;obtain ⟨TO,tO,rfl⟩:=hO.form;have hmaxL:=hL.max; unfold maxLen at hmaxL;have hmaxO:=hO.max; unfold maxLen at hmaxO
 refine Ret.of (vs:=[.slice TL cs.length tL,.slice TO os.length tO,.int .i64 z0]) (n:=37) Tryz.func43 rfl rfl rfl rfl ?_
 have C0:Mod [] w w:=Mod.refl _ _
 refine W.sr<|L.box rfl rfl ?_
 intro g3 w1 D3
 replace hL:=hL.new D3;replace hO:=hO.new D3;replace hbd:=hbd.new D3;have K3:=New.ge D3 C0.size;replace C0:=C0.tn D3;have E3:=D3.blk;clear D3
 refine L.box rfl rfl ?_
 intro g4 w2 D4
 replace hL:=hL.new D4;replace hO:=hO.new D4;replace hbd:=hbd.new D4;have K4:=New.ge D4 C0.size;replace C0:=C0.tn D4;have hne_g3_g4:=E3.ne_ D4;replace E3:=E3.gr D4.mod;have E4:=D4.blk;clear D4
 refine L.b rfl<|L.z<|W.seq<|W.sr<|L.lF rfl E3 rfl tyP22<|L.lF rfl E4 rfl tyP26<|L.k rfl<|L.c rfl (c_dIs hL hO hbd hsm) ?_
 rintro _ w3 ⟨rfl,C3⟩
 replace hL:=hL.gr C3;replace hO:=hO.gr C3;replace hbd:=hbd.gr C3;replace C0:=C0.trans C3;replace E3:=E3.gr C3;replace E4:=E4.gr C3;clear C3
 refine L.v (R1.not rfl) rfl<|L.z<|W.cond rfl ?_ ?_
 ·
  intro J15
  simp only [Bool.not_eq_true',Bool.not_eq_false'] at J15
  refine W.sr<|L.b rfl<|L.z<|W.ret<|X.thenRet<|X.result1 rfl (.tmp rfl .nil) ?_
  have e9:ordZ z0 cs os=[]:=by unfold ordZ; rw [J15]; rfl
  rw [e9]
  exact ⟨own_nil _ _ _ _,C0⟩
 intro J15
 simp only [Bool.not_eq_true',Bool.not_eq_false'] at J15
 obtain ⟨P1,P2,hcl,hol,hch,hF0⟩:=ChB_true J15
 refine W.skip<|X.seq<|W.sr<|L.lF rfl E4 rfl tyP26<|L.c rfl (c_CloneI hO (by omega)) ?_
 rintro v17 w4 ⟨O17,C4⟩
 replace hL:=hL.ownd O17 C4;replace hO:=hO.ownd O17 C4;replace hbd:=hbd.ownd O17 C4;have hno_ho17_g3:=own_ne_old O17 E3;have hno_ho17_g4:=own_ne_old O17 E4;replace O17:=own_less O17 C0.size;replace C0:=C0.trans C4;replace E3:=E3.gr C4;replace E4:=E4.gr C4;clear C4
 refine L.alloc tyZ26 rfl ?_
 intro g7 w5 D7
 replace hL:=hL.new D7;replace hO:=hO.new D7;replace hbd:=hbd.new D7;have K7:=New.ge D7 C0.size;replace C0:=C0.tn D7;have hne_g3_g7:=E3.ne_ D7;replace E3:=E3.gr D7.mod;have hne_g4_g7:=E4.ne_ D7;replace E4:=E4.gr D7.mod;have hno_ho17_g7:=own_ne_new O17 D7;replace O17:=own_gs O17 D7.mod;have E7:=D7.blk;clear D7
 refine L.store rfl rfl E7 (by decide) (own_one O17) tyP26 ?_
 intro w6 E7' C6
 replace hL:=hL.ms C6;replace hO:=hO.ms C6;replace hbd:=hbd.gr C6;replace C0:=C0.old1 C6 K7;replace E3:=E3.fr C6;replace E4:=E4.fr C6;replace O17:=own_far O17 C6 hno_ho17_g7;clear C6;replace E7:=E7'; clear E7'
 refine L.z<|W.sr<|L.v (R1.makeFunc rfl rfl) rfl<|L.b rfl<|L.z<|W.sr<|L.b rfl ?_
 refine L.z<|W.seq<|W.sr<|L.b rfl<|L.z<|W.block<|W.loop (ι:=Nat × List Int × Value × List Nat) (fun (i,wa,u,al)=>[(3,.pointer (some ⟨g3,0,none⟩)),(4,.pointer (some ⟨g4,0,none⟩)),(7,.pointer (some ⟨g7,0,none⟩)),(8,.func (.func 75) #[] #[.pointer (some ⟨g7,0,none⟩),.pointer (some ⟨g3,0,none⟩),.pointer (some ⟨g4,0,none⟩)]),(9,u),(10,.int .i64 ((i:Nat):Int))]) (fun (i,wa,u,al) w_=>Lay rdC (ownL u ++ (g7 :: (ownL v17 ++ (g4 :: g3 :: M)))) w_ (.slice TL cs.length tL) cs∧Lay rdI (ownL u ++ (g7 :: (ownL v17 ++ (g4 :: g3 :: M)))) w_ (.slice TO os.length tO) os∧Blk w_ g3 22 #[.slice TL cs.length tL]∧Blk w_ g4 26 #[.slice TO os.length tO]∧Blk w_ g7 26 #[v17]∧w_.ownsRow w.heap.size 3 1 v17 os.length (intsZ wa)∧w_.ownsRow w.heap.size 3 1 u al.length (intsZ (al.map fun (k:Nat)=>(k:Int)))∧v17.ownBlock≠some g3∧v17.ownBlock≠some g4∧v17.ownBlock≠some g7∧u.ownBlock≠some g3∧u.ownBlock≠some g4∧u.ownBlock≠some g7∧Away v17 u∧wa.length=os.length∧(∀ j,j<i→rdW cs os wa j=false)∧i≤cs.length∧al ++ ordT cs os wa=ordT cs os os∧Mod [] w w_) (fun (i,wa,u,al)=>pend wa * (cs.length + 1) + (cs.length - i)) (0,os,.slice none 0 0,[]) ?_ ?_ ?_
 · repeat' constructor
 ·
  exact ⟨hL.su,hO.su,E3,E4,E7,O17,own_nil _ _ _ _,hno_ho17_g3,hno_ho17_g4,hno_ho17_g7,(fun h=>by cases h),(fun h=>by cases h),(fun h=>by cases h),(fun g h1 h2=>by cases h2),rfl,(fun j h=>by omega),Nat.zero_le _,rfl,C0⟩
 rintro ⟨i,wa,u,al⟩ w7 ⟨hL,hO,E3,E4,E7,O17,hu,hno_ho17_g3,hno_ho17_g4,hno_ho17_g7,hno_hu_g3,hno_hu_g4,hno_hu_g7,haw_ho17_hu,hwl,hno,hi,hal,C0⟩
 refine W.seq<|W.sr<|L.k rfl<|L.lF rfl E3 rfl tyP22<|L.lL rfl hL Q22<|L.lt rfl rfl<|L.z<|W.cond rfl ?_ ?_
 ·
  intro J22
  try simp only [bq,ne_eq] at J22
  refine W.skip<|X.seq<|W.block<|W.seq<|W.sr<|L.k rfl<|L.k rfl<|L.callV rfl rfl (c_ordF E7 E3 E4 hL hO (Lay.of_Z O17 (by simp)) hwl hol (by omega)) rfl ?_
  rintro _ w8 ⟨rfl,C8⟩
  replace hL:=hL.gr C8;replace hO:=hO.gr C8;replace E3:=E3.gr C8;replace E4:=E4.gr C8;replace E7:=E7.gr C8;replace O17:=own_gs O17 C8;replace hu:=own_gs hu C8;replace C0:=C0.trans C8;clear C8
  refine L.v (R1.not rfl) rfl<|L.z<|W.cond rfl ?_ ?_
  ·
   intro J26
   simp only [Bool.not_eq_true',Bool.not_eq_false'] at J26
   refine W.sr<|L.k rfl<|L.inc rfl rfl (by omega)<|L.b rfl<|L.z<|W.exit<|X.thenExit<|X.here<|X.next (i + 1,wa,u,al) ?_ ?_ ?_
   · repeat' constructor
   ·
    exact ⟨hL.su,hO.su,E3,E4,E7,O17,hu,hno_ho17_g3,hno_ho17_g4,hno_ho17_g7,hno_hu_g3,hno_hu_g4,hno_hu_g7,haw_ho17_hu,hwl,(fun j hj=>by rcases Nat.lt_or_ge j i with h9 | h9; exact hno j h9; obtain rfl:j=i:=(by omega); exact J26),by omega,hal,C0⟩
   first | omega | (dsimp only; omega) | (dsimp only; have h9:=Nat.mul_le_mul_right (cs.length + 1) hst.2; rw [Nat.succ_mul] at h9; omega)
  intro J26
  simp only [Bool.not_eq_true',Bool.not_eq_false'] at J26
  have hst:=ordT_step hwl (by omega) J26 hno
  refine W.skip<|X.seq<|W.sr<|L.v ((R1.loadFld rfl E7 rfl tyP26).asV (v:=v17) rfl) rfl<|L.k rfl<|L.v (R1.atOwn (i:=i) rfl rfl O17 Q26 rfl (by omega)) rfl<|L.storeZ rfl rfl O17 (by omega) tyP3 ?_
  intro w9 O17' C9
  replace hL:=hL.mo C9;replace hO:=hO.mo C9;replace E3:=Blk.ownfar E3 C9 hno_ho17_g3;replace E4:=Blk.ownfar E4 C9 hno_ho17_g4;replace E7:=Blk.ownfar E7 C9 hno_ho17_g7;replace hu:=own_away (s':=1) (el':=0) (k':=0) (B':=0) (ys:=[]) hu C9 (by first | assumption | exact Away.symm (by assumption));replace C0:=Mod.oldOwn C0 C9 O17;clear C9;replace O17:=O17'; clear O17'
  refine L.z<|W.sr<|L.k rfl<|L.k rfl<|L.build1 rfl rfl Q26 tyZ3 rfl ?_
  intro g34 w10 D34
  replace hL:=hL.gr D34.mod;replace hO:=hO.gr D34.mod;replace E3:=E3.gr D34.mod;replace E4:=E4.gr D34.mod;replace E7:=E7.gr D34.mod;replace hu:=own_gs hu D34.mod;replace C0:=C0.trans D34.mod;replace O17:=own_gs O17 D34.mod
  have hrow:Sl [] w10 1 (.slice (some ⟨g34,0,none⟩) 1 1) 1 [.int .i64 ((i:Nat):Int)]:=Sl.of_blk D34.blk 0 (Nat.le_refl _) (by decide) rfl (by simp) (fun j hj=>by simp)
  clear D34;have hall:=congrArg List.length hal
  rw [List.length_append] at hall
  have hle:=ordT_le cs os os
  refine L.append rfl rfl hu hrow (by simp [Value.oneCell']) Q26 tyZ3 (by omega) (by unfold maxLen; omega) C0.size rfl ?_
  intro v35 w11 O35' X35
  have haw_ho17_hu_:=Away.grew haw_ho17_hu X35 O17;replace hL:=hL.gw X35;replace hO:=hO.gw X35;have hnn_g3:=X35.ne hno_hu_g3 E3;replace E3:=Blk.grew E3 X35 hno_hu_g3;replace hno_hu_g3:=hnn_g3;have hnn_g4:=X35.ne hno_hu_g4 E4;replace E4:=Blk.grew E4 X35 hno_hu_g4;replace hno_hu_g4:=hnn_g4;have hnn_g7:=X35.ne hno_hu_g7 E7;replace E7:=Blk.grew E7 X35 hno_hu_g7;replace hno_hu_g7:=hnn_g7;replace C0:=Mod.oldOwn C0 X35.mod hu;replace O17:=own_away (s':=1) (el':=0) (k':=0) (B':=0) (ys:=[]) O17 X35.mod (by first | assumption | exact Away.symm (by assumption));replace haw_ho17_hu:=haw_ho17_hu_; clear haw_ho17_hu_;replace hu:=O35'; clear O35';clear X35
  refine L.b rfl<|L.z<|W.region<|L.b rfl<|L.nil<|X.blockEnd<|X.next (0,wa.set i (-1),v35,al ++ [i]) ?_ ?_ ?_
  · repeat' constructor
  ·
   exact ⟨hL.su,hO.su,E3,E4,E7,O17,own_congr hu (by simp) (by rw [natsI_snoc,intsZ_append]; rfl),hno_ho17_g3,hno_ho17_g4,hno_ho17_g7,hno_hu_g3,hno_hu_g4,hno_hu_g7,haw_ho17_hu,by simpa using hwl,(fun j h=>by omega),Nat.zero_le _,by rw [← hal,hst.1]; simp,C0⟩
  first | omega | (dsimp only; omega) | (dsimp only; have h9:=Nat.mul_le_mul_right (cs.length + 1) hst.2; rw [Nat.succ_mul] at h9; omega)
 intro J22
 try simp only [bq,ne_eq] at J22
 obtain rfl:i=cs.length:=by omega
 refine W.brk<|W.sr<|L.k rfl<|L.b rfl<|L.z ?_
 refine W.ret<|X.result1 rfl (.tmp rfl .nil) ?_
 have e8:=ordT_stop (wa:=wa) (fun j hj=>hno j (by omega))
 rw [e8,List.append_nil] at hal
 subst hal
 have e9:ordZ z0 cs os=(ordT cs os os).map (fun (k:Nat)=>(k:Int)):=by unfold ordZ; rw [J15]; rfl
 rw [e9]
 exact ⟨own_congr hu (by simp) rfl,C0⟩
end Go.Proofs.YthoooolflmbmbaaGreat
end
section
namespace Go.Proofs.YthoooolflmbmbaaGreat
open Go.RowKit
set_option linter.unusedVariables false
set_option linter.unusedSimpArgs false
set_option maxRecDepth 10000
def waD (os:List Int) (ds:List Bool):List Int:=(List.range os.length).map fun j=>if ds.getD j false=true then -1 else os.getD j 0
theorem waD_len (os:List Int) (ds:List Bool):(waD os ds).length=os.length:=by simp [waD]
theorem waD_get {os:List Int} (ds:List Bool) {j:Nat} (h:j<os.length):(waD os ds).getD j 0=if ds.getD j false=true then -1 else os.getD j 0:=by
  simp [waD,List.getD_eq_getElem?_getD,h]
theorem waD_start (os:List Int) (n:Nat):waD os (List.replicate n false)=os:=by
  unfold waD
  apply List.ext_getElem (by simp)
  intro j h1 h2
  simp only [List.getElem_map,List.getElem_range]
  rw [if_neg (by simp [List.getD_eq_getElem?_getD,List.getElem?_replicate]; split <;> simp),getD_at h2]
theorem waD_set {os:List Int} {ds:List Bool} {m:Nat} (hm:m<os.length) (hl:ds.length=os.length):waD os (ds.set m true)=(waD os ds).set m (-1):=by
  apply List.ext_getElem (by simp [waD])
  intro j h1 h2
  rw [List.getElem_set]
  simp only [waD,List.getElem_map,List.getElem_range]
  by_cases e:m=j
  · subst e; rw [if_pos rfl,if_pos (by simp [List.getD_eq_getElem?_getD,hl,hm])]
  rw [if_neg e]
  have e2:(ds.set m true).getD j false=ds.getD j false:=by simp [List.getD_eq_getElem?_getD,List.getElem?_set,e]
  rw [e2]
theorem mem_waD {os:List Int} {ds:List Bool} {v:Int} (hv:0≤v):v∈waD os ds↔∃ j,j<os.length∧ds.getD j false=false∧os.getD j 0=v:=by
  unfold waD
  rw [List.mem_map]
  constructor
  · rintro ⟨j,hj,e⟩
    rw [List.mem_range] at hj
    split at e
    · omega
    rename_i h; exact ⟨j,hj,by simpa using h,e⟩
  rintro ⟨j,hj,h1,h2⟩
  exact ⟨j,List.mem_range.2 hj,by rw [if_neg (by rw [h1]; decide)]; exact h2⟩
def PT_ (os wa:List Int) (i:Nat):TR→Bool:=fun t=>decide (t.v≠os.getD i 0) && decide (t.v∈wa)
theorem rdW_D {n:Int} {cs:List CR} {os:List Int} {ds:List Bool} {i:Nat} (hch:chP n cs os cs.length) (hl:os.length=cs.length) (hi:i<cs.length):rdW cs os (waD os ds) i=(decide (0≤os.getD i 0) && (!(ds.getD i false) && !((cs.getD i c0R).ts.any (PT_ os (waD os ds) i)))):=by
  have h1:=chP_lo hch hi
  unfold rdW
  rw [waD_get ds (by omega),← Bool.and_assoc]
  congr 1
  cases ds.getD i false with
  | true=>simp
  | false=>rw [if_neg (by decide)]; simp only [Bool.not_false,Bool.and_true]; exact decide_eq_decide.2 (by omega)
theorem c_r14_ready {M : List Nat} {w : World} {vl vo vd : Value} {cs : List CR} {os : List Int} {ds : List Bool} {i B9 : Nat} {n : Int} (hL : Lay rdC M w vl cs) (hO : Lay rdI M w vo os) (hd : w.ownsRow B9 4 1 vd cs.length (boolsV ds)) (hol : os.length = cs.length) (hi : i < cs.length) (hC : isC (cs.getD i c0R) n = true) :
    Ret Tryz.prog 91 #[vl,vo,vd,.int .i64 ((i:Nat):Int)] w (fun r w'=>r=.bool (!((cs.getD i c0R).ts.any (PT_ os (waD os ds) i)))∧Mod [] w w'):=by
 obtain ⟨TL,tL,rfl⟩:=hL.form;obtain ⟨TO,tO,rfl⟩:=hO.form
 obtain ⟨zc,hzc⟩:∃ z,cs[i]?=some z:=⟨_,List.getElem?_eq_getElem hi⟩
 rw [getD_of_get hzc] at hC ⊢
 have hmaxL:=hL.max; unfold maxLen at hmaxL
 refine Ret.of (vs:=[.slice TL cs.length tL,.slice TO os.length tO,vd,.int .i64 ((i:Nat):Int)]) (n:=58) Tryz.func91 rfl rfl rfl rfl ?_
 have C0:Mod [] w w:=Mod.refl _ _
 refine W.sr<|L.b rfl<|L.z<|W.seq<|W.sr<|L.b rfl<|L.z ?_
 refine W.block<|W.loop (ι:=Nat) (fun k=>[(0,.slice TL cs.length tL),(1,.slice TO os.length tO),(2,vd),(3,.int .i64 ((i:Nat):Int)),(9,.int .i64 ((k:Nat):Int))]) (fun k w_=>Lay rdC M w_ (.slice TL cs.length tL) cs∧Lay rdI M w_ (.slice TO os.length tO) os∧w_.ownsRow B9 4 1 vd cs.length (boolsV ds)∧Mod [] w w_∧k≤zc.ts.length∧(∀ t∈zc.ts.take k,PT_ os (waD os ds) i t=false)) (fun k=>zc.ts.length - k) 0 ?_ ?_ ?_
 · repeat' constructor
 ·
  exact ⟨hL.su,hO.su,hd,C0,Nat.zero_le _,(fun t h=>by simp at h)⟩
 rintro k w1 ⟨hL,hO,hd,C0,hk,hno⟩
 refine W.seq<|W.sr<|L.k rfl<|L.k rfl<|L.k rfl<|L.aL (j:=i) rfl rfl hL Q22 rfl (by omega)<|L.v (R1.fieldAddr rfl tyF42_1) rfl ?_
 obtain ⟨z17,cs17,P17,V17,vt17,ds17,rfl,Y17,vn17,vd17,rfl,I17,H17⟩:=Lay.elemQ hL (j:=i) (by omega);obtain ⟨T17,t17,rfl⟩:=Y17.form;obtain ⟨A17,c17,rfl⟩:=I17.form;obtain ⟨B17,e17,rfl⟩:=H17.form
 obtain rfl:zc=z17:=by have h9:=P17; rw [hzc] at h9; injection h9
 refine L.v (R1.loadEF rfl V17 rfl tyP37) rfl<|L.lL rfl Y17 Q37<|L.lt rfl rfl<|L.z<|W.cond rfl ?_ ?_
 ·
  intro J19
  try simp only [bq,ne_eq] at J19
  have hmaxt:=Y17.max; unfold maxLen at hmaxt
  refine W.skip<|X.seq<|W.seq<|W.block<|W.sr<|L.k rfl<|L.k rfl<|L.aL (j:=i) rfl rfl hL Q22 rfl (by omega)<|L.v (R1.fieldAddr rfl tyF42_1) rfl ?_
  obtain ⟨z26,cs26,P26,V26,vt26,ds26,rfl,Y26,vn26,vd26,rfl,I26,H26⟩:=Lay.elemQ hL (j:=i) (by omega);obtain ⟨T26,t26,rfl⟩:=Y26.form;obtain ⟨A26,c26,rfl⟩:=I26.form;obtain ⟨B26,e26,rfl⟩:=H26.form
  obtain rfl:zc=z26:=by have h9:=P26; rw [hzc] at h9; injection h9
  refine L.v (R1.loadEF rfl V26 rfl tyP37) rfl<|L.k rfl<|L.aL (j:=k) rfl rfl Y26 Q37 rfl (by omega)<|L.v (R1.fieldAddr rfl tyF47_0) rfl ?_
  obtain ⟨z30,cs30,P30,V30,ds30,rfl,vn30,vd30,rfl,I30,H30⟩:=Lay.elemQ Y26 (j:=k) (by omega);obtain ⟨A30,c30,rfl⟩:=I30.form;obtain ⟨B30,e30,rfl⟩:=H30.form
  refine L.v (R1.loadEF rfl V30 rfl tyP3) rfl<|L.b rfl<|L.z<|W.sr<|L.b rfl<|L.z<|W.block<|W.loop (ι:=Nat) (fun j=>[(0,.slice TL cs.length tL),(1,.slice TO os.length tO),(2,vd),(3,.int .i64 ((i:Nat):Int)),(9,.int .i64 ((k:Nat):Int)),(10,.int .i64 z30.v),(11,.int .i64 ((j:Nat):Int))]) (fun j w_=>Lay rdC M w_ (.slice TL cs.length tL) cs∧Lay rdI M w_ (.slice TO os.length tO) os∧w_.ownsRow B9 4 1 vd cs.length (boolsV ds)∧Mod [] w w_∧j≤cs.length∧(∀ a,a<j→z30.v≠os.getD i 0→os.getD a 0=z30.v→ds.getD a false=true)) (fun j=>cs.length - j) 0 ?_ ?_ ?_
  · repeat' constructor
  ·
   exact ⟨hL.su,hO.su,hd,C0,Nat.zero_le _,(fun a h=>by omega)⟩
  rintro j w2 ⟨hL,hO,hd,C0,hj,hnj⟩
  refine W.seq<|W.sr<|L.k rfl<|L.k rfl<|L.lL rfl hL Q22<|L.lt rfl rfl<|L.z<|W.cond rfl ?_ ?_
  ·
   intro J34
   try simp only [bq,ne_eq] at J34
   refine W.skip<|X.seq<|W.seq<|W.block<|W.sr<|L.k rfl<|L.k rfl<|L.k rfl<|L.aL (j:=i) rfl rfl hO Q26 rfl (by omega)<|L.v (R1.loadLI rfl hO tyP3 (by omega) (getD_at _)) rfl ?_
   refine L.v ((R1.ne rfl rfl).asB (c:=(decide (z30.v≠os.getD i 0))) (rfl)) rfl<|L.k rfl ?_
   cases W43:(decide (z30.v≠os.getD i 0))
   ·
    try simp only [bq,ne_eq] at W43
    refine L.o rfl<|L.o rfl<|L.o rfl<|L.o rfl<|L.o rfl<|L.o rfl<|L.pF rfl rfl<|L.k rfl<|L.o rfl<|L.o rfl<|L.o rfl ?_
    refine L.o rfl<|L.o rfl<|L.pF rfl rfl<|L.z<|W.condF rfl<|W.skip<|X.blockEnd<|X.seq<|W.region<|L.k rfl ?_
    refine L.inc rfl rfl (by omega)<|L.b rfl<|L.nil<|X.next (j + 1) ?_ ?_ ?_
    · repeat' constructor
    ·
     refine ⟨hL,hO,hd,C0,by omega,fun a ha h1 h2=>?_⟩
     rcases Nat.lt_or_ge a j with h9 | h9
     · exact hnj a h9 h1 h2
     obtain rfl:a=j:=by omega
     first | exact J57 | exact absurd h2 (by assumption) | omega
    first | omega | (dsimp only; omega)
   try simp only [bq,ne_eq] at W43
   refine L.p rfl (R1.move rfl)<|L.p rfl (R1.move rfl)<|L.p rfl (R1.atLay (j:=j) rfl rfl hO Q26 rfl (by omega))<|L.p rfl (R1.loadLI rfl hO tyP3 (by omega) (getD_at _))<|L.p rfl (R1.move rfl)<|L.p rfl ((R1.eq rfl rfl).asB (c:=(decide (os.getD j 0=z30.v))) (rfl))<|L.pT rfl rfl<|L.k rfl ?_
   cases W51:(decide (os.getD j 0=z30.v))
   ·
    try simp only [bq,ne_eq] at W51
    refine L.o rfl<|L.o rfl<|L.o rfl<|L.o rfl<|L.o rfl<|L.pF rfl rfl<|L.z<|W.condF rfl<|W.skip<|X.blockEnd ?_
    refine X.seq<|W.region<|L.k rfl<|L.inc rfl rfl (by omega)<|L.b rfl<|L.nil<|X.next (j + 1) ?_ ?_ ?_
    · repeat' constructor
    ·
     refine ⟨hL,hO,hd,C0,by omega,fun a ha h1 h2=>?_⟩
     rcases Nat.lt_or_ge a j with h9 | h9
     · exact hnj a h9 h1 h2
     obtain rfl:a=j:=by omega
     first | exact J57 | exact absurd h2 (by assumption) | omega
    first | omega | (dsimp only; omega)
   try simp only [bq,ne_eq] at W51
   refine L.p rfl (R1.move rfl)<|L.p rfl (R1.move rfl)<|L.p rfl (R1.atOwn (i:=j) rfl rfl hd Q110 rfl (by omega))<|L.p rfl (R1.ldBo rfl hd (by omega) tyP4)<|L.p rfl (R1.not rfl)<|L.pT rfl rfl<|L.z<|W.cond rfl ?_ ?_
   ·
    intro J57
    simp only [Bool.not_eq_true',Bool.not_eq_false'] at J57
    refine W.sr<|L.b rfl<|L.z<|W.ret<|X.blockRet<|X.thenRet<|X.nextRet<|X.blockRet<|X.blockRet ?_
    refine X.thenRet<|X.nextRet<|X.blockRet<|X.thenRet<|X.result1 rfl (.tmp rfl .nil)<|⟨?_,C0⟩
    have h9:zc.ts.any (PT_ os (waD os ds) i)=true:=List.any_eq_true.2 ⟨z30,List.mem_of_getElem? P30,by
      simp only [PT_,Bool.and_eq_true,decide_eq_true_eq]
      exact ⟨W43,(mem_waD (isC_all hC _ (List.mem_of_getElem? P30)).1).2 ⟨j,by omega,J57,W51⟩⟩⟩
    rw [h9]; rfl
   intro J57
   simp only [Bool.not_eq_true',Bool.not_eq_false'] at J57
   refine W.skip<|X.blockEnd<|X.seq<|W.region<|L.k rfl<|L.inc rfl rfl (by omega)<|L.b rfl<|L.nil<|X.next (j + 1) ?_ ?_ ?_
   · repeat' constructor
   ·
    refine ⟨hL,hO,hd,C0,by omega,fun a ha h1 h2=>?_⟩
    rcases Nat.lt_or_ge a j with h9 | h9
    · exact hnj a h9 h1 h2
    obtain rfl:a=j:=by omega
    first | exact J57 | exact absurd h2 (by assumption) | omega
   first | omega | (dsimp only; omega)
  intro J34
  try simp only [bq,ne_eq] at J34
  obtain rfl:j=cs.length:=by omega
  refine W.exit<|X.thenExit<|X.nextExit<|X.here<|X.blockEnd<|X.seq<|W.region<|L.k rfl<|L.inc rfl rfl (by omega)<|L.b rfl<|L.nil ?_
  refine X.next (k + 1) ?_ ?_ ?_
  · repeat' constructor
  ·
   refine ⟨hL,hO,hd,C0,by omega,fun t Y9=>?_⟩
   obtain ⟨hk9,he9⟩:=List.getElem?_eq_some_iff.1 P30
   rw [List.take_succ_eq_append_getElem hk9,he9] at Y9
   rcases List.mem_append.1 Y9 with h9 | h9
   · exact hno t h9
   rw [List.mem_singleton.1 h9]
   cases hp:PT_ os (waD os ds) i z30 with
   | false=>rfl
   | true =>
     simp only [PT_,Bool.and_eq_true,decide_eq_true_eq] at hp
     obtain ⟨a,ha1,ha2,ha3⟩:=(mem_waD (isC_all hC _ (List.mem_of_getElem? P30)).1).1 hp.2
     rw [hnj a (by omega) hp.1 ha3] at ha2; cases ha2
  first | omega | (dsimp only; omega)
 intro J19
 try simp only [bq,ne_eq] at J19
 obtain rfl:k=zc.ts.length:=by omega
 refine W.brk<|W.sr<|L.b rfl<|L.z<|W.ret ?_
 refine X.result1 rfl (.tmp rfl .nil) ?_
 rw [List.take_length] at hno
 refine ⟨?_,C0⟩
 rw [any_no hno]; rfl
set_option maxHeartbeats 1000000 in
theorem c_r14_Order {M : List Nat} {w : World} {vl vo : Value} {cs : List CR} {os : List Int} {z0 : Int} (hL : Lay rdC M w vl cs) (hO : Lay rdI M w vo os) (hbd : Bd M w) (hsm : ∀ c ∈ cs, SmC 1099511627776 c) :
    Ret Tryz.prog 53 #[vl,vo,.int .i64 z0] w (fun r w'=>w'.ownsRow w.heap.size 3 1 r (ordZ z0 cs os).length (intsZ (ordZ z0 cs os))∧Mod [] w w'):=by
 obtain ⟨TL,tL,rfl⟩:=hL.form;obtain ⟨TO,tO,rfl⟩:=hO.form;have hmaxL:=hL.max; unfold maxLen at hmaxL;have hmaxO:=hO.max; unfold maxLen at hmaxO
 refine Ret.of (vs:=[.slice TL cs.length tL,.slice TO os.length tO,.int .i64 z0]) (n:=59) Tryz.func53 rfl rfl rfl rfl ?_
 have C0:Mod [] w w:=Mod.refl _ _
 refine W.sr<|L.b rfl<|L.z<|W.seq<|W.sr<|L.k rfl<|L.k rfl<|L.k rfl ?_
 refine L.c rfl (c_r13_Is hL hO hbd hsm) ?_
 rintro _ w1 ⟨rfl,C1⟩
 replace hL:=hL.gr C1;replace hO:=hO.gr C1;replace hbd:=hbd.gr C1;replace C0:=C0.trans C1;clear C1
 refine L.v (R1.not rfl) rfl<|L.z<|W.cond rfl ?_ ?_
 ·
  intro J15
  simp only [Bool.not_eq_true',Bool.not_eq_false'] at J15
  refine W.sr<|L.b rfl<|L.z<|W.ret<|X.thenRet<|X.result1 rfl (.tmp rfl .nil) ?_
  have e9:ordZ z0 cs os=[]:=by unfold ordZ; rw [J15]; rfl
  rw [e9]
  exact ⟨own_nil _ _ _ _,C0⟩
 intro J15
 simp only [Bool.not_eq_true',Bool.not_eq_false'] at J15
 obtain ⟨P1,P2,hcl,hol,hch,hF0⟩:=ChB_true J15
 refine W.skip<|X.seq<|W.sr<|L.k rfl<|L.lL rfl hL Q22<|L.makeSlice (m:=cs.length) rfl rfl rfl rfl Q110 tyZ4 (by omega) (by unfold maxLen; omega) rfl ?_
 intro g18 w2 D18
 have hd:=own_madeB (B:=w.heap.size) D18 C0.size (by unfold maxLen; omega);replace hL:=hL.new D18;replace hO:=hO.new D18;replace hbd:=hbd.new D18;replace C0:=C0.tn D18;clear D18
 obtain ⟨v18,hv_v18⟩:∃ v,v=Value.slice (some ⟨g18,0,none⟩) cs.length cs.length:=⟨_,rfl⟩
 have hol_v18:ownL v18=[g18]:=by rw [hv_v18]; rfl
 rw [← hv_v18] at hd ⊢
 replace hL:=hL.sub (of_cons hol_v18);replace hO:=hO.sub (of_cons hol_v18);replace hbd:=hbd.sub (of_cons hol_v18);clear hv_v18 hol_v18
 refine L.b rfl<|L.z<|W.sr<|L.b rfl<|L.z<|W.block<|W.loop (ι:=List Bool × Value × List Nat) (fun (ds,u,al)=>[(0,.slice TL cs.length tL),(1,.slice TO os.length tO),(7,v18),(8,u)]) (fun (ds,u,al) w_=>Lay rdC (ownL u ++ (ownL v18 ++ M)) w_ (.slice TL cs.length tL) cs∧Lay rdI (ownL u ++ (ownL v18 ++ M)) w_ (.slice TO os.length tO) os∧w_.ownsRow w.heap.size 4 1 v18 cs.length (boolsV ds)∧w_.ownsRow w.heap.size 3 1 u al.length (intsZ (al.map fun (k:Nat)=>(k:Int)))∧Away v18 u∧Mod [] w w_∧ds.length=os.length∧al ++ ordT cs os (waD os ds)=ordT cs os os) (fun (ds,u,al)=>pend (waD os ds)) (List.replicate cs.length false,.slice none 0 0,[]) ?_ ?_ ?_
 · repeat' constructor
 ·
  exact ⟨hL.su,hO.su,hd,own_nil _ _ _ _,(fun g h1 h2=>by cases h2),C0,by simp [hol],by rw [waD_start]; rfl⟩
 rintro ⟨ds,u,al⟩ w3 ⟨hL,hO,hd,hu,haw_hd_hu,C0,hdl,hal⟩
 refine W.block<|W.sr<|L.b rfl<|L.z<|W.seq<|W.sr<|L.b rfl<|L.nil ?_
 refine X.seq<|W.block<|W.loop (ι:=Nat × Option Nat) (fun (i,nx)=>[(0,.slice TL cs.length tL),(1,.slice TO os.length tO),(7,v18),(8,u),(9,.int .i64 (fi nx)),(10,.int .i64 ((i:Nat):Int))]) (fun (i,nx) w_=>Lay rdC (ownL u ++ (ownL v18 ++ M)) w_ (.slice TL cs.length tL) cs∧Lay rdI (ownL u ++ (ownL v18 ++ M)) w_ (.slice TO os.length tO) os∧w_.ownsRow w.heap.size 4 1 v18 cs.length (boolsV ds)∧w_.ownsRow w.heap.size 3 1 u al.length (intsZ (al.map fun (k:Nat)=>(k:Int)))∧Away v18 u∧Mod [] w w_∧i≤cs.length∧((nx=none∧∀ j,j<i→rdW cs os (waD os ds) j=false)∨∃ m,nx=some m∧m<cs.length∧rdW cs os (waD os ds) m=true∧∀ j,j<m→rdW cs os (waD os ds) j=false)) (fun (i,nx)=>cs.length - i) (0,none) ?_ ?_ ?_
 · repeat' constructor
 ·
  exact ⟨hL.su,hO.su,hd,hu,haw_hd_hu,C0,Nat.zero_le _,(.inl ⟨rfl,fun j h=>by omega⟩)⟩
 rintro ⟨i,nx⟩ w4 ⟨hL,hO,hd,hu,haw_hd_hu,C0,hi,hnx⟩
 refine W.seq<|W.sr<|L.k rfl<|L.k rfl<|L.lL rfl hL Q22<|L.v ((R1.lt rfl rfl).asB (c:=(decide ((i:Int)<(cs.length:Int)))) (rfl)) rfl<|L.k rfl ?_
 cases W23:(decide ((i:Int)<(cs.length:Int)))
 ·
  try simp only [bq,ne_eq] at W23
  refine L.o rfl<|L.o rfl<|L.pF rfl rfl<|L.z<|W.condF rfl<|W.exit<|X.thenExit<|X.nextExit<|X.here<|X.seq ?_
  refine W.seq<|W.sr<|L.k rfl<|L.lt rfl rfl<|L.z<|W.cond rfl ?_ ?_
  ·
   intro J50
   try simp only [bq,ne_eq] at J50
   refine W.sr<|L.k rfl<|L.b rfl<|L.z<|W.ret<|X.thenRet<|X.blockRet<|X.nextRet<|X.blockRet ?_
   refine X.result1 rfl (.tmp rfl .nil) ?_
   obtain ⟨hnn,hna⟩:nx=none∧∀ j,j<cs.length→rdW cs os (waD os ds) j=false:=by
     rcases hnx with ⟨h9,h8⟩ | ⟨m,rfl,_⟩
     · first | exact ⟨h9,fun j hj=>h8 j (by omega)⟩ | (subst h9; simp [fi] at J26)
     exact absurd J50 (by show ¬ ((m:Int)<0); omega)
   have e8:=ordT_stop (fun j hj=>hna j (by omega))
   rw [e8,List.append_nil] at hal
   subst hal
   have e9:ordZ z0 cs os=(ordT cs os os).map (fun (k:Nat)=>(k:Int)):=by unfold ordZ; rw [J15]; rfl
   rw [e9]
   exact ⟨own_congr hu (by simp) rfl,C0⟩
  intro J50
  try simp only [bq,ne_eq] at J50
  obtain ⟨m,rfl,C1,C2,C3⟩:∃ m,nx=some m∧m<cs.length∧rdW cs os (waD os ds) m=true∧∀ j,j<m→rdW cs os (waD os ds) j=false:=by
    rcases hnx with ⟨rfl,_⟩ | h9
    · exact absurd J50 (by decide)
    exact h9
  have hst:=ordT_step (by rw [waD_len]) (by omega) C2 C3
  refine W.skip<|X.seq<|W.sr<|L.k rfl<|L.k rfl<|L.v (R1.atOwn (i:=m) rfl rfl hd Q110 rfl (by omega)) rfl<|L.storeBo rfl rfl hd (by omega) tyP4 ?_
  intro w5 hd' C5
  replace hL:=hL.mo C5;replace hO:=hO.mo C5;replace hu:=own_away (s':=1) (el':=0) (k':=0) (B':=0) (ys:=[]) hu C5 (by first | assumption | exact Away.symm (by assumption));replace C0:=Mod.oldOwn C0 C5 hd;clear C5;replace hd:=hd'; clear hd'
  refine L.z<|W.region<|L.k rfl<|L.k rfl<|L.build1 rfl rfl Q26 tyZ3 rfl ?_
  intro g57 w6 D57
  replace hL:=hL.gr D57.mod;replace hO:=hO.gr D57.mod;replace hu:=own_gs hu D57.mod;replace C0:=C0.trans D57.mod;replace hd:=own_gs hd D57.mod
  have hrow:Sl [] w6 1 (.slice (some ⟨g57,0,none⟩) 1 1) 1 [.int .i64 (fi (some m))]:=Sl.of_blk D57.blk 0 (Nat.le_refl _) (by decide) rfl (by simp) (fun j hj=>by simp)
  clear D57;have hall:=congrArg List.length hal
  rw [List.length_append] at hall
  have hle:=ordT_le cs os os
  refine L.append rfl rfl hu hrow (by simp [Value.oneCell']) Q26 tyZ3 (by omega) (by unfold maxLen; omega) C0.size rfl ?_
  intro v58 w7 O58' X58
  have haw_hd_hu_:=Away.grew haw_hd_hu X58 hd;replace hL:=hL.gw X58;replace hO:=hO.gw X58;replace C0:=Mod.oldOwn C0 X58.mod hu;replace hd:=own_away (s':=1) (el':=0) (k':=0) (B':=0) (ys:=[]) hd X58.mod (by first | assumption | exact Away.symm (by assumption));replace haw_hd_hu:=haw_hd_hu_; clear haw_hd_hu_;replace hu:=O58'; clear O58';clear X58
  refine L.b rfl<|L.nil<|X.blockEnd<|X.next (ds.set m true,v58,al ++ [m]) ?_ ?_ ?_
  · repeat' constructor
  ·
   exact ⟨hL.su,hO.su,hd,own_congr hu (by simp) (by rw [natsI_snoc,intsZ_append]; rfl),haw_hd_hu,C0,by simpa using hdl,by rw [waD_set (by omega) hdl,← hal,hst.1]; simp⟩
  dsimp only; rw [waD_set (by omega) hdl]; exact hst.2
 try simp only [bq,ne_eq] at W23
 refine L.p rfl (R1.move rfl)<|L.p rfl ((R1.lt rfl rfl).asB (c:=(decide (fi nx<0))) (rfl))<|L.pT rfl rfl<|L.z<|W.cond rfl ?_ ?_
 ·
  intro J26
  try simp only [bq,ne_eq] at J26
  obtain ⟨hnn,hna⟩:nx=none∧∀ j,j<i→rdW cs os (waD os ds) j=false:=by
    rcases hnx with h9 | ⟨m,rfl,_⟩
    · exact h9
    exact absurd J26 (by show ¬ ((m:Int)<0); omega)
  refine W.skip<|X.seq<|W.seq<|W.block<|W.sr<|L.k rfl<|L.k rfl<|L.aL (j:=i) rfl rfl hO Q26 rfl (by omega)<|L.v (R1.loadLI rfl hO tyP3 (by omega) (getD_at _)) rfl<|L.v ((R1.ge rfl rfl).asB (c:=(decide (0≤os.getD i 0))) (rfl)) rfl ?_
  refine L.k rfl ?_
  cases W34:(decide (0≤os.getD i 0))
  ·
   have hcc_:=W34
   refine L.o rfl<|L.o rfl<|L.o rfl<|L.o rfl<|L.o rfl<|L.pF rfl rfl<|L.k rfl<|L.o rfl<|L.o rfl<|L.o rfl<|L.o rfl ?_
   refine L.o rfl<|L.pF rfl rfl<|L.z<|W.condF rfl<|W.skip<|X.blockEnd<|X.seq<|W.region<|L.k rfl<|L.inc rfl rfl (by omega) ?_
   refine L.b rfl<|L.nil<|X.next (i + 1,nx) ?_ ?_ ?_
   · repeat' constructor
   ·
    have hr9:rdW cs os (waD os ds) i=false:=by rw [rdW_D hch hol (by omega)]; rw [W34]; rfl
    exact ⟨hL.su,hO.su,hd,hu,haw_hd_hu,C0,by omega,(.inl ⟨hnn,fun j hj=>by rcases Nat.lt_or_ge j i with h9 | h9; exact hna j h9; obtain rfl:j=i:=(by omega); exact hr9⟩)⟩
   first | omega | (dsimp only; omega)
  have hcc_:=W34
  refine L.p rfl (R1.move rfl)<|L.p rfl (R1.move rfl)<|L.p rfl (R1.atOwn (i:=i) rfl rfl hd Q110 rfl (by omega))<|L.p rfl (R1.ldBo rfl hd (by omega) tyP4)<|L.p rfl (R1.not rfl)<|L.pT rfl rfl<|L.k rfl ?_
  cases W41:(!(ds.getD i false))
  ·
   have hcc_:=W41
   refine L.o rfl<|L.o rfl<|L.o rfl<|L.o rfl<|L.o rfl<|L.pF rfl rfl<|L.z<|W.condF rfl<|W.skip<|X.blockEnd ?_
   refine X.seq<|W.region<|L.k rfl<|L.inc rfl rfl (by omega)<|L.b rfl<|L.nil<|X.next (i + 1,nx) ?_ ?_ ?_
   · repeat' constructor
   ·
    have hr9:rdW cs os (waD os ds) i=false:=by rw [rdW_D hch hol (by omega)]; rw [W34,W41]; rfl
    exact ⟨hL.su,hO.su,hd,hu,haw_hd_hu,C0,by omega,(.inl ⟨hnn,fun j hj=>by rcases Nat.lt_or_ge j i with h9 | h9; exact hna j h9; obtain rfl:j=i:=(by omega); exact hr9⟩)⟩
   first | omega | (dsimp only; omega)
  have hcc_:=W41
  refine L.p rfl (R1.move rfl)<|L.p rfl (R1.move rfl)<|L.p rfl (R1.move rfl)<|L.p rfl (R1.move rfl)<|L.callOn rfl rfl rfl rfl (c_r14_ready hL hO hd hol (by omega) (hch i (by omega)).1) rfl ?_
  rintro _ w8 ⟨rfl,C8⟩
  replace hL:=hL.gr C8;replace hO:=hO.gr C8;replace hd:=own_gs hd C8;replace hu:=own_gs hu C8;replace C0:=C0.trans C8;clear C8
  refine L.pT rfl rfl<|L.z<|W.cond rfl ?_ ?_
  ·
   intro J47
   have hcc_:=J47
   refine W.region<|L.k rfl<|L.b rfl<|L.nil<|X.blockEnd<|X.seq<|W.region<|L.k rfl<|L.inc rfl rfl (by omega)<|L.b rfl<|L.nil ?_
   refine X.next (i + 1,some i) ?_ ?_ ?_
   · repeat' constructor
   ·
    exact ⟨hL.su,hO.su,hd,hu,haw_hd_hu,C0,by omega,(.inr ⟨i,rfl,by omega,by rw [rdW_D hch hol (by omega),W34,W41,J47]; rfl,hna⟩)⟩
   first | omega | (dsimp only; omega)
  intro J47
  have hcc_:=J47
  refine W.skip<|X.blockEnd<|X.seq<|W.region<|L.k rfl<|L.inc rfl rfl (by omega)<|L.b rfl<|L.nil<|X.next (i + 1,nx) ?_ ?_ ?_
  · repeat' constructor
  ·
   have hr9:rdW cs os (waD os ds) i=false:=by rw [rdW_D hch hol (by omega)]; rw [W34,W41,J47]; rfl
   exact ⟨hL.su,hO.su,hd,hu,haw_hd_hu,C0,by omega,(.inl ⟨hnn,fun j hj=>by rcases Nat.lt_or_ge j i with h9 | h9; exact hna j h9; obtain rfl:j=i:=(by omega); exact hr9⟩)⟩
  first | omega | (dsimp only; omega)
 intro J26
 try simp only [bq,ne_eq] at J26
 refine W.brk<|W.seq<|W.sr<|L.k rfl<|L.lt rfl rfl<|L.nil ?_
 refine X.seq<|W.cond rfl ?_ ?_
 ·
  intro J50
  try simp only [bq,ne_eq] at J50
  refine W.sr<|L.k rfl<|L.b rfl<|L.z<|W.ret<|X.thenRet<|X.blockRet<|X.nextRet<|X.blockRet ?_
  refine X.result1 rfl (.tmp rfl .nil) ?_
  obtain ⟨hnn,hna⟩:nx=none∧∀ j,j<cs.length→rdW cs os (waD os ds) j=false:=by
    rcases hnx with ⟨h9,h8⟩ | ⟨m,rfl,_⟩
    · first | exact ⟨h9,fun j hj=>h8 j (by omega)⟩ | (subst h9; simp [fi] at J26)
    exact absurd J50 (by show ¬ ((m:Int)<0); omega)
  have e8:=ordT_stop (fun j hj=>hna j (by omega))
  rw [e8,List.append_nil] at hal
  subst hal
  have e9:ordZ z0 cs os=(ordT cs os os).map (fun (k:Nat)=>(k:Int)):=by unfold ordZ; rw [J15]; rfl
  rw [e9]
  exact ⟨own_congr hu (by simp) rfl,C0⟩
 intro J50
 try simp only [bq,ne_eq] at J50
 obtain ⟨m,rfl,C1,C2,C3⟩:∃ m,nx=some m∧m<cs.length∧rdW cs os (waD os ds) m=true∧∀ j,j<m→rdW cs os (waD os ds) j=false:=by
   rcases hnx with ⟨rfl,_⟩ | h9
   · exact absurd J50 (by decide)
   exact h9
 have hst:=ordT_step (by rw [waD_len]) (by omega) C2 C3
 refine W.skip<|X.seq<|W.sr<|L.k rfl<|L.k rfl<|L.v (R1.atOwn (i:=m) rfl rfl hd Q110 rfl (by omega)) rfl<|L.storeBo rfl rfl hd (by omega) tyP4 ?_
 intro w9 hd' C9
 replace hL:=hL.mo C9;replace hO:=hO.mo C9;replace hu:=own_away (s':=1) (el':=0) (k':=0) (B':=0) (ys:=[]) hu C9 (by first | assumption | exact Away.symm (by assumption));replace C0:=Mod.oldOwn C0 C9 hd;clear C9;replace hd:=hd'; clear hd'
 refine L.z<|W.region<|L.k rfl<|L.k rfl<|L.build1 rfl rfl Q26 tyZ3 rfl ?_
 intro g57 w10 D57
 replace hL:=hL.gr D57.mod;replace hO:=hO.gr D57.mod;replace hu:=own_gs hu D57.mod;replace C0:=C0.trans D57.mod;replace hd:=own_gs hd D57.mod
 have hrow:Sl [] w10 1 (.slice (some ⟨g57,0,none⟩) 1 1) 1 [.int .i64 (fi (some m))]:=Sl.of_blk D57.blk 0 (Nat.le_refl _) (by decide) rfl (by simp) (fun j hj=>by simp)
 clear D57;have hall:=congrArg List.length hal
 rw [List.length_append] at hall
 have hle:=ordT_le cs os os
 refine L.append rfl rfl hu hrow (by simp [Value.oneCell']) Q26 tyZ3 (by omega) (by unfold maxLen; omega) C0.size rfl ?_
 intro v58 w11 O58' X58
 have haw_hd_hu_:=Away.grew haw_hd_hu X58 hd;replace hL:=hL.gw X58;replace hO:=hO.gw X58;replace C0:=Mod.oldOwn C0 X58.mod hu;replace hd:=own_away (s':=1) (el':=0) (k':=0) (B':=0) (ys:=[]) hd X58.mod (by first | assumption | exact Away.symm (by assumption));replace haw_hd_hu:=haw_hd_hu_; clear haw_hd_hu_;replace hu:=O58'; clear O58';clear X58
 refine L.b rfl<|L.nil<|X.blockEnd<|X.next (ds.set m true,v58,al ++ [m]) ?_ ?_ ?_
 · repeat' constructor
 ·
  exact ⟨hL.su,hO.su,hd,own_congr hu (by simp) (by rw [natsI_snoc,intsZ_append]; rfl),haw_hd_hu,C0,by simpa using hdl,by rw [waD_set (by omega) hdl,← hal,hst.1]; simp⟩
 dsimp only; rw [waD_set (by omega) hdl]; exact hst.2
end Go.Proofs.YthoooolflmbmbaaGreat
end
