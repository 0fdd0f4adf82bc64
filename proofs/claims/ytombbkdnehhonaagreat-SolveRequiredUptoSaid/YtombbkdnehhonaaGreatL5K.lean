/- Several texts in one. -/
import Derived.Test.YtombbkdnehhonaaGreatSoC
import Derived.Test.YtombbkdnehhonaaGreatSzA
section
namespace Go.Proofs.YtombbkdnehhonaaGreat
open Go.RowKit
set_option linter.unusedVariables false
set_option linter.unusedSimpArgs false
set_option maxRecDepth 10000
theorem sm150 {cs:List CR} (h:¬ 150<szCs cs):∀ c∈cs,SmC 150 c:=fun c hc=>sm_of_all (L:=150) (by omega) c hc
def szQs (qs:List QR):Nat:=(qs.map fun q=>szQ q + 1).sum
theorem szQs_len (qs:List QR):qs.length≤szQs qs:=by
  unfold szQs
  induction qs with
  | nil=>simp
  | cons t r ih=>simp only [List.map_cons,List.sum_cons,List.length_cons]; omega
theorem all_take {α:Type} {P:α→Prop} {l:List α} {i:Nat} {z:α} (hz:l[i]?=some z) (h:∀ s∈l.take i,P s) (h2:P z):∀ s∈l.take (i + 1),P s:=by
  obtain ⟨hi,rfl⟩:=List.getElem?_eq_some_iff.1 hz
  intro s hs
  rw [List.take_succ_eq_append_getElem hi] at hs
  rcases List.mem_append.1 hs with h1 | h1
  · exact h s h1
  rw [List.mem_singleton.1 h1]; exact h2
theorem c_heavy_pantographlaw15 {N9 : List Nat} {w : World} {vl : Value} {cs : List CR} (hL : Lay rdC N9 w vl cs) (hb : szCs cs ≤ 4194304) :
    Ret Tryz.prog 4 #[vl] w (fun x w'=>x=.bool (decide (150<szCs cs))∧Mod [] w w'):=by
 obtain ⟨TL,tL,rfl⟩:=hL.form;have hcl:=cs_len cs
 refine Ret.of (vs:=[.slice TL cs.length tL]) (n:=68) Tryz.func4 rfl rfl rfl rfl ?_
 have hm0:Mod [] w w:=Mod.refl _ _
 refine W.seq<|W.region<|L.a rfl rfl<|L.nil<|X.seq<|W.seq<|W.region<|L.a rfl rfl<|L.nil<|X.seq<|W.seq ?_
 refine W.seq<|W.region<|L.a rfl rfl<|L.nil<|X.seq<|W.block<|W.loop (ι:=Nat) (fun i=>[(0,.slice TL cs.length tL),(3,.int .i64 (((szCs (cs.take i)):Nat):Int)),(4,.int .i64 ((i:Nat):Int))]) (fun i w_=>i≤cs.length∧(szCs (cs.take i))≤150∧Lay rdC N9 w_ (.slice TL cs.length tL) cs∧Mod [] w w_) (fun i=>cs.length - i) 0 ?_ ?_ ?_
 · exact ⟨rfl,rfl,rfl,trivial⟩
 ·
  exact ⟨Nat.zero_le _,by simp [szCs],hL,hm0⟩
 rintro i w1 ⟨hi,hs,hL,hm0⟩
 refine W.seq<|W.seq<|W.region<|L.m rfl rfl<|L.m rfl rfl<|L.v (R1.lenLay rfl hL tyS22) rfl<|L.v (R1.lt rfl rfl) rfl<|L.nil<|X.seq<|W.cond rfl ?_ ?_
 ·
  intro hc9
  try simp only [bq,ne_eq] at hc9
  refine W.skip<|X.seq<|W.seq<|W.block<|W.seq<|W.drawW (T:=[]) rfl (by decide +kernel) (NoHang.then (NoHang.block (NoHang.then (NoHang.next (NoHang.block (NoHang.then NoHang.post)))))) (fun w2 hm2=>?_)
  replace hL:=hL.gr hm2;replace hm0:=hm0.trans hm2
  have hS1:Mod [] w2 w2:=Mod.refl _ _
  clear hm2
  refine D.m 0 rfl (by kernel_rfl) rfl hS1 rfl<|D.take 1 rfl (by kernel_rfl) (fun w_ hS=>(R1.addI (b:=2) rfl rfl (by omega))) hS1 rfl<|D.m 2 rfl (by kernel_rfl) rfl hS1 rfl<|D.m 3 rfl (by kernel_rfl) rfl hS1 rfl<|D.take 4 rfl (by kernel_rfl) (fun w_ hS=>(R1.atLay (j:=i) rfl rfl (Lay.gr hL hS) tyS22 rfl (by omega))) hS1 rfl<|D.take 5 rfl (by kernel_rfl) (fun w_ hS=>(R1.fieldAddr rfl tyF31_2)) hS1 rfl<|D.take 6 rfl (by kernel_rfl) (fun w_ hS=>(R1.fieldAddrE rfl tyF29_1)) hS1 rfl ?_
  obtain ⟨z19,cs19,hz19,hE19,vt19,ds19,rfl,ht19,vn19,vd19,rfl,hn19,hd19⟩:=Lay.elemQ hL (j:=i) (by omega);obtain ⟨T19,t19,rfl⟩:=ht19.form;obtain ⟨A19,c19,rfl⟩:=hn19.form;obtain ⟨B19,e19,rfl⟩:=hd19.form
  refine D.take 7 rfl (by kernel_rfl) (fun w_ hS=>(R1.loadEF rfl (SlE.gr hE19 hS) rfl tyP27)) hS1 rfl<|D.take 8 rfl (by kernel_rfl) (fun w_ hS=>(R1.len rfl tyS27)) hS1 rfl ?_
  have q19:=sum_elem_le szC hz19; have q19b:szC z19=2 + (z19.k.n.length + z19.k.d.length) + szTs z19.ts:=rfl; change szCs (cs.take i) + szC z19≤szCs cs at q19
  refine D.take 9 rfl (by kernel_rfl) (fun w_ hS=>(R1.addI rfl rfl (by omega))) hS1 rfl<|D.m 10 rfl (by kernel_rfl) rfl hS1 rfl<|D.m 11 rfl (by kernel_rfl) rfl hS1 rfl<|D.take 12 rfl (by kernel_rfl) (fun w_ hS=>(R1.atLay (j:=i) rfl rfl (Lay.gr hL hS) tyS22 rfl (by omega))) hS1 rfl<|D.take 13 rfl (by kernel_rfl) (fun w_ hS=>(R1.fieldAddr rfl tyF31_2)) hS1 rfl<|D.take 14 rfl (by kernel_rfl) (fun w_ hS=>(R1.fieldAddrE rfl tyF29_2)) hS1 rfl ?_
  obtain ⟨z27,cs27,hz27,hE27,vt27,ds27,rfl,ht27,vn27,vd27,rfl,hn27,hd27⟩:=Lay.elemQ hL (j:=i) (by omega);obtain ⟨T27,t27,rfl⟩:=ht27.form;obtain ⟨A27,c27,rfl⟩:=hn27.form;obtain ⟨B27,e27,rfl⟩:=hd27.form
  obtain rfl:z19=z27:=by have h9:=hz27; rw [hz19] at h9; injection h9
  refine D.take 15 rfl (by kernel_rfl) (fun w_ hS=>(R1.loadEF rfl (SlE.gr hE27 hS) rfl tyP27)) hS1 rfl<|D.take 16 rfl (by kernel_rfl) (fun w_ hS=>(R1.len rfl tyS27)) hS1 rfl<|D.take 17 rfl (by kernel_rfl) (fun w_ hS=>(R1.addI rfl rfl (by omega))) hS1 rfl<|D.take 18 rfl (by kernel_rfl) (fun w_ hS=>(R1.assign rfl)) hS1 rfl<|D.done (by decide +kernel) ?_ _
  refine X.seq<|W.seq<|W.seq<|W.region<|L.a rfl rfl<|L.nil<|X.seq<|W.block ?_
  have q19l:=ts_len z19.ts
  have q19c:szTs (z19.ts.take 0)=0:=rfl
  refine W.loop (ι:=Nat) (fun k=>[(0,.slice TL cs.length tL),(3,.int .i64 ((((szCs (cs.take i)) + (2 + szQ z19.k) + szTs (z19.ts.take k)):Nat):Int)),(4,.int .i64 ((i:Nat):Int)),(5,.int .i64 ((k:Nat):Int))]) (fun k w_=>k≤z19.ts.length∧Lay rdC N9 w_ (.slice TL cs.length tL) cs∧Mod [] w w_) (fun k=>z19.ts.length - k) 0 ?_ ?_ ?_
  · exact ⟨rfl,congrArg (fun n:Nat=>some (Value.int .i64 (n:Int))) (by rw [q19c]; unfold szQ; omega),rfl,rfl,trivial⟩
  ·
   exact ⟨Nat.zero_le _,hL,hm0⟩
  rintro k w3 ⟨hk,hL,hm0⟩
  have q20:szTs (z19.ts.take k)≤szTs z19.ts:=sum_take_le szT _ _
  have q21:szQ z19.k=z19.k.n.length + z19.k.d.length:=rfl
  refine W.seq<|W.seq<|W.region<|L.m rfl rfl<|L.m rfl rfl<|L.m rfl rfl<|L.v (R1.atLay (j:=i) rfl rfl hL tyS22 rfl (by omega)) rfl<|L.v (R1.fieldAddr rfl tyF31_1) rfl ?_
  obtain ⟨z35,cs35,hz35,hE35,vt35,ds35,rfl,ht35,vn35,vd35,rfl,hn35,hd35⟩:=Lay.elemQ hL (j:=i) (by omega);obtain ⟨T35,t35,rfl⟩:=ht35.form;obtain ⟨A35,c35,rfl⟩:=hn35.form;obtain ⟨B35,e35,rfl⟩:=hd35.form
  obtain rfl:z19=z35:=by have h9:=hz35; rw [hz19] at h9; injection h9
  refine L.v (R1.loadEF rfl hE35 rfl tyP26) rfl<|L.v (R1.lenLay rfl ht35 tyS26) rfl<|L.v (R1.lt rfl rfl) rfl<|L.nil<|X.seq<|W.cond rfl ?_ ?_
  ·
   intro hc37
   try simp only [bq,ne_eq] at hc37
   refine W.skip<|X.seq<|W.seq<|W.block<|W.drawW (T:=[]) rfl (by decide +kernel) (NoHang.block (NoHang.then (NoHang.next (NoHang.block (NoHang.then (NoHang.block (NoHang.then (NoHang.next (NoHang.block (NoHang.then NoHang.post)))))))))) (fun w4 hm4=>?_)
   replace hL:=hL.gr hm4;replace hm0:=hm0.trans hm4
   have hS2:Mod [] w4 w4:=Mod.refl _ _
   clear hm4
   refine D.m 0 rfl (by kernel_rfl) rfl hS2 rfl<|D.take 1 rfl (by kernel_rfl) (fun w_ hS=>(R1.addI (b:=1) rfl rfl (by omega))) hS2 rfl<|D.m 2 rfl (by kernel_rfl) rfl hS2 rfl<|D.m 3 rfl (by kernel_rfl) rfl hS2 rfl<|D.take 4 rfl (by kernel_rfl) (fun w_ hS=>(R1.atLay (j:=i) rfl rfl (Lay.gr hL hS) tyS22 rfl (by omega))) hS2 rfl<|D.take 5 rfl (by kernel_rfl) (fun w_ hS=>(R1.fieldAddr rfl tyF31_1)) hS2 rfl ?_
   obtain ⟨z46,cs46,hz46,hE46,vt46,ds46,rfl,ht46,vn46,vd46,rfl,hn46,hd46⟩:=Lay.elemQ hL (j:=i) (by omega);obtain ⟨T46,t46,rfl⟩:=ht46.form;obtain ⟨A46,c46,rfl⟩:=hn46.form;obtain ⟨B46,e46,rfl⟩:=hd46.form
   obtain rfl:z19=z46:=by have h9:=hz46; rw [hz19] at h9; injection h9
   refine D.take 6 rfl (by kernel_rfl) (fun w_ hS=>(R1.loadEF rfl (SlE.gr hE46 hS) rfl tyP26)) hS2 rfl<|D.m 7 rfl (by kernel_rfl) rfl hS2 rfl<|D.take 8 rfl (by kernel_rfl) (fun w_ hS=>(R1.atLay (j:=k) rfl rfl (Lay.gr ht46 hS) tyS26 rfl (by omega))) hS2 rfl<|D.take 9 rfl (by kernel_rfl) (fun w_ hS=>(R1.fieldAddr rfl tyF46_1)) hS2 rfl<|D.take 10 rfl (by kernel_rfl) (fun w_ hS=>(R1.fieldAddrE rfl tyF29_1)) hS2 rfl ?_
   obtain ⟨z51,cs51,hz51,hE51,ds51,rfl,vn51,vd51,rfl,hn51,hd51⟩:=Lay.elemQ ht46 (j:=k) (by omega);obtain ⟨A51,c51,rfl⟩:=hn51.form;obtain ⟨B51,e51,rfl⟩:=hd51.form
   refine D.take 11 rfl (by kernel_rfl) (fun w_ hS=>(R1.loadEF rfl (SlE.gr hE51 hS) rfl tyP27)) hS2 rfl<|D.take 12 rfl (by kernel_rfl) (fun w_ hS=>(R1.len rfl tyS27)) hS2 rfl ?_
   have q51:=sum_elem_le szT hz51; have q51b:szT z51=1 + (z51.c.n.length + z51.c.d.length):=rfl; change szTs (z19.ts.take k) + szT z51≤szTs z19.ts at q51
   refine D.take 13 rfl (by kernel_rfl) (fun w_ hS=>(R1.addI rfl rfl (by omega))) hS2 rfl<|D.m 14 rfl (by kernel_rfl) rfl hS2 rfl<|D.m 15 rfl (by kernel_rfl) rfl hS2 rfl<|D.take 16 rfl (by kernel_rfl) (fun w_ hS=>(R1.atLay (j:=i) rfl rfl (Lay.gr hL hS) tyS22 rfl (by omega))) hS2 rfl<|D.take 17 rfl (by kernel_rfl) (fun w_ hS=>(R1.fieldAddr rfl tyF31_1)) hS2 rfl ?_
   obtain ⟨z58,cs58,hz58,hE58,vt58,ds58,rfl,ht58,vn58,vd58,rfl,hn58,hd58⟩:=Lay.elemQ hL (j:=i) (by omega);obtain ⟨T58,t58,rfl⟩:=ht58.form;obtain ⟨A58,c58,rfl⟩:=hn58.form;obtain ⟨B58,e58,rfl⟩:=hd58.form
   obtain rfl:z19=z58:=by have h9:=hz58; rw [hz19] at h9; injection h9
   refine D.take 18 rfl (by kernel_rfl) (fun w_ hS=>(R1.loadEF rfl (SlE.gr hE58 hS) rfl tyP26)) hS2 rfl<|D.m 19 rfl (by kernel_rfl) rfl hS2 rfl<|D.take 20 rfl (by kernel_rfl) (fun w_ hS=>(R1.atLay (j:=k) rfl rfl (Lay.gr ht58 hS) tyS26 rfl (by omega))) hS2 rfl<|D.take 21 rfl (by kernel_rfl) (fun w_ hS=>(R1.fieldAddr rfl tyF46_1)) hS2 rfl<|D.take 22 rfl (by kernel_rfl) (fun w_ hS=>(R1.fieldAddrE rfl tyF29_2)) hS2 rfl ?_
   obtain ⟨z63,cs63,hz63,hE63,ds63,rfl,vn63,vd63,rfl,hn63,hd63⟩:=Lay.elemQ ht58 (j:=k) (by omega);obtain ⟨A63,c63,rfl⟩:=hn63.form;obtain ⟨B63,e63,rfl⟩:=hd63.form
   obtain rfl:z51=z63:=by have h9:=hz63; rw [hz51] at h9; injection h9
   refine D.take 23 rfl (by kernel_rfl) (fun w_ hS=>(R1.loadEF rfl (SlE.gr hE63 hS) rfl tyP27)) hS2 rfl<|D.take 24 rfl (by kernel_rfl) (fun w_ hS=>(R1.len rfl tyS27)) hS2 rfl<|D.take 25 rfl (by kernel_rfl) (fun w_ hS=>(R1.addI rfl rfl (by omega))) hS2 rfl<|D.take 26 rfl (by kernel_rfl) (fun w_ hS=>(R1.assign rfl)) hS2 rfl<|D.done (by decide +kernel) ?_ _
   refine X.blockEnd<|X.seq<|W.region<|L.m rfl rfl<|L.v (R1.addI (b:=1) rfl rfl (by omega)) rfl<|L.a rfl rfl<|L.nil<|X.next (k + 1) ?_ ?_ ?_
   · refine ⟨rfl,?_,rfl,rfl,trivial⟩; simp only [lk,Nat.beq,cond_true,cond_false]; exact congrArg (fun n:Nat=>some (Value.int .i64 (n:Int))) (by have:=sum_take_succ szT hz51; unfold szTs at *; rw [this]; omega)
   ·
    exact ⟨by omega,hL,hm0⟩
   first | omega | (dsimp only; omega)
  intro hc37
  try simp only [bq,ne_eq] at hc37
  obtain rfl:k=z19.ts.length:=by omega
  refine W.exit<|X.thenExit<|X.nextExit<|X.here<|X.seq<|W.seq<|W.region<|L.m rfl rfl<|L.v (R1.gt rfl rfl) rfl<|L.nil<|X.seq ?_
  refine W.cond rfl ?_ ?_
  ·
   intro hc67
   try simp only [bq,ne_eq] at hc67
   refine W.seq<|W.region<|L.a rfl rfl<|L.nil<|X.seq<|W.ret<|X.blockRet<|X.thenRet<|X.nextRet<|X.blockRet<|X.thenRet ?_
   refine X.result1 rfl (.tmp rfl .nil)<|⟨?_,hm0⟩
   rw [decide_eq_true]
   have:=sum_elem_le szC hz19
   rw [List.take_length] at hc67
   unfold szCs at *
   omega
  intro hc67
  try simp only [bq,ne_eq] at hc67
  refine W.skip<|X.blockEnd<|X.seq<|W.region<|L.m rfl rfl<|L.v (R1.addI (b:=1) rfl rfl (by omega)) rfl<|L.a rfl rfl<|L.nil ?_
  have hsum:szCs (cs.take (i + 1))=szCs (cs.take i) + (2 + szQ z19.k) + szTs (z19.ts.take z19.ts.length):=by
    rw [List.take_length]; have:=sum_take_succ szC hz19; unfold szCs; rw [this]; unfold szC; omega
  refine X.next (i + 1) ?_ ?_ ?_
  · refine ⟨rfl,?_,rfl,trivial⟩; simp only [lk,Nat.beq,cond_true,cond_false]; rw [hsum]
  ·
   refine ⟨by omega,by rw [hsum]; omega,hL,hm0⟩
  first | omega | (dsimp only; omega)
 intro hc9
 try simp only [bq,ne_eq] at hc9
 obtain rfl:i=cs.length:=by omega
 refine W.exit<|X.thenExit<|X.nextExit<|X.here<|X.seq<|W.seq<|W.region<|L.a rfl rfl<|L.nil<|X.seq<|W.ret ?_
 refine X.result1 rfl (.tmp rfl .nil)<|⟨?_,hm0⟩
 rw [List.take_length] at hs
 rw [decide_eq_false (by omega)]
theorem c_many_pantographlaw15 {N9 : List Nat} {w : World} {vl : Value} {val : List QR} (hL : Lay rdQ N9 w vl val) (hb : szQs val ≤ 4194304) :
    Ret Tryz.prog 5 #[vl] w (fun x w'=>∃ b,x=.bool b∧(b=false→(∀ q∈val,SmQ 3 q)∧val.length≤100)∧Mod [] w w'):=by
 obtain ⟨TL,tL,rfl⟩:=hL.form;have hcl:=szQs_len val
 refine Ret.of (vs:=[.slice TL val.length tL]) (n:=47) Tryz.func5 rfl rfl rfl rfl ?_
 have hm0:Mod [] w w:=Mod.refl _ _
 refine W.seq<|W.region<|L.a rfl rfl<|L.nil<|X.seq<|W.seq<|W.region<|L.a rfl rfl<|L.nil<|X.seq<|W.seq ?_
 refine W.seq<|W.region<|L.a rfl rfl<|L.nil<|X.seq<|W.block<|W.loop (ι:=Nat) (fun i=>[(0,.slice TL val.length tL),(3,.int .i64 (((szQs (val.take i)):Nat):Int)),(4,.int .i64 ((i:Nat):Int))]) (fun i w_=>i≤val.length∧(szQs (val.take i))≤100∧(∀ q∈val.take i,SmQ 3 q)∧Lay rdQ N9 w_ (.slice TL val.length tL) val∧Mod [] w w_) (fun i=>val.length - i) 0 ?_ ?_ ?_
 · exact ⟨rfl,rfl,rfl,trivial⟩
 ·
  exact ⟨Nat.zero_le _,by simp [szQs],(fun q h=>by cases h),hL,hm0⟩
 rintro i w1 ⟨hi,hs,hq,hL,hm0⟩
 refine W.seq<|W.seq<|W.region<|L.m rfl rfl<|L.m rfl rfl<|L.v (R1.lenLay rfl hL tyS23) rfl<|L.v (R1.lt rfl rfl) rfl<|L.nil<|X.seq<|W.cond rfl ?_ ?_
 ·
  intro hc8
  try simp only [bq,ne_eq] at hc8
  refine W.skip<|X.seq<|W.seq<|W.block<|W.seq<|W.drawW (T:=[]) rfl (by decide +kernel) (NoHang.then (NoHang.block (NoHang.then (NoHang.next (NoHang.block (NoHang.then NoHang.post)))))) (fun w2 hm2=>?_)
  replace hL:=hL.gr hm2;replace hm0:=hm0.trans hm2
  have hS1:Mod [] w2 w2:=Mod.refl _ _
  clear hm2
  refine D.m 0 rfl (by kernel_rfl) rfl hS1 rfl<|D.take 1 rfl (by kernel_rfl) (fun w_ hS=>(R1.addI (b:=1) rfl rfl (by omega))) hS1 rfl<|D.m 2 rfl (by kernel_rfl) rfl hS1 rfl<|D.m 3 rfl (by kernel_rfl) rfl hS1 rfl<|D.take 4 rfl (by kernel_rfl) (fun w_ hS=>(R1.atLay (j:=i) rfl rfl (Lay.gr hL hS) tyS23 rfl (by omega))) hS1 rfl<|D.take 5 rfl (by kernel_rfl) (fun w_ hS=>(R1.fieldAddr rfl tyF29_1)) hS1 rfl ?_
  obtain ⟨z17,cs17,hz17,hE17,vn17,vd17,rfl,hn17,hd17⟩:=Lay.elemQ hL (j:=i) (by omega);obtain ⟨A17,c17,rfl⟩:=hn17.form;obtain ⟨B17,e17,rfl⟩:=hd17.form
  refine D.take 6 rfl (by kernel_rfl) (fun w_ hS=>(R1.loadEF rfl (SlE.gr hE17 hS) rfl tyP27)) hS1 rfl<|D.take 7 rfl (by kernel_rfl) (fun w_ hS=>(R1.len rfl tyS27)) hS1 rfl ?_
  have q17:=sum_elem_le (fun q=>szQ q + 1) hz17; have q17b:szQ z17=z17.n.length + z17.d.length:=rfl; change szQs (val.take i) + (szQ z17 + 1)≤szQs val at q17
  refine D.take 8 rfl (by kernel_rfl) (fun w_ hS=>(R1.addI rfl rfl (by omega))) hS1 rfl<|D.m 9 rfl (by kernel_rfl) rfl hS1 rfl<|D.m 10 rfl (by kernel_rfl) rfl hS1 rfl<|D.take 11 rfl (by kernel_rfl) (fun w_ hS=>(R1.atLay (j:=i) rfl rfl (Lay.gr hL hS) tyS23 rfl (by omega))) hS1 rfl<|D.take 12 rfl (by kernel_rfl) (fun w_ hS=>(R1.fieldAddr rfl tyF29_2)) hS1 rfl ?_
  obtain ⟨z24,cs24,hz24,hE24,vn24,vd24,rfl,hn24,hd24⟩:=Lay.elemQ hL (j:=i) (by omega);obtain ⟨A24,c24,rfl⟩:=hn24.form;obtain ⟨B24,e24,rfl⟩:=hd24.form
  obtain rfl:z17=z24:=by have h9:=hz24; rw [hz17] at h9; injection h9
  refine D.take 13 rfl (by kernel_rfl) (fun w_ hS=>(R1.loadEF rfl (SlE.gr hE24 hS) rfl tyP27)) hS1 rfl<|D.take 14 rfl (by kernel_rfl) (fun w_ hS=>(R1.len rfl tyS27)) hS1 rfl<|D.take 15 rfl (by kernel_rfl) (fun w_ hS=>(R1.addI rfl rfl (by omega))) hS1 rfl<|D.take 16 rfl (by kernel_rfl) (fun w_ hS=>(R1.assign rfl)) hS1 rfl<|D.done (by decide +kernel) ?_ _
  refine X.seq<|W.seq ?_
  have hsum:szQs (val.take (i + 1))=szQs (val.take i) + (szQ z17 + 1):=sum_take_succ (fun q=>szQ q + 1) hz17
  refine W.region<|L.m rfl rfl<|L.v ((R1.gt rfl rfl).asB (c:=decide (100<szQs (val.take (i + 1)))) (by congr 1; apply propext; rw [hsum]; omega)) rfl<|L.m rfl rfl ?_
  cases hgd29:decide (100<szQs (val.take (i + 1)))
  ·
   simp only [bq] at hgd29
   refine L.on rfl rfl rfl (R1.move rfl) rfl<|L.on rfl rfl rfl (R1.move rfl) rfl<|L.on rfl rfl rfl (R1.atLay (j:=i) rfl rfl hL tyS23 rfl (by omega)) rfl<|L.on rfl rfl rfl (R1.fieldAddr rfl tyF29_1) rfl ?_
   obtain ⟨z34,cs34,hz34,hE34,vn34,vd34,rfl,hn34,hd34⟩:=Lay.elemQ hL (j:=i) (by omega);obtain ⟨A34,c34,rfl⟩:=hn34.form;obtain ⟨B34,e34,rfl⟩:=hd34.form
   obtain rfl:z17=z34:=by have h9:=hz34; rw [hz17] at h9; injection h9
   refine L.on rfl rfl rfl (R1.loadEF rfl hE34 rfl tyP27) rfl<|L.on rfl rfl rfl (R1.len rfl tyS27) rfl<|L.on rfl rfl rfl ((R1.gt rfl rfl).asB (c:=decide (3<z17.n.length)) (by congr 1; apply propext; omega)) rfl<|L.v (R1.pickF rfl rfl) rfl<|L.m rfl rfl ?_
   cases hgd38:decide (3<z17.n.length)
   ·
    simp only [bq] at hgd38
    refine L.on rfl rfl rfl (R1.move rfl) rfl<|L.on rfl rfl rfl (R1.move rfl) rfl<|L.on rfl rfl rfl (R1.atLay (j:=i) rfl rfl hL tyS23 rfl (by omega)) rfl<|L.on rfl rfl rfl (R1.fieldAddr rfl tyF29_2) rfl ?_
    obtain ⟨z43,cs43,hz43,hE43,vn43,vd43,rfl,hn43,hd43⟩:=Lay.elemQ hL (j:=i) (by omega);obtain ⟨A43,c43,rfl⟩:=hn43.form;obtain ⟨B43,e43,rfl⟩:=hd43.form
    obtain rfl:z17=z43:=by have h9:=hz43; rw [hz17] at h9; injection h9
    refine L.on rfl rfl rfl (R1.loadEF rfl hE43 rfl tyP27) rfl<|L.on rfl rfl rfl (R1.len rfl tyS27) rfl<|L.on rfl rfl rfl ((R1.gt rfl rfl).asB (c:=decide (3<z17.d.length)) (by congr 1; apply propext; omega)) rfl<|L.v (R1.pickF rfl rfl) rfl<|L.nil<|X.seq<|W.cond rfl ?_ ?_
    ·
     intro hc46
     simp only [bq] at hc46
     refine W.seq<|W.region<|L.a rfl rfl<|L.nil<|X.seq<|W.ret<|X.blockRet<|X.thenRet<|X.nextRet<|X.blockRet<|X.thenRet ?_
     refine X.result1 rfl (.tmp rfl .nil) ?_
     exact ⟨true,rfl,(fun h=>by cases h),hm0⟩
    intro hc46
    simp only [bq] at hc46
    refine W.skip<|X.blockEnd<|X.seq<|W.region<|L.m rfl rfl<|L.v (R1.addI (b:=1) rfl rfl (by omega)) rfl<|L.a rfl rfl<|L.nil<|X.next (i + 1) ?_ ?_ ?_
    · refine ⟨rfl,congrArg (fun n:Nat=>some (Value.int .i64 (n:Int))) (by rw [hsum]; unfold szQ; omega),rfl,trivial⟩
    ·
     exact ⟨by omega,by omega,all_take hz17 hq ⟨by omega,by omega⟩,hL,hm0⟩
    first | omega | (dsimp only; omega)
   simp only [bq] at hgd38
   refine L.off rfl rfl rfl rfl rfl<|L.off rfl rfl rfl rfl rfl<|L.off rfl rfl rfl rfl rfl<|L.off rfl rfl rfl rfl rfl<|L.off rfl rfl rfl rfl rfl<|L.off rfl rfl rfl rfl rfl<|L.off rfl rfl rfl rfl rfl<|L.v (R1.pickT rfl rfl) rfl<|L.nil<|X.seq<|W.condT rfl ?_
   refine W.seq<|W.region<|L.a rfl rfl<|L.nil<|X.seq<|W.ret<|X.blockRet<|X.thenRet<|X.nextRet<|X.blockRet<|X.thenRet ?_
   refine X.result1 rfl (.tmp rfl .nil) ?_
   exact ⟨true,rfl,(fun h=>by cases h),hm0⟩
  simp only [bq] at hgd29
  refine L.off rfl rfl rfl rfl rfl<|L.off rfl rfl rfl rfl rfl<|L.off rfl rfl rfl rfl rfl<|L.off rfl rfl rfl rfl rfl<|L.off rfl rfl rfl rfl rfl<|L.off rfl rfl rfl rfl rfl<|L.off rfl rfl rfl rfl rfl<|L.v (R1.pickT rfl rfl) rfl<|L.m rfl rfl<|L.off rfl rfl rfl rfl rfl<|L.off rfl rfl rfl rfl rfl ?_
  refine L.off rfl rfl rfl rfl rfl<|L.off rfl rfl rfl rfl rfl<|L.off rfl rfl rfl rfl rfl<|L.off rfl rfl rfl rfl rfl<|L.off rfl rfl rfl rfl rfl<|L.v (R1.pickT rfl rfl) rfl<|L.nil<|X.seq<|W.condT rfl<|W.seq<|W.region ?_
  refine L.a rfl rfl<|L.nil<|X.seq<|W.ret<|X.blockRet<|X.thenRet<|X.nextRet<|X.blockRet<|X.thenRet<|X.result1 rfl (.tmp rfl .nil) ?_
  exact ⟨true,rfl,(fun h=>by cases h),hm0⟩
 intro hc8
 try simp only [bq,ne_eq] at hc8
 obtain rfl:i=val.length:=by omega
 refine W.exit<|X.thenExit<|X.nextExit<|X.here<|X.seq<|W.seq<|W.region<|L.a rfl rfl<|L.nil<|X.seq<|W.ret ?_
 refine X.result1 rfl (.tmp rfl .nil) ?_
 rw [List.take_length] at hq hs
 exact ⟨false,rfl,(fun _=>⟨hq,by omega⟩),hm0⟩
end Go.Proofs.YtombbkdnehhonaaGreat
end
section
namespace Go.Proofs.YtombbkdnehhonaaGreat
open Go.RowKit
set_option linter.unusedVariables false
set_option linter.unusedSimpArgs false
set_option maxRecDepth 10000
def setAll (wa:List Int) (l:List Nat):List Int:=l.foldl (fun w i=>w.set i (-1)) wa
theorem nf_is (q:Rat):(QR.nf q).is=true:=by
  unfold QR.is isN QR.nf
  simp only [rv_toL]
  simp
theorem nf_sm2 {z:Int} (h:z.natAbs<4294967296):SmQ 2 (QR.nf ((z:Int):Rat)):=by
  constructor
  · show (toL ((z:Int):Rat).num.natAbs).length≤2
    rw [Rat.num_intCast]
    by_cases h0:z.natAbs=0
    · rw [h0,toL_zero]; decide
    rw [toL_small h0 h]; simp
  show (toL ((z:Int):Rat).den).length≤2
  rw [Rat.den_intCast,toL_1]; decide
theorem nf_len {z:Int} (h0:z.natAbs≠0) (h:z.natAbs<4294967296):(QR.nf ((z:Int):Rat)).n.length=1:=by
  show (toL ((z:Int):Rat).num.natAbs).length=1
  rw [Rat.num_intCast,toL_small h0 h]; rfl
theorem runL_err (cs:List CR) (os:List Int):∀ (L:List Nat) (vs:List QR),(runL cs os L vs).2.2=0∨(runL cs os L vs).2.2=8
  | [],vs=>.inl rfl
  | i :: L,vs=>by
    rw [runL]
    split
    · exact .inr rfl
    exact runL_err cs os L _
theorem runZ_err {cs:List CR} {os:List Int} {val:List QR} (h:ChB (val.length:Int) cs os=true):(runZ cs os val).2.2=0∨(runZ cs os val).2.2=8:=by
  unfold runZ; rw [if_pos h]; exact runL_err cs os _ _
def kE (x:Int):CR:=⟨0,[⟨0,QR.nf ((1:Int):Rat)⟩],QR.nf ((-x:Int):Rat)⟩
theorem kE_is (x:Int):isC (kE x) 1=true:=by
  show (decide ((0:Int)≤0) && (decide ((0:Int)≤4) && ((QR.nf ((-x:Int):Rat)).is && (decide ((0:Int)≤0) && (decide ((0:Int)<1) && ((QR.nf ((1:Int):Rat)).is && (decide ((QR.nf ((1:Int):Rat)).n.length≠0) && true)))))))=true
  rw [nf_is,nf_is,nf_len (by decide) (by decide)]; decide
theorem k_ws5:wsOf 1 [kE 1,kE 2]=[[0],[0]]:=by
  show [wOf 1 (kE 1),wOf 1 (kE 2)]=_
  unfold wOf
  rw [if_pos (show isC (kE 1) ((1:Nat):Int)=true from kE_is 1),if_pos (show isC (kE 2) ((1:Nat):Int)=true from kE_is 2)]; rfl
theorem k_first5:firstW (List.range 1) (wsOf 1 [kE 1,kE 2]) 0=none:=by rw [k_ws5]; decide
theorem k_all5:∀ c∈[kE 1,kE 2],isC c ((1:Nat):Int)=true:=fun c hc=>by
  rcases List.mem_cons.1 hc with rfl | hc
  · exact kE_is 1
  rw [List.mem_singleton.1 hc]; exact kE_is 2
theorem k_ch5:ChB ((1:Nat):Int) [kE 1,kE 2] [-1,-1]=true:=by
  refine decide_eq_true ⟨by decide,by decide,by decide,by decide,fun j hj=>?_,k_first5⟩
  have hj2:j<2:=hj
  rcases (show j=0∨j=1 by omega) with rfl | rfl
  · exact ⟨kE_is 1,.inl (by decide)⟩
  exact ⟨kE_is 2,.inl (by decide)⟩
theorem k_p51:passF 1 [[0],[0]] [0,0] [-1,-1]=[0,-1]:=by decide +kernel
theorem k_p52:passF 1 [[0],[0]] [0,0] [0,-1]=[0,-1]:=by decide +kernel
theorem k_st5:stS [kE 1,kE 2]=[0,0]:=rfl
theorem k_set5:setZ ((1:Nat):Int) [kE 1,kE 2] [-1,-1]=[0,-1]:=by
  have hC:=ChoZ.of k_ch5;have hc:=hC.c;have hs:=hC.st
  rw [setZ_yes k_ch5]
  unfold setlZ
  rw [k_st5,k_ws5] at hs ⊢
  rw [k_ws5] at hc
  rw [← setl_step hs hc,k_p51]
  exact setl_same k_p52
theorem k_ph:phZ [kE 1,kE 2] [-1,-1] [QR.nf ((0:Int):Rat)]=(([],[]),1,10):=by
  have hm:mayP [kE 1,kE 2] [-1,-1] 1:=⟨by decide,by decide,by decide,by decide,k_all5⟩
  have hb:badF [kE 1,kE 2] [0,-1]=some 1:=badF_at (by decide) (by
    show (decide ((0:Int)=0) && (decide ((-1:Int)<0) && !(decide ((1:Nat)=0) && decide (QR.val (kE 2).k=0))))=true
    rfl) (fun j hj=>by
    obtain rfl:j=0:=by omega
    show (decide ((0:Int)=0) && (decide ((0:Int)<0) && _))=false
    rfl)
  exact phZ_bad (i:=1) (val:=[QR.nf ((0:Int):Rat)]) hm k_first5 k_ch5 (by
    show badF [kE 1,kE 2] (setZ ((1:Nat):Int) [kE 1,kE 2] [-1,-1])=some 1
    rw [k_set5]; exact hb)
end Go.Proofs.YtombbkdnehhonaaGreat
end
section
namespace Go.Proofs.YtombbkdnehhonaaGreat
open Go.RowKit
set_option linter.unusedVariables false
set_option linter.unusedSimpArgs false
set_option maxRecDepth 10000
theorem built_C12 (T:Option Addr) (l t:Nat) (s0:Bool) (A0:Option Addr) (n0 c0:Nat) (B0:Option Addr) (m0 d0:Nat):Tryz.prog.built 31 [(1,.slice T l t),(2,.agg #[.bool s0,.slice A0 n0 c0,.slice B0 m0 d0])]=some #[.int .i64 0,.slice T l t,.bool s0,.slice A0 n0 c0,.slice B0 m0 d0]:=by kernel_rfl
theorem fillK2 (v1:Int) (T1:Option Addr) (l1 t1:Nat) (s1:Bool) (A1:Option Addr) (n1 c1:Nat) (B1:Option Addr) (m1 d1:Nat) (v2:Int) (T2:Option Addr) (l2 t2:Nat) (s2:Bool) (A2:Option Addr) (n2 c2:Nat) (B2:Option Addr) (m2 d2:Nat):Instr.fill (fun i=>some (i * 5,5)) ((Array.range (2 * 5)).map ((Value.agg #[.int .i64 0,.slice none 0 0,.bool false,.slice none 0 0,.slice none 0 0]).cells[· % (Value.agg #[.int .i64 0,.slice none 0 0,.bool false,.slice none 0 0,.slice none 0 0]).cells.size]!)) [(0,.agg #[.int .i64 v1,.slice T1 l1 t1,.bool s1,.slice A1 n1 c1,.slice B1 m1 d1]),(1,.agg #[.int .i64 v2,.slice T2 l2 t2,.bool s2,.slice A2 n2 c2,.slice B2 m2 d2])]=some #[.int .i64 v1,.slice T1 l1 t1,.bool s1,.slice A1 n1 c1,.slice B1 m1 d1,.int .i64 v2,.slice T2 l2 t2,.bool s2,.slice A2 n2 c2,.slice B2 m2 d2]:=by kernel_rfl
theorem fillI2 (a b:Int):Instr.fill (fun i=>some (i * 1,1)) ((Array.range (2 * 1)).map ((Value.int .i64 0).cells[· % (Value.int .i64 0).cells.size]!)) [(0,.int .i64 a),(1,.int .i64 b)]=some #[.int .i64 a,.int .i64 b]:=by kernel_rfl
theorem k_sm:∀ c∈[kE 1,kE 2],SmC 150 c:=fun c hc=>by
  have h1:∀ z:Int,z.natAbs<4294967296→SmQ 150 (QR.nf ((z:Int):Rat)):=fun z hz=>⟨Nat.le_trans (nf_sm2 hz).1 (by decide),Nat.le_trans (nf_sm2 hz).2 (by decide)⟩
  rcases List.mem_cons.1 hc with rfl | hc
  · exact ⟨by show 1≤150; decide,h1 (-1) (by decide),fun t ht=>by rw [List.mem_singleton.1 ht]; exact h1 _ (by decide)⟩
  rw [List.mem_singleton.1 hc]
  exact ⟨by show 1≤150; decide,h1 (-2) (by decide),fun t ht=>by rw [List.mem_singleton.1 ht]; exact h1 _ (by decide)⟩
theorem k_sv:∀ q∈[QR.nf ((0:Int):Rat)],SmQ 16 q:=fun q hq=>by
  rw [List.mem_singleton.1 hq]
  exact ⟨Nat.le_trans (nf_sm2 (z:=0) (by decide)).1 (by decide),Nat.le_trans (nf_sm2 (z:=0) (by decide)).2 (by decide)⟩
theorem c_equals {w : World} {x : Int} (hx : 0 ≤ x ∧ x ≤ 10) :
    Ret Tryz.prog 23 #[.int .i64 x] w (fun r w'=>∃ T t A c B e,r=.agg #[.int .i64 0,.slice T 1 t,.bool (decide ((((-x:Int)):Rat).num<0)),.slice A (toL (((-x:Int)):Rat).num.natAbs).length c,.slice B (toL (((-x:Int)):Rat).den).length e]∧Lay rdT [] w' (.slice T 1 t) (kE x).ts∧U32 [] w' (.slice A (toL (((-x:Int)):Rat).num.natAbs).length c) (toL (((-x:Int)):Rat).num.natAbs)∧U32 [] w' (.slice B (toL (((-x:Int)):Rat).den).length e) (toL (((-x:Int)):Rat).den)∧Mod [] w w'):=by
 have hbd:Bd [] w:=fun m h9=>by cases h9
 refine Ret.of (vs:=[.int .i64 x]) (n:=10) Tryz.func23 rfl rfl rfl rfl ?_
 have hm0:Mod [] w w:=Mod.refl _ _
 refine W.seq<|W.region<|L.alloc tyZ31 rfl ?_
 intro g2 w1 hN2
 replace hbd:=hbd.new hN2;have hge_g2:=New.ge hN2 hm0.size;replace hm0:=hm0.trans (hN2.mod.mono (by simp));have hb2:=hN2.blk;clear hN2
 refine L.nil<|X.seq<|W.seq<|W.region<|L.call rfl (c_ref2_Int (n:=1) (by decide) (by decide) hbd) rfl ?_
 rintro _ w2 ⟨⟨A3,c3,B3,e3,rfl,hn3,hd3⟩,hm2⟩
 replace hbd:=hbd.gr hm2;replace hm0:=hm0.trans hm2;replace hb2:=Blk.gr hb2 hm2;clear hm2;have F3:=Fit.int (n:=1) (by decide) (by decide)
 refine L.v (R1.build (vs:=[.int .i64 0,.agg #[.bool (decide ((((1:Int)):Rat).num<0)),.slice A3 (toL (((1:Int)):Rat).num.natAbs).length c3,.slice B3 (toL (((1:Int)):Rat).den).length e3]]) rfl (built_T01 _ _ _ _ _ _ _ _)) rfl<|L.buildSlice (cells:=[.int .i64 0,.bool (decide ((((1:Int)):Rat).num<0)),.slice A3 (toL (((1:Int)):Rat).num.natAbs).length c3,.slice B3 (toL (((1:Int)):Rat).den).length e3]) rfl tyS26 tyZ46 (fillN1 _ _ _ _ _ _ _ _) (by decide) (by decide) rfl ?_
 intro g5 w3 hN5
 replace hbd:=hbd.new hN5;replace hm0:=hm0.trans (hN5.mod.mono (by simp));have hne_g2_g5:=hb2.ne_ hN5;replace hb2:=Blk.gr hb2 hN5.mod;replace hn3:=hn3.new hN5;replace hd3:=hd3.new hN5;have hb5:=hN5.blk;clear hN5
 have hT5:Lay rdT [g2] w3 (.slice (some ⟨g5,0,none⟩) 1 1) (kE x).ts:=Lay.of_blk (css:=[[.int .i64 0,.bool (decide ((((1:Int)):Rat).num<0)),.slice A3 (toL (((1:Int)):Rat).num.natAbs).length c3,.slice B3 (toL (((1:Int)):Rat).den).length e3]]) hb5 (LayL.one _ (⟨0,QR.nf (((1:Int)):Rat)⟩:TR) (rdT_mk (t:=⟨0,QR.nf (((1:Int)):Rat)⟩) (hn3.sub (by simp)) (hd3.sub (by simp)))) rfl rfl (by decide) (by simp only [List.mem_singleton]; exact Ne.symm hne_g2_g5)
 refine L.m rfl rfl<|L.v ((R1.neg rfl).as (wrap_i64 (by omega) (by omega))) rfl<|L.call rfl (c_ref2_Int (n:=(-x)) (by omega) (by omega) hbd) rfl ?_
 rintro _ w4 ⟨⟨A8,c8,B8,e8,rfl,hn8,hd8⟩,hm4⟩
 replace hm0:=hm0.trans hm4;replace hb2:=Blk.gr hb2 hm4;replace hT5:=hT5.gr hm4;clear hm4;have F8:=Fit.int (n:=(-x)) (by omega) (by omega)
 refine L.v (R1.build (vs:=[.slice (some ⟨g5,0,none⟩) 1 1,.agg #[.bool (decide ((((-x:Int)):Rat).num<0)),.slice A8 (toL (((-x:Int)):Rat).num.natAbs).length c8,.slice B8 (toL (((-x:Int)):Rat).den).length e8]]) rfl (built_C12 _ _ _ _ _ _ _ _ _ _)) rfl<|L.storeBox rfl rfl hb2 rfl rfl tyG31 ?_
 intro w5 hb2' hm5
 replace hm0:=hm0.old1 hm5 hge_g2;replace hT5:=hT5.mod hm5 (by simp);replace hn8:=hn8.mod hm5 (by simp);replace hd8:=hd8.mod hm5 (by simp);clear hm5;replace hb2:=hb2'; clear hb2'
 refine L.nil<|X.seq<|W.ret<|X.result1 rfl (.cell rfl (loadVar_blk hb2 tyG31) .nil) ?_
 exact ⟨_,_,A8,c8,B8,e8,rfl,(hT5.sub (M':=[]) (fun b hb=>by cases hb)),(hn8.sub (M':=[]) (fun b hb=>by cases hb)),(hd8.sub (M':=[]) (fun b hb=>by cases hb)),hm0⟩
set_option maxHeartbeats 2000000 in
theorem c_known15 {w : World} :
    Ret Tryz.prog 9 #[] w (fun r w'=>r=.bool true∧Mod [] w w'):=by
 have hbd:Bd [] w:=fun m h9=>by cases h9
 refine Ret.of (vs:=[]) (n:=22) Tryz.func9 rfl rfl rfl rfl ?_
 have hm0:Mod [] w w:=Mod.refl _ _
 refine W.seq<|W.region<|L.a rfl rfl<|L.nil<|X.seq<|W.seq<|W.region<|L.call rfl (c_equals (x:=1) (by omega)) rfl ?_
 rintro _ w1 ⟨T5,t5,A5,c5,B5,e5,rfl,ht5,hn5,hd5,hm1⟩
 replace hbd:=hbd.gr hm1;replace hm0:=hm0.trans hm1;clear hm1
 refine L.call rfl (c_equals (x:=2) (by omega)) rfl ?_
 rintro _ w2 ⟨T6,t6,A6,c6,B6,e6,rfl,ht6,hn6,hd6,hm2⟩
 replace hbd:=hbd.gr hm2;replace hm0:=hm0.trans hm2;replace ht5:=ht5.gr hm2;replace hn5:=hn5.gr hm2;replace hd5:=hd5.gr hm2;clear hm2
 refine L.buildSlice (cells:=[.int .i64 0,.slice T5 1 t5,.bool (decide ((((-1:Int)):Rat).num<0)),.slice A5 (toL (((-1:Int)):Rat).num.natAbs).length c5,.slice B5 (toL (((-1:Int)):Rat).den).length e5,.int .i64 0,.slice T6 1 t6,.bool (decide ((((-2:Int)):Rat).num<0)),.slice A6 (toL (((-2:Int)):Rat).num.natAbs).length c6,.slice B6 (toL (((-2:Int)):Rat).den).length e6]) rfl tyS22 tyZ31 (fillK2 _ _ _ _ _ _ _ _ _ _ _ _ _ _ _ _ _ _ _ _ _ _) (by decide) (by decide) rfl ?_
 intro g7 w3 hN7
 replace hbd:=hbd.new hN7;replace hm0:=hm0.trans (hN7.mod.mono (by simp));replace ht5:=ht5.new hN7;replace hn5:=hn5.new hN7;replace hd5:=hd5.new hN7;replace ht6:=ht6.new hN7;replace hn6:=hn6.new hN7;replace hd6:=hd6.new hN7;have hb7:=hN7.blk;clear hN7
 have hL7:Lay rdC [] w3 (.slice (some ⟨g7,0,none⟩) 2 2) [kE 1,kE 2]:=Lay.of_blk (css:=[[.int .i64 0,.slice T5 1 t5,.bool (decide ((((-1:Int)):Rat).num<0)),.slice A5 (toL (((-1:Int)):Rat).num.natAbs).length c5,.slice B5 (toL (((-1:Int)):Rat).den).length e5],[.int .i64 0,.slice T6 1 t6,.bool (decide ((((-2:Int)):Rat).num<0)),.slice A6 (toL (((-2:Int)):Rat).num.natAbs).length c6,.slice B6 (toL (((-2:Int)):Rat).den).length e6]]) hb7 ((LayL.one _ (kE 1) (rdC_mk (c:=kE 1) (vt:=.slice T5 1 t5) (ht5.sub (M':=[]) (fun b hb=>by cases hb)) (hn5.sub (M':=[]) (fun b hb=>by cases hb)) (hd5.sub (M':=[]) (fun b hb=>by cases hb)))).append (LayL.one _ (kE 2) (rdC_mk (c:=kE 2) (vt:=.slice T6 1 t6) (ht6.sub (M':=[]) (fun b hb=>by cases hb)) (hn6.sub (M':=[]) (fun b hb=>by cases hb)) (hd6.sub (M':=[]) (fun b hb=>by cases hb))))) rfl rfl (by decide) (by simp)
 refine L.buildSlice (cells:=[.int .i64 (-1),.int .i64 (-1)]) rfl tyS32 tyZ3 (fillI2 _ _) (by decide) (by decide) rfl ?_
 intro g8 w4 hN8
 replace hbd:=hbd.new hN8;replace hm0:=hm0.trans (hN8.mod.mono (by simp));replace hL7:=hL7.new hN8;have hb8:=hN8.blk;clear hN8
 have hO8:Lay rdI [] w4 (.slice (some ⟨g8,0,none⟩) 2 2) [-1,-1]:=Lay.of_blk (css:=[[.int .i64 (-1)],[.int .i64 (-1)]]) hb8 (LayL.ints [-1,-1]) rfl rfl (by decide) (by simp)
 refine L.call rfl (c_ref2_Int (n:=0) (by decide) (by decide) hbd) rfl ?_
 rintro _ w5 ⟨⟨A9,c9,B9,e9,rfl,hn9,hd9⟩,hm5⟩
 replace hbd:=hbd.gr hm5;replace hm0:=hm0.trans hm5;replace hL7:=hL7.gr hm5;replace hO8:=hO8.gr hm5;clear hm5;have F9:=Fit.int (n:=0) (by decide) (by decide)
 refine L.buildSlice (cells:=[.bool (decide ((((0:Int)):Rat).num<0)),.slice A9 (toL (((0:Int)):Rat).num.natAbs).length c9,.slice B9 (toL (((0:Int)):Rat).den).length e9]) rfl tyS23 tyZ29 (fillQ9 _ _ _ _ _ _ _) (by decide) (by decide) rfl ?_
 intro g10 w6 hN10
 replace hbd:=hbd.new hN10;replace hm0:=hm0.trans (hN10.mod.mono (by simp));replace hL7:=hL7.new hN10;replace hO8:=hO8.new hN10;replace hn9:=hn9.new hN10;replace hd9:=hd9.new hN10;have hb10:=hN10.blk;clear hN10
 have hV10:Lay rdQ [] w6 (.slice (some ⟨g10,0,none⟩) 1 1) [QR.nf (((0:Int)):Rat)]:=Lay.of_blk (css:=[[.bool (decide ((((0:Int)):Rat).num<0)),.slice A9 (toL (((0:Int)):Rat).num.natAbs).length c9,.slice B9 (toL (((0:Int)):Rat).den).length e9]]) hb10 (LayL.one _ (QR.nf (((0:Int)):Rat)) (rdQ_mk (q:=QR.nf (((0:Int)):Rat)) (hn9.sub (M':=[]) (fun b hb=>by cases hb)) (hd9.sub (M':=[]) (fun b hb=>by cases hb)))) rfl rfl (by decide) (by simp)
 refine L.v (R1.build (vs:=[.slice (some ⟨g8,0,none⟩) 2 2,.slice (some ⟨g10,0,none⟩) 1 1]) rfl (built_S2 _ _ _ _ _ _)) rfl<|L.call rfl (c_Phase (M:=[]) (cs:=[kE 1,kE 2]) (os:=[-1,-1]) (val:=[QR.nf (((0:Int)):Rat)]) (hL7.sub (M':=[]) (fun b hb=>by cases hb)) (hO8.sub (M':=[]) (fun b hb=>by cases hb)) (hV10.sub (M':=[]) (fun b hb=>by cases hb)) (hbd.sub (fun b hb=>by cases hb)) k_sm k_sv (by decide)) rfl ?_
 rintro _ w7 ⟨a12,b12,rfl,hA,hB,hm7⟩
 replace hm0:=hm0.trans hm7;clear hm7
 refine L.m rfl rfl<|L.v (R1.extract rfl rfl) rfl<|L.v (R1.extract rfl rfl) rfl<|L.v (R1.extract rfl rfl) rfl<|L.alloc tyZ34 rfl ?_
 intro g1 w8 hN1
 have hge_g1:=New.ge hN1 hm0.size;replace hm0:=hm0.trans (hN1.mod.mono (by simp));replace hA:=hA.new hN1;replace hB:=hB.new hN1;have hb1:=hN1.blk;clear hN1
 refine L.storeBox rfl rfl hb1 rfl (one_S (lay_form' hA) (lay_form' hB)) tyG34 ?_
 intro w9 hb1' hm9
 replace hm0:=hm0.old1 hm9 hge_g1;clear hm9;replace hb1:=hb1'; clear hb1'
 refine L.a rfl rfl<|L.a rfl rfl<|L.nil<|X.seq<|W.seq<|W.region<|L.m rfl rfl<|L.v ((R1.eq rfl rfl).asB (c:=true) (by rw [k_ph]; rfl)) rfl<|L.m rfl rfl<|L.on rfl rfl rfl (R1.move rfl) rfl<|L.on rfl rfl rfl ((R1.eq rfl rfl).asB (c:=true) (by rw [k_ph]; rfl)) rfl ?_
 refine L.v (R1.pickT rfl rfl) rfl<|L.a rfl rfl<|L.nil<|X.seq<|W.ret<|X.result1 rfl (.tmp rfl .nil) ?_
 exact ⟨rfl,hm0⟩
end Go.Proofs.YtombbkdnehhonaaGreat
end
