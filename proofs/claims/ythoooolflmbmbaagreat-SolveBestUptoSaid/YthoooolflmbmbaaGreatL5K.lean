/- Several texts in one. -/
import Derived.Test.YthoooolflmbmbaaGreatSoC
import Derived.Test.YthoooolflmbmbaaGreatSzA
section
namespace Go.Proofs.YthoooolflmbmbaaGreat
open Go.RowKit
set_option linter.unusedVariables false
set_option linter.unusedSimpArgs false
set_option maxRecDepth 10000
theorem sm150 {cs:List CR} (h:¬ 150<szCs cs):∀ c∈cs,SmC 150 c:=fun c hc=>sm_of_all (L:=150) (by omega) c hc
def szQs (qs:List QR):Nat:=(qs.map fun q=>szQ q + 1).sum
theorem szQs_len (qs:List QR):qs.length≤szQs qs:=by
  unfold szQs
  induction qs with
  | nil=>simp
  | cons t r ih=>simp only [List.map_cons,List.sum_cons,List.length_cons]; omega
theorem all_take {α:Type} {P:α→Prop} {l:List α} {i:Nat} {z:α} (hz:l[i]?=some z) (h:∀ s∈l.take i,P s) (h2:P z):∀ s∈l.take (i + 1),P s:=by
  obtain ⟨hi,rfl⟩:=List.getElem?_eq_some_iff.1 hz
  intro s hs
  rw [List.take_succ_eq_append_getElem hi] at hs
  rcases List.mem_append.1 hs with h1 | h1
  · exact h s h1
  rw [List.mem_singleton.1 h1]; exact h2
theorem c_heavy_pantographlaw15 {N9 : List Nat} {w : World} {vl : Value} {cs : List CR} (hL : Lay rdC N9 w vl cs) (hb : szCs cs ≤ 4194304) :
    Ret Tryz.prog 4 #[vl] w (fun x w'=>x=.bool (decide (150<szCs cs))∧Mod [] w w'):=by
 obtain ⟨TL,tL,rfl⟩:=hL.form;have hcl:=cs_len cs
 refine Ret.of (vs:=[.slice TL cs.length tL]) (n:=68) Tryz.func4 rfl rfl rfl rfl ?_
 have C0:Mod [] w w:=Mod.refl _ _
 refine W.sr<|L.b rfl<|L.z<|W.sr<|L.b rfl<|L.z<|W.seq ?_
 refine W.sr<|L.b rfl<|L.z<|W.block<|W.loop (ι:=Nat) (fun i=>[(0,.slice TL cs.length tL),(3,.int .i64 (((szCs (cs.take i)):Nat):Int)),(4,.int .i64 ((i:Nat):Int))]) (fun i w_=>i≤cs.length∧(szCs (cs.take i))≤150∧Lay rdC N9 w_ (.slice TL cs.length tL) cs∧Mod [] w w_) (fun i=>cs.length - i) 0 ?_ ?_ ?_
 · exact ⟨rfl,rfl,rfl,trivial⟩
 ·
  exact ⟨Nat.zero_le _,by simp [szCs],hL,C0⟩
 rintro i w1 ⟨hi,hs,hL,C0⟩
 refine W.seq<|W.sr<|L.k rfl<|L.k rfl<|L.lL rfl hL Q22<|L.lt rfl rfl<|L.z<|W.cond rfl ?_ ?_
 ·
  intro J9
  try simp only [bq,ne_eq] at J9
  refine W.skip<|X.seq<|W.seq<|W.block<|W.seq<|W.drawW (T:=[]) rfl (by decide +kernel) (NoHang.then (NoHang.block (NoHang.then (NoHang.next (NoHang.block (NoHang.then NoHang.post)))))) (fun w2 C2=>?_)
  replace hL:=hL.gr C2;replace C0:=C0.trans C2
  have G1:Mod [] w2 w2:=Mod.refl _ _
  clear C2
  refine D.z 0 rfl (by kernel_rfl) rfl G1<|D.t 1 rfl (by kernel_rfl) (fun _ hS=>R1.addI (b:=2) rfl rfl (by omega)) G1<|D.z 2 rfl (by kernel_rfl) rfl G1<|D.z 3 rfl (by kernel_rfl) rfl G1<|D.t 4 rfl (by kernel_rfl) (fun _ hS=>R1.atLay (j:=i) rfl rfl (Lay.gr hL hS) Q22 rfl (by omega)) G1<|D.t 5 rfl (by kernel_rfl) (fun _ hS=>R1.fieldAddr rfl tyF42_2) G1<|D.t 6 rfl (by kernel_rfl) (fun _ hS=>R1.fieldAddrE rfl tyF40_1) G1 ?_
  obtain ⟨z19,cs19,P19,V19,vt19,ds19,rfl,Y19,vn19,vd19,rfl,I19,H19⟩:=Lay.elemQ hL (j:=i) (by omega);obtain ⟨T19,t19,rfl⟩:=Y19.form;obtain ⟨A19,c19,rfl⟩:=I19.form;obtain ⟨B19,e19,rfl⟩:=H19.form
  refine D.t 7 rfl (by kernel_rfl) (fun _ hS=>R1.loadEF rfl (SlE.gr V19 hS) rfl tyP38) G1<|D.t 8 rfl (by kernel_rfl) (fun _ hS=>R1.len rfl Q38) G1 ?_
  have q19:=sum_elem_le szC P19; have q19b:szC z19=2 + (z19.k.n.length + z19.k.d.length) + szTs z19.ts:=rfl; change szCs (cs.take i) + szC z19≤szCs cs at q19
  refine D.t 9 rfl (by kernel_rfl) (fun _ hS=>R1.addI rfl rfl (by omega)) G1<|D.z 10 rfl (by kernel_rfl) rfl G1<|D.z 11 rfl (by kernel_rfl) rfl G1<|D.t 12 rfl (by kernel_rfl) (fun _ hS=>R1.atLay (j:=i) rfl rfl (Lay.gr hL hS) Q22 rfl (by omega)) G1<|D.t 13 rfl (by kernel_rfl) (fun _ hS=>R1.fieldAddr rfl tyF42_2) G1<|D.t 14 rfl (by kernel_rfl) (fun _ hS=>R1.fieldAddrE rfl tyF40_2) G1 ?_
  obtain ⟨z27,cs27,P27,V27,vt27,ds27,rfl,Y27,vn27,vd27,rfl,I27,H27⟩:=Lay.elemQ hL (j:=i) (by omega);obtain ⟨T27,t27,rfl⟩:=Y27.form;obtain ⟨A27,c27,rfl⟩:=I27.form;obtain ⟨B27,e27,rfl⟩:=H27.form
  obtain rfl:z19=z27:=by have h9:=P27; rw [P19] at h9; injection h9
  refine D.t 15 rfl (by kernel_rfl) (fun _ hS=>R1.loadEF rfl (SlE.gr V27 hS) rfl tyP38) G1<|D.t 16 rfl (by kernel_rfl) (fun _ hS=>R1.len rfl Q38) G1<|D.t 17 rfl (by kernel_rfl) (fun _ hS=>R1.addI rfl rfl (by omega)) G1<|D.t 18 rfl (by kernel_rfl) (fun _ hS=>R1.assign rfl) G1<|D.done (by decide +kernel) ?_ _
  refine X.seq<|W.seq<|W.sr<|L.b rfl<|L.z<|W.block ?_
  have q19l:=ts_len z19.ts
  have q19c:szTs (z19.ts.take 0)=0:=rfl
  refine W.loop (ι:=Nat) (fun k=>[(0,.slice TL cs.length tL),(3,.int .i64 ((((szCs (cs.take i)) + (2 + szQ z19.k) + szTs (z19.ts.take k)):Nat):Int)),(4,.int .i64 ((i:Nat):Int)),(5,.int .i64 ((k:Nat):Int))]) (fun k w_=>k≤z19.ts.length∧Lay rdC N9 w_ (.slice TL cs.length tL) cs∧Mod [] w w_) (fun k=>z19.ts.length - k) 0 ?_ ?_ ?_
  · exact ⟨rfl,congrArg (fun n:Nat=>some (Value.int .i64 (n:Int))) (by rw [q19c]; unfold szQ; omega),rfl,rfl,trivial⟩
  ·
   exact ⟨Nat.zero_le _,hL,C0⟩
  rintro k w3 ⟨hk,hL,C0⟩
  have q20:szTs (z19.ts.take k)≤szTs z19.ts:=sum_take_le szT _ _
  have q21:szQ z19.k=z19.k.n.length + z19.k.d.length:=rfl
  refine W.seq<|W.sr<|L.k rfl<|L.k rfl<|L.k rfl<|L.aL (j:=i) rfl rfl hL Q22 rfl (by omega)<|L.v (R1.fieldAddr rfl tyF42_1) rfl ?_
  obtain ⟨z35,cs35,P35,V35,vt35,ds35,rfl,Y35,vn35,vd35,rfl,I35,H35⟩:=Lay.elemQ hL (j:=i) (by omega);obtain ⟨T35,t35,rfl⟩:=Y35.form;obtain ⟨A35,c35,rfl⟩:=I35.form;obtain ⟨B35,e35,rfl⟩:=H35.form
  obtain rfl:z19=z35:=by have h9:=P35; rw [P19] at h9; injection h9
  refine L.v (R1.loadEF rfl V35 rfl tyP37) rfl<|L.lL rfl Y35 Q37<|L.lt rfl rfl<|L.z<|W.cond rfl ?_ ?_
  ·
   intro J37
   try simp only [bq,ne_eq] at J37
   refine W.skip<|X.seq<|W.seq<|W.block<|W.drawW (T:=[]) rfl (by decide +kernel) (NoHang.block (NoHang.then (NoHang.next (NoHang.block (NoHang.then (NoHang.block (NoHang.then (NoHang.next (NoHang.block (NoHang.then NoHang.post)))))))))) (fun w4 C4=>?_)
   replace hL:=hL.gr C4;replace C0:=C0.trans C4
   have G2:Mod [] w4 w4:=Mod.refl _ _
   clear C4
   refine D.z 0 rfl (by kernel_rfl) rfl G2<|D.t 1 rfl (by kernel_rfl) (fun _ hS=>R1.addI (b:=1) rfl rfl (by omega)) G2<|D.z 2 rfl (by kernel_rfl) rfl G2<|D.z 3 rfl (by kernel_rfl) rfl G2<|D.t 4 rfl (by kernel_rfl) (fun _ hS=>R1.atLay (j:=i) rfl rfl (Lay.gr hL hS) Q22 rfl (by omega)) G2<|D.t 5 rfl (by kernel_rfl) (fun _ hS=>R1.fieldAddr rfl tyF42_1) G2 ?_
   obtain ⟨z46,cs46,P46,V46,vt46,ds46,rfl,Y46,vn46,vd46,rfl,I46,H46⟩:=Lay.elemQ hL (j:=i) (by omega);obtain ⟨T46,t46,rfl⟩:=Y46.form;obtain ⟨A46,c46,rfl⟩:=I46.form;obtain ⟨B46,e46,rfl⟩:=H46.form
   obtain rfl:z19=z46:=by have h9:=P46; rw [P19] at h9; injection h9
   refine D.t 6 rfl (by kernel_rfl) (fun _ hS=>R1.loadEF rfl (SlE.gr V46 hS) rfl tyP37) G2<|D.z 7 rfl (by kernel_rfl) rfl G2<|D.t 8 rfl (by kernel_rfl) (fun _ hS=>R1.atLay (j:=k) rfl rfl (Lay.gr Y46 hS) Q37 rfl (by omega)) G2<|D.t 9 rfl (by kernel_rfl) (fun _ hS=>R1.fieldAddr rfl tyF47_1) G2<|D.t 10 rfl (by kernel_rfl) (fun _ hS=>R1.fieldAddrE rfl tyF40_1) G2 ?_
   obtain ⟨z51,cs51,P51,V51,ds51,rfl,vn51,vd51,rfl,I51,H51⟩:=Lay.elemQ Y46 (j:=k) (by omega);obtain ⟨A51,c51,rfl⟩:=I51.form;obtain ⟨B51,e51,rfl⟩:=H51.form
   refine D.t 11 rfl (by kernel_rfl) (fun _ hS=>R1.loadEF rfl (SlE.gr V51 hS) rfl tyP38) G2<|D.t 12 rfl (by kernel_rfl) (fun _ hS=>R1.len rfl Q38) G2 ?_
   have q51:=sum_elem_le szT P51; have q51b:szT z51=1 + (z51.c.n.length + z51.c.d.length):=rfl; change szTs (z19.ts.take k) + szT z51≤szTs z19.ts at q51
   refine D.t 13 rfl (by kernel_rfl) (fun _ hS=>R1.addI rfl rfl (by omega)) G2<|D.z 14 rfl (by kernel_rfl) rfl G2<|D.z 15 rfl (by kernel_rfl) rfl G2<|D.t 16 rfl (by kernel_rfl) (fun _ hS=>R1.atLay (j:=i) rfl rfl (Lay.gr hL hS) Q22 rfl (by omega)) G2<|D.t 17 rfl (by kernel_rfl) (fun _ hS=>R1.fieldAddr rfl tyF42_1) G2 ?_
   obtain ⟨z58,cs58,P58,V58,vt58,ds58,rfl,Y58,vn58,vd58,rfl,I58,H58⟩:=Lay.elemQ hL (j:=i) (by omega);obtain ⟨T58,t58,rfl⟩:=Y58.form;obtain ⟨A58,c58,rfl⟩:=I58.form;obtain ⟨B58,e58,rfl⟩:=H58.form
   obtain rfl:z19=z58:=by have h9:=P58; rw [P19] at h9; injection h9
   refine D.t 18 rfl (by kernel_rfl) (fun _ hS=>R1.loadEF rfl (SlE.gr V58 hS) rfl tyP37) G2<|D.z 19 rfl (by kernel_rfl) rfl G2<|D.t 20 rfl (by kernel_rfl) (fun _ hS=>R1.atLay (j:=k) rfl rfl (Lay.gr Y58 hS) Q37 rfl (by omega)) G2<|D.t 21 rfl (by kernel_rfl) (fun _ hS=>R1.fieldAddr rfl tyF47_1) G2<|D.t 22 rfl (by kernel_rfl) (fun _ hS=>R1.fieldAddrE rfl tyF40_2) G2 ?_
   obtain ⟨z63,cs63,P63,V63,ds63,rfl,vn63,vd63,rfl,I63,H63⟩:=Lay.elemQ Y58 (j:=k) (by omega);obtain ⟨A63,c63,rfl⟩:=I63.form;obtain ⟨B63,e63,rfl⟩:=H63.form
   obtain rfl:z51=z63:=by have h9:=P63; rw [P51] at h9; injection h9
   refine D.t 23 rfl (by kernel_rfl) (fun _ hS=>R1.loadEF rfl (SlE.gr V63 hS) rfl tyP38) G2<|D.t 24 rfl (by kernel_rfl) (fun _ hS=>R1.len rfl Q38) G2<|D.t 25 rfl (by kernel_rfl) (fun _ hS=>R1.addI rfl rfl (by omega)) G2<|D.t 26 rfl (by kernel_rfl) (fun _ hS=>R1.assign rfl) G2<|D.done (by decide +kernel) ?_ _
   refine X.blockEnd<|X.seq<|W.region<|L.k rfl<|L.inc rfl rfl (by omega)<|L.b rfl<|L.nil<|X.next (k + 1) ?_ ?_ ?_
   · refine ⟨rfl,?_,rfl,rfl,trivial⟩; simp only [lk,Nat.beq,cond_true,cond_false]; exact congrArg (fun n:Nat=>some (Value.int .i64 (n:Int))) (by have:=sum_take_succ szT P51; unfold szTs at *; rw [this]; omega)
   ·
    exact ⟨by omega,hL,C0⟩
   first | omega | (dsimp only; omega)
  intro J37
  try simp only [bq,ne_eq] at J37
  obtain rfl:k=z19.ts.length:=by omega
  refine W.brk<|W.sr<|L.k rfl<|L.v (R1.gt rfl rfl) rfl<|L.z ?_
  refine W.cond rfl ?_ ?_
  ·
   intro J67
   try simp only [bq,ne_eq] at J67
   refine W.sr<|L.b rfl<|L.z<|W.ret<|X.blockRet<|X.thenRet<|X.nextRet<|X.blockRet<|X.thenRet ?_
   refine X.result1 rfl (.tmp rfl .nil)<|⟨?_,C0⟩
   rw [decide_eq_true]
   have:=sum_elem_le szC P19
   rw [List.take_length] at J67
   unfold szCs at *
   omega
  intro J67
  try simp only [bq,ne_eq] at J67
  refine W.skip<|X.blockEnd<|X.seq<|W.region<|L.k rfl<|L.inc rfl rfl (by omega)<|L.b rfl<|L.nil ?_
  have hsum:szCs (cs.take (i + 1))=szCs (cs.take i) + (2 + szQ z19.k) + szTs (z19.ts.take z19.ts.length):=by
    rw [List.take_length]; have:=sum_take_succ szC P19; unfold szCs; rw [this]; unfold szC; omega
  refine X.next (i + 1) ?_ ?_ ?_
  · refine ⟨rfl,?_,rfl,trivial⟩; simp only [lk,Nat.beq,cond_true,cond_false]; rw [hsum]
  ·
   refine ⟨by omega,by rw [hsum]; omega,hL,C0⟩
  first | omega | (dsimp only; omega)
 intro J9
 try simp only [bq,ne_eq] at J9
 obtain rfl:i=cs.length:=by omega
 refine W.brk<|W.sr<|L.b rfl<|L.z<|W.ret ?_
 refine X.result1 rfl (.tmp rfl .nil)<|⟨?_,C0⟩
 rw [List.take_length] at hs
 rw [decide_eq_false (by omega)]
theorem c_many_pantographlaw15 {N9 : List Nat} {w : World} {vl : Value} {val : List QR} (hL : Lay rdQ N9 w vl val) (hb : szQs val ≤ 4194304) :
    Ret Tryz.prog 5 #[vl] w (fun x w'=>∃ b,x=.bool b∧(b=false→(∀ q∈val,SmQ 3 q)∧val.length≤100)∧Mod [] w w'):=by
 obtain ⟨TL,tL,rfl⟩:=hL.form;have hcl:=szQs_len val
 refine Ret.of (vs:=[.slice TL val.length tL]) (n:=47) Tryz.func5 rfl rfl rfl rfl ?_
 have C0:Mod [] w w:=Mod.refl _ _
 refine W.sr<|L.b rfl<|L.z<|W.sr<|L.b rfl<|L.z<|W.seq ?_
 refine W.sr<|L.b rfl<|L.z<|W.block<|W.loop (ι:=Nat) (fun i=>[(0,.slice TL val.length tL),(3,.int .i64 (((szQs (val.take i)):Nat):Int)),(4,.int .i64 ((i:Nat):Int))]) (fun i w_=>i≤val.length∧(szQs (val.take i))≤100∧(∀ q∈val.take i,SmQ 3 q)∧Lay rdQ N9 w_ (.slice TL val.length tL) val∧Mod [] w w_) (fun i=>val.length - i) 0 ?_ ?_ ?_
 · exact ⟨rfl,rfl,rfl,trivial⟩
 ·
  exact ⟨Nat.zero_le _,by simp [szQs],(fun q h=>by cases h),hL,C0⟩
 rintro i w1 ⟨hi,hs,hq,hL,C0⟩
 refine W.seq<|W.sr<|L.k rfl<|L.k rfl<|L.lL rfl hL Q23<|L.lt rfl rfl<|L.z<|W.cond rfl ?_ ?_
 ·
  intro J8
  try simp only [bq,ne_eq] at J8
  refine W.skip<|X.seq<|W.seq<|W.block<|W.seq<|W.drawW (T:=[]) rfl (by decide +kernel) (NoHang.then (NoHang.block (NoHang.then (NoHang.next (NoHang.block (NoHang.then NoHang.post)))))) (fun w2 C2=>?_)
  replace hL:=hL.gr C2;replace C0:=C0.trans C2
  have G1:Mod [] w2 w2:=Mod.refl _ _
  clear C2
  refine D.z 0 rfl (by kernel_rfl) rfl G1<|D.t 1 rfl (by kernel_rfl) (fun _ hS=>R1.addI (b:=1) rfl rfl (by omega)) G1<|D.z 2 rfl (by kernel_rfl) rfl G1<|D.z 3 rfl (by kernel_rfl) rfl G1<|D.t 4 rfl (by kernel_rfl) (fun _ hS=>R1.atLay (j:=i) rfl rfl (Lay.gr hL hS) Q23 rfl (by omega)) G1<|D.t 5 rfl (by kernel_rfl) (fun _ hS=>R1.fieldAddr rfl tyF40_1) G1 ?_
  obtain ⟨z17,cs17,P17,V17,vn17,vd17,rfl,I17,H17⟩:=Lay.elemQ hL (j:=i) (by omega);obtain ⟨A17,c17,rfl⟩:=I17.form;obtain ⟨B17,e17,rfl⟩:=H17.form
  refine D.t 6 rfl (by kernel_rfl) (fun _ hS=>R1.loadEF rfl (SlE.gr V17 hS) rfl tyP38) G1<|D.t 7 rfl (by kernel_rfl) (fun _ hS=>R1.len rfl Q38) G1 ?_
  have q17:=sum_elem_le (fun q=>szQ q + 1) P17; have q17b:szQ z17=z17.n.length + z17.d.length:=rfl; change szQs (val.take i) + (szQ z17 + 1)≤szQs val at q17
  refine D.t 8 rfl (by kernel_rfl) (fun _ hS=>R1.addI rfl rfl (by omega)) G1<|D.z 9 rfl (by kernel_rfl) rfl G1<|D.z 10 rfl (by kernel_rfl) rfl G1<|D.t 11 rfl (by kernel_rfl) (fun _ hS=>R1.atLay (j:=i) rfl rfl (Lay.gr hL hS) Q23 rfl (by omega)) G1<|D.t 12 rfl (by kernel_rfl) (fun _ hS=>R1.fieldAddr rfl tyF40_2) G1 ?_
  obtain ⟨z24,cs24,P24,V24,vn24,vd24,rfl,I24,H24⟩:=Lay.elemQ hL (j:=i) (by omega);obtain ⟨A24,c24,rfl⟩:=I24.form;obtain ⟨B24,e24,rfl⟩:=H24.form
  obtain rfl:z17=z24:=by have h9:=P24; rw [P17] at h9; injection h9
  refine D.t 13 rfl (by kernel_rfl) (fun _ hS=>R1.loadEF rfl (SlE.gr V24 hS) rfl tyP38) G1<|D.t 14 rfl (by kernel_rfl) (fun _ hS=>R1.len rfl Q38) G1<|D.t 15 rfl (by kernel_rfl) (fun _ hS=>R1.addI rfl rfl (by omega)) G1<|D.t 16 rfl (by kernel_rfl) (fun _ hS=>R1.assign rfl) G1<|D.done (by decide +kernel) ?_ _
  refine X.seq<|W.seq ?_
  have hsum:szQs (val.take (i + 1))=szQs (val.take i) + (szQ z17 + 1):=sum_take_succ (fun q=>szQ q + 1) P17
  refine W.region<|L.k rfl<|L.v ((R1.gt rfl rfl).asB (c:=decide (100<szQs (val.take (i + 1)))) (by congr 1; apply propext; rw [hsum]; omega)) rfl<|L.k rfl ?_
  cases W29:decide (100<szQs (val.take (i + 1)))
  ·
   simp only [bq] at W29
   refine L.p rfl (R1.move rfl)<|L.p rfl (R1.move rfl)<|L.p rfl (R1.atLay (j:=i) rfl rfl hL Q23 rfl (by omega))<|L.p rfl (R1.fieldAddr rfl tyF40_1) ?_
   obtain ⟨z34,cs34,P34,V34,vn34,vd34,rfl,I34,H34⟩:=Lay.elemQ hL (j:=i) (by omega);obtain ⟨A34,c34,rfl⟩:=I34.form;obtain ⟨B34,e34,rfl⟩:=H34.form
   obtain rfl:z17=z34:=by have h9:=P34; rw [P17] at h9; injection h9
   refine L.p rfl (R1.loadEF rfl V34 rfl tyP38)<|L.p rfl (R1.len rfl Q38)<|L.p rfl ((R1.gt rfl rfl).asB (c:=decide (3<z17.n.length)) (by congr 1; apply propext; omega))<|L.pF rfl rfl<|L.k rfl ?_
   cases W38:decide (3<z17.n.length)
   ·
    simp only [bq] at W38
    refine L.p rfl (R1.move rfl)<|L.p rfl (R1.move rfl)<|L.p rfl (R1.atLay (j:=i) rfl rfl hL Q23 rfl (by omega))<|L.p rfl (R1.fieldAddr rfl tyF40_2) ?_
    obtain ⟨z43,cs43,P43,V43,vn43,vd43,rfl,I43,H43⟩:=Lay.elemQ hL (j:=i) (by omega);obtain ⟨A43,c43,rfl⟩:=I43.form;obtain ⟨B43,e43,rfl⟩:=H43.form
    obtain rfl:z17=z43:=by have h9:=P43; rw [P17] at h9; injection h9
    refine L.p rfl (R1.loadEF rfl V43 rfl tyP38)<|L.p rfl (R1.len rfl Q38)<|L.p rfl ((R1.gt rfl rfl).asB (c:=decide (3<z17.d.length)) (by congr 1; apply propext; omega))<|L.pF rfl rfl<|L.z<|W.cond rfl ?_ ?_
    ·
     intro J46
     simp only [bq] at J46
     refine W.sr<|L.b rfl<|L.z<|W.ret<|X.blockRet<|X.thenRet<|X.nextRet<|X.blockRet<|X.thenRet ?_
     refine X.result1 rfl (.tmp rfl .nil) ?_
     exact ⟨true,rfl,(fun h=>by cases h),C0⟩
    intro J46
    simp only [bq] at J46
    refine W.skip<|X.blockEnd<|X.seq<|W.region<|L.k rfl<|L.inc rfl rfl (by omega)<|L.b rfl<|L.nil<|X.next (i + 1) ?_ ?_ ?_
    · refine ⟨rfl,congrArg (fun n:Nat=>some (Value.int .i64 (n:Int))) (by rw [hsum]; unfold szQ; omega),rfl,trivial⟩
    ·
     exact ⟨by omega,by omega,all_take P17 hq ⟨by omega,by omega⟩,hL,C0⟩
    first | omega | (dsimp only; omega)
   simp only [bq] at W38
   refine L.o rfl<|L.o rfl<|L.o rfl<|L.o rfl<|L.o rfl<|L.o rfl<|L.o rfl<|L.pT rfl rfl<|L.z<|W.condT rfl ?_
   refine W.sr<|L.b rfl<|L.z<|W.ret<|X.blockRet<|X.thenRet<|X.nextRet<|X.blockRet<|X.thenRet ?_
   refine X.result1 rfl (.tmp rfl .nil) ?_
   exact ⟨true,rfl,(fun h=>by cases h),C0⟩
  simp only [bq] at W29
  refine L.o rfl<|L.o rfl<|L.o rfl<|L.o rfl<|L.o rfl<|L.o rfl<|L.o rfl<|L.pT rfl rfl<|L.k rfl<|L.o rfl<|L.o rfl ?_
  refine L.o rfl<|L.o rfl<|L.o rfl<|L.o rfl<|L.o rfl<|L.pT rfl rfl<|L.z<|W.condT rfl<|W.seq<|W.region ?_
  refine L.b rfl<|L.z<|W.ret<|X.blockRet<|X.thenRet<|X.nextRet<|X.blockRet<|X.thenRet<|X.result1 rfl (.tmp rfl .nil) ?_
  exact ⟨true,rfl,(fun h=>by cases h),C0⟩
 intro J8
 try simp only [bq,ne_eq] at J8
 obtain rfl:i=val.length:=by omega
 refine W.brk<|W.sr<|L.b rfl<|L.z<|W.ret ?_
 refine X.result1 rfl (.tmp rfl .nil) ?_
 rw [List.take_length] at hq hs
 exact ⟨false,rfl,(fun _=>⟨hq,by omega⟩),C0⟩
end Go.Proofs.YthoooolflmbmbaaGreat
end
section
namespace Go.Proofs.YthoooolflmbmbaaGreat
open Go.RowKit
set_option linter.unusedVariables false
set_option linter.unusedSimpArgs false
set_option maxRecDepth 10000
def setAll (wa:List Int) (l:List Nat):List Int:=l.foldl (fun w i=>w.set i (-1)) wa
theorem setAll_len (l:List Nat):∀ wa:List Int,(setAll wa l).length=wa.length:=by
  induction l with
  | nil=>intro wa; rfl
  | cons i r ih=>intro wa; show (setAll (wa.set i (-1)) r).length=_; rw [ih]; simp
theorem set_get (wa:List Int) (i j:Nat) (hj:j<wa.length):(wa.set i (-1)).getD j 0=if j=i then -1 else wa.getD j 0:=by
  rw [List.getD_eq_getElem?_getD,List.getElem?_set]
  by_cases h:i=j
  · subst h; simp [hj]
  rw [if_neg h,if_neg (fun e=>h e.symm)]; simp [List.getD_eq_getElem?_getD]
theorem setAll_get (l:List Nat):∀ (wa:List Int) (j:Nat),j<wa.length→(setAll wa l).getD j 0=if j∈l then -1 else wa.getD j 0:=by
  induction l with
  | nil=>intro wa j hj; simp [setAll]
  | cons i r ih =>
    intro wa j hj
    show (setAll (wa.set i (-1)) r).getD j 0=_
    rw [ih _ j (by simpa using hj),set_get wa i j hj]
    by_cases h1:j∈r
    · simp [h1]
    by_cases h2:j=i <;> simp [h1,h2]
theorem ordF_ready (cs:List CR) (os:List Int):∀ (f:Nat) (wa:List Int) (k i:Nat),(ordF cs os f wa)[k]?=some i→rdW cs os (setAll wa ((ordF cs os f wa).take k)) i=true
  | 0,wa,k,i,h=>by simp [ordF] at h
  | f + 1,wa,k,i,h=>by
    rw [ordF] at h ⊢
    cases hf:(List.range os.length).find? (rdW cs os wa) with
    | none=>rw [hf] at h; simp at h
    | some j =>
      rw [hf] at h
      cases k with
      | zero =>
        simp only [List.getElem?_cons_zero,Option.some.injEq] at h
        subst h
        exact (List.find?_range_eq_some.1 hf).1
      | succ k =>
        simp only [List.getElem?_cons_succ] at h
        have:=ordF_ready cs os f _ k i h
        simpa [setAll] using this
theorem ordT_end (cs:List CR) (os:List Int):∀ (f:Nat) (wa:List Int),wa.length=os.length→pend wa<f→∀ j,j<os.length→rdW cs os (setAll wa (ordF cs os f wa)) j=false
  | 0,wa,_,h=>by omega
  | f + 1,wa,hl,h=>by
    intro j hj
    rw [ordF]
    cases hf:(List.range os.length).find? (rdW cs os wa) with
    | none =>
      rw [List.find?_range_eq_none] at hf
      have:=hf j (by simpa using hj)
      simpa [setAll] using this
    | some i =>
      rw [List.find?_range_eq_some] at hf
      have hi:i<os.length:=by simpa using hf.2.1
      have h1:wa.getD i 0≠-1:=by
        have:=hf.1
        unfold rdW at this
        simp only [Bool.and_eq_true,decide_eq_true_eq] at this
        exact this.1
      have h2:=pend_set h1 (by omega)
      exact ordT_end cs os f (wa.set i (-1)) (by simpa using hl) (by omega) j hj
theorem plan_spec {n : Nat} {cs : List CR} {os : List Int} (h : ChB (n : Int) cs os = true) :
    (∀ k i,(ordT cs os os)[k]?=some i→i<cs.length∧0≤os.getD i 0∧i ∉ (ordT cs os os).take k∧∀ t∈(cs.getD i c0R).ts,∀ j,j<cs.length→j≠i→os.getD j 0=t.v→j∈(ordT cs os os).take k) ∧
    (∀ i,i<cs.length→0≤os.getD i 0→i∈ordT cs os os):=by
  obtain ⟨g1,g2,g3,g4,g5,g6⟩:=ChB_true h;have hC:=cho_of h
  have huniq:∀ i j,i<cs.length→j<cs.length→0≤os.getD i 0→os.getD i 0=os.getD j 0→i=j:=fun i j hi hj h0 he=>by
    rcases Nat.lt_trichotomy i j with hij | hij | hij
    · rcases (g5 j hj).2 with h11 | h11
      · omega
      exact absurd he (h11.2 i hij)
    · exact hij
    rcases (g5 i hi).2 with h11 | h11
    · omega
    exact absurd he.symm (h11.2 j hij)
  constructor
  · intro k i hk
    obtain ⟨a1,a2,a3,a4⟩:=ordT_at (n:=(n:Int)) g5 g4 hk;have hr:=ordF_ready cs os _ os k i hk
    unfold rdW at hr
    simp only [Bool.and_eq_true,decide_eq_true_eq,Bool.not_eq_true'] at hr
    obtain ⟨r1,r2⟩:=hr
    rw [setAll_get _ _ _ (by omega)] at r1
    refine ⟨a1,a3,fun hm=>r1 (if_pos hm),fun t ht j hj hne he=>?_⟩
    have hv:=isC_all a2 t ht;have h3:=List.any_eq_false.1 r2 t ht
    simp only [Bool.and_eq_true,decide_eq_true_eq,not_and] at h3
    have hto:t.v≠os.getD i 0:=fun e=>hne (huniq j i hj a1 (by omega) (by omega))
    have h4:=h3 hto
    by_cases hm:j∈(ordT cs os os).take k
    · exact hm
    exfalso
    apply h4
    have h5:(setAll os ((ordT cs os os).take k)).getD j 0=t.v:=by rw [setAll_get _ _ _ (by omega),if_neg hm,he]
    rw [← h5,← getD_at (by rw [setAll_len]; omega)]
    exact List.getElem_mem _
  have hend:=ordT_end cs os (pend os + 1) os rfl (by omega)
  have step:∀ i,i<cs.length→0≤os.getD i 0→i ∉ ordT cs os os→∃ j,j<cs.length∧0≤os.getD j 0∧j ∉ ordT cs os os∧Eg (wsOf n cs) (outF os) i j:=fun i hi h0 hno=>by
    have hr:=hend i (by omega)
    unfold rdW at hr
    rw [setAll_get _ _ _ (by omega)] at hr
    change (decide ((if i∈ordT cs os os then (-1:Int) else os.getD i 0)≠-1) && _)=false at hr
    rw [if_neg hno,decide_eq_true (by omega),Bool.true_and,Bool.not_eq_false'] at hr
    obtain ⟨t,ht,h1⟩:=List.any_eq_true.1 hr
    simp only [Bool.and_eq_true,decide_eq_true_eq] at h1
    obtain ⟨h2,h3⟩:=h1;have hv:=isC_all (g5 i hi).1 t ht;obtain ⟨j,hj,he⟩:=List.mem_iff_getElem.1 h3
    have hj2:j<os.length:=by rw [setAll_len] at hj; exact hj
    rw [getD_at hj,setAll_get _ _ _ hj2] at he
    change (if j∈ordT cs os os then (-1:Int) else os.getD j 0)=t.v at he
    by_cases hm:j∈ordT cs os os
    · rw [if_pos hm] at he; omega
    rw [if_neg hm] at he
    refine ⟨j,by omega,by omega,hm,vsOf (cs.getD i c0R),t.v.toNat,?_,List.mem_map.2 ⟨t,ht,rfl⟩,?_,?_⟩
    · have h7:=(g5 i hi).1
      unfold wsOf
      rw [List.getElem?_map,List.getElem?_eq_getElem hi]
      have e:cs.getD i c0R=cs[i]:=by simp [List.getD_eq_getElem?_getD,hi]
      rw [e] at h7 ⊢
      simp only [Option.map_some,wOf,if_pos h7]
    · rw [outF_some,List.getElem?_eq_getElem hj2,getD_at hj2]; congr 1; omega
    intro e9
    have h8:=outF_some.1 e9
    rw [List.getElem?_eq_getElem (by omega),getD_at (by omega)] at h8
    injection h8 with h8
    omega
  have key:∀ m i,i<cs.length→0≤os.getD i 0→i ∉ ordT cs os os→hgt (wsOf n cs) (outF os) i<m→False:=fun m=>by
    induction m with
    | zero=>intro i hi h0 hno hm; omega
    | succ m ih =>
      intro i hi h0 hno hm
      obtain ⟨j,j1,j2,j3,j4⟩:=step i hi h0 hno
      have:=hgt_lt hC.F hC.T j4
      exact ih j j1 j2 j3 (by omega)
  intro i hi h0
  by_cases hm:i∈ordT cs os os
  · exact hm
  exact (key _ i hi h0 hm (Nat.lt_succ_self _)).elim
theorem isT_once {n : Int} : ∀ {ts : List TR} {least : Int}, isT n least ts = true → ∀ {v : Int}, ts.any (fun t => decide (t.v = v)) = true →
    ∃ p t r,ts=p ++ t :: r∧t.v=v∧(∀ x∈p,x.v≠v)∧(∀ x∈r,x.v≠v)∧t.c.val≠0
  | [],_,_,v,h=>by cases h
  | t :: r,least,h,v,hv=>by
    simp only [isT,Bool.and_eq_true,decide_eq_true_eq] at h
    obtain ⟨h1,h2,h3,h4,h5⟩:=h
    have lo:∀ {ts:List TR} {least:Int},isT n least ts=true→∀ x∈ts,least≤x.v:=fun {ts}=>by
      induction ts with
      | nil=>intro least _ x hx; cases hx
      | cons t r ih =>
        intro least h x hx
        simp only [isT,Bool.and_eq_true,decide_eq_true_eq] at h
        rcases List.mem_cons.1 hx with rfl | hx
        · exact h.1
        have:=ih h.2.2.2.2 x hx; omega
    by_cases e:t.v=v
    · refine ⟨[],t,r,rfl,e,(fun x hx=>by cases hx),fun x hx=>?_,fun h8=>h4 ?_⟩
      · have:=lo h5 x hx; omega
      have h9:=QR.is_nf h3
      rw [h9,h8]
      show (toL (0:Rat).num.natAbs).length=0
      rw [show (0:Rat).num=0 from rfl]; simp [toL_zero]
    rw [List.any_cons,decide_eq_false e,Bool.false_or] at hv
    obtain ⟨p,t',r',h6,h7,h8,h9,h10⟩:=isT_once h5 hv
    refine ⟨t :: p,t',r',by rw [h6]; rfl,h7,fun x hx=>?_,h9,h10⟩
    rcases List.mem_cons.1 hx with rfl | hx
    · exact e
    exact h8 x hx
theorem atG_ext {a b:List QR}:∀ {ts:List TR} {x:Rat},(∀ t∈ts,valOf a t.v=valOf b t.v)→atG a ts x=atG b ts x
  | [],_,_=>rfl
  | t :: r,x,h=>by
    rw [atG,atG,h t (by simp)]
    exact atG_ext (fun s hs=>h s (by simp [hs]))
theorem atG_plus (a:List QR):∀ (ts:List TR) (x y:Rat),atG a ts (x + y)=atG a ts x + y
  | [],_,_=>rfl
  | t :: r,x,y=>by
    rw [atG,atG,← atG_plus a r]
    congr 1
    grind
theorem othT_split {p r:List TR} {t:TR} {v:Int} (ht:t.v=v) (hp:∀ x∈p,x.v≠v) (hr:∀ x∈r,x.v≠v):othT (p ++ t :: r) v=p ++ r:=by
  have e:∀ {l:List TR},(∀ x∈l,x.v≠v)→l.filter (fun t=>decide (t.v≠v))=l:=fun {l} h=>List.filter_eq_self.2 (fun x hx=>decide_eq_true (h x hx))
  unfold othT
  rw [List.filter_append,e hp,List.filter_cons,if_neg (by simp [ht]),e hr]
theorem byQ_split {p r:List TR} {t:TR} {v:Int} (ht:t.v=v) (hp:∀ x∈p,x.v≠v) (hr:∀ x∈r,x.v≠v):byQ (p ++ t :: r) v=t.c:=by
  have e:∀ (l:List TR) (b:QR),(∀ x∈l,x.v≠v)→l.foldl (fun b t=>if t.v=v then t.c else b) b=b:=fun l=>by
    induction l with
    | nil=>intro b _; rfl
    | cons s l ih=>intro b h; rw [List.foldl_cons,if_neg (h s (by simp))]; exact ih b (fun x hx=>h x (by simp [hx]))
  unfold byQ
  rw [List.foldl_append,List.foldl_cons,if_pos ht,e r _ hr]
theorem told_holds {c:CR} {n v:Int} {a b:List QR} (hc:isC c n=true) (hv:hasV c v=true) (h1:valOf b v=toldV c v a) (h2:∀ t∈c.ts,t.v≠v→valOf b t.v=valOf a t.v):atG b c.ts (QR.val c.k)=0:=by
  have h3:isT n 0 c.ts=true:=by
    unfold isC at hc
    simp only [Bool.and_eq_true,decide_eq_true_eq] at hc
    exact hc.2.2.2
  obtain ⟨p,t,r,e1,e2,e3,e4,e5⟩:=isT_once h3 hv
  have e6:atG b (p ++ r) (QR.val c.k)=atG a (p ++ r) (QR.val c.k):=atG_ext (fun s hs=>by
    rcases List.mem_append.1 hs with hs | hs
    · exact h2 s (by rw [e1]; simp [hs]) (e3 s hs)
    exact h2 s (by rw [e1]; simp [hs]) (e4 s hs))
  have e7:atG b c.ts (QR.val c.k)=atG b (p ++ r) (QR.val c.k) + t.c.val * valOf b v:=by
    rw [e1,atG_app,atG,atG_plus,← atG_app,e2]
  rw [e7,e6,h1]
  unfold toldV
  rw [e1,othT_split e2 e3 e4,byQ_split e2 e3 e4]
  show _ + t.c.val * (-(atG a (p ++ r) (QR.val c.k)) / t.c.val)=0
  have e8:t.c.val≠0:=e5
  generalize t.c.val=q at e8
  generalize atG a (p ++ r) (QR.val c.k)=s
  have e9:q * (-s / q)=-s:=by
    rw [Rat.div_def,← Rat.mul_assoc,Rat.mul_comm q (-s),Rat.mul_assoc,Rat.mul_inv_cancel _ e8,Rat.mul_one]
  rw [e9]; grind
theorem run_far (cs:List CR) (os:List Int):∀ (L:List Nat) (vs:List QR),(runL cs os L vs).2.2=0→(runL cs os L vs).1.length=vs.length∧∀ v:Nat,(∀ i∈L,(os.getD i 0).toNat≠v)→(runL cs os L vs).1[v]?=vs[v]?
  | [],vs,_=>⟨rfl,fun v _=>rfl⟩
  | i :: L,vs,h=>by
    rw [runL] at h ⊢
    by_cases hl:largeB (toldV (cs.getD i c0R) (os.getD i 0) vs)=true
    · rw [if_pos hl] at h; exact absurd h (by show ¬ ((8:Int)=0); decide)
    rw [if_neg hl] at h ⊢
    obtain ⟨h1,h2⟩:=run_far cs os L _ h
    refine ⟨by rw [h1]; simp,fun v hv=>?_⟩
    rw [h2 v (fun j hj=>hv j (by simp [hj])),List.getElem?_set_ne (hv i (by simp))]
theorem run_app (cs:List CR) (os:List Int):∀ (P R:List Nat) (vs:List QR),(runL cs os (P ++ R) vs).2.2=0→∃ vs1,runL cs os (P ++ R) vs=runL cs os R vs1∧vs1.length=vs.length
  | [],R,vs,_=>⟨vs,rfl,rfl⟩
  | i :: P,R,vs,h=>by
    rw [List.cons_append,runL] at h ⊢
    by_cases hl:largeB (toldV (cs.getD i c0R) (os.getD i 0) vs)=true
    · rw [if_pos hl] at h; exact absurd h (by show ¬ ((8:Int)=0); decide)
    rw [if_neg hl] at h ⊢
    obtain ⟨vs1,h1,h2⟩:=run_app cs os P R _ h
    exact ⟨vs1,h1,by rw [h2]; simp⟩
theorem runZ_yes {cs:List CR} {os:List Int} {val:List QR} (h:(runZ cs os val).2.2=0):ChB (val.length:Int) cs os=true∧runZ cs os val=runL cs os (ordT cs os os) (nvL val):=by
  unfold runZ at h ⊢
  by_cases hc:ChB (val.length:Int) cs os=true
  · rw [if_pos hc]; exact ⟨hc,rfl⟩
  rw [if_neg hc] at h; exact absurd h (by show ¬ ((1:Int)=0); decide)
theorem valOf_at {a b:List QR} {v:Int} (h0:0≤v) (h:a[v.toNat]?=b[v.toNat]?):valOf a v=valOf b v:=by
  unfold valOf
  rw [if_neg (by omega),if_neg (by omega),h]
theorem run_len {cs:List CR} {os:List Int} {val:List QR} (h:(runZ cs os val).2.2=0):(runZ cs os val).1.length=val.length:=by
  obtain ⟨_,h2⟩:=runZ_yes h
  rw [h2] at h ⊢
  rw [(run_far cs os _ _ h).1,nvL_len]
theorem run_stays {cs:List CR} {os:List Int} {val:List QR} (h:(runZ cs os val).2.2=0) {v:Nat} (hv:∀ i,i<cs.length→os.getD i 0≠(v:Int)):(runZ cs os val).1[v]?=(nvL val)[v]?:=by
  obtain ⟨hc,h2⟩:=runZ_yes h
  rw [h2] at h ⊢
  refine (run_far cs os _ _ h).2 v (fun i hi e=>?_)
  obtain ⟨k,hk,rfl⟩:=List.mem_iff_getElem.1 hi;obtain ⟨p1,p2,_⟩:=(plan_spec hc).1 k _ (List.getElem?_eq_getElem hk)
  exact hv _ p1 (by omega)
theorem toldV_ext {c:CR} {v:Int} {a b:List QR} (h:∀ t∈c.ts,t.v≠v→valOf a t.v=valOf b t.v):toldV c v a=toldV c v b:=by
  unfold toldV
  rw [atG_ext (fun t ht=>by
    unfold othT at ht
    obtain ⟨h1,h2⟩:=List.mem_filter.1 ht
    exact h t h1 (of_decide_eq_true h2))]
theorem run_fix {cs:List CR} {os:List Int} {val:List QR} (h:(runZ cs os val).2.2=0) {i:Nat} (hi:i<cs.length) (h0:0≤os.getD i 0):largeB (toldV (cs.getD i c0R) (os.getD i 0) (runZ cs os val).1)=false∧(runZ cs os val).1[(os.getD i 0).toNat]?=some (QR.nf (toldV (cs.getD i c0R) (os.getD i 0) (runZ cs os val).1))∧isC (cs.getD i c0R) (val.length:Int)=true∧hasV (cs.getD i c0R) (os.getD i 0)=true:=by
  obtain ⟨hc,h2⟩:=runZ_yes h
  rw [h2] at h ⊢
  obtain ⟨_,_,_,hol,h5,_⟩:=ChB_true hc;obtain ⟨c1,c2⟩:=h5 i hi
  have c3:hasV (cs.getD i c0R) (os.getD i 0)=true:=by
    rcases c2 with c2 | c2
    · omega
    exact c2.1
  have c4:=hasV_lt c1 c3;obtain ⟨k,hk,he⟩:=List.mem_iff_getElem.1 ((plan_spec hc).2 i hi h0)
  have hki:(ordT cs os os)[k]?=some i:=by rw [List.getElem?_eq_getElem hk,he]
  obtain ⟨p1,p2,p3,p4⟩:=(plan_spec hc).1 k i hki
  have hpl:ordT cs os os=(ordT cs os os).take k ++ i :: (ordT cs os os).drop (k + 1):=by
    rw [← he,← List.drop_eq_getElem_cons hk,List.take_append_drop]
  have later:∀ j∈(ordT cs os os).drop (k + 1),j ∉ (ordT cs os os).take k∧j≠i∧j<cs.length∧0≤os.getD j 0:=fun j hj=>by
    obtain ⟨m,hm,hme⟩:=List.mem_iff_getElem.1 hj
    rw [List.length_drop] at hm
    rw [List.getElem_drop] at hme
    have hjm:(ordT cs os os)[k + 1 + m]?=some j:=by rw [List.getElem?_eq_getElem (by omega),hme]
    obtain ⟨q1,q2,q3,_⟩:=(plan_spec hc).1 _ _ hjm
    refine ⟨fun h9=>q3 ?_,fun h9=>q3 ?_,q1,q2⟩
    · exact List.mem_of_mem_take (i:=k) (by rw [List.take_take,Nat.min_eq_left (by omega)]; exact h9)
    rw [h9,List.mem_take_iff_getElem]; exact ⟨k,by omega,he⟩
  have one:∀ j,j<cs.length→0≤os.getD j 0→j≠i→os.getD j 0≠os.getD i 0:=fun j hj hj0 hji e=>by
    rcases Nat.lt_or_ge j i with h9 | h9
    · rcases c2 with c2 | c2
      · omega
      exact c2.2 j h9 e
    rcases (h5 j hj).2 with c5 | c5
    · omega
    exact c5.2 i (by omega) e.symm
  generalize hP:(ordT cs os os).take k=P at hpl later p4
  generalize hR:(ordT cs os os).drop (k + 1)=R at hpl later
  rw [hpl] at h ⊢
  obtain ⟨vs1,r1,r2⟩:=run_app cs os _ _ _ h
  rw [r1] at h ⊢
  rw [runL] at h ⊢
  by_cases hl:largeB (toldV (cs.getD i c0R) (os.getD i 0) vs1)=true
  · rw [if_pos hl] at h; exact absurd h (by show ¬ ((8:Int)=0); decide)
  rw [if_neg hl] at h ⊢
  obtain ⟨f1,f2⟩:=run_far cs os _ _ h
  have g1:(runL cs os R (vs1.set (os.getD i 0).toNat (QR.nf (toldV (cs.getD i c0R) (os.getD i 0) vs1)))).1[(os.getD i 0).toNat]?=some (QR.nf (toldV (cs.getD i c0R) (os.getD i 0) vs1)):=by
    rw [f2 _ (fun j hj e=>by
      obtain ⟨l1,l2,l3,l4⟩:=later j hj
      exact one j l3 l4 l2 (by omega)),List.getElem?_set_self (by rw [r2,nvL_len]; omega)]
  have g2:toldV (cs.getD i c0R) (os.getD i 0) (runL cs os R (vs1.set (os.getD i 0).toNat (QR.nf (toldV (cs.getD i c0R) (os.getD i 0) vs1)))).1=toldV (cs.getD i c0R) (os.getD i 0) vs1:=toldV_ext (fun t ht hne=>by
    have Y0:=isC_all c1 t ht
    refine valOf_at Y0.1 ?_
    rw [f2 _ (fun j hj e=>by
      obtain ⟨l1,l2,l3,l4⟩:=later j hj
      exact l1 (p4 t ht j l3 l2 (by omega))),List.getElem?_set_ne (by omega)])
  rw [g2]
  exact ⟨by simpa using hl,g1,c1,c3⟩
theorem run_holds {cs:List CR} {os:List Int} {val:List QR} (h:(runZ cs os val).2.2=0) {i:Nat} (hi:i<cs.length) (h0:0≤os.getD i 0):atG (runZ cs os val).1 (cs.getD i c0R).ts (QR.val (cs.getD i c0R).k)=0:=by
  obtain ⟨g1,g2,g3,g4⟩:=run_fix h hi h0
  exact told_holds (a:=(runZ cs os val).1) g3 g4 (by rw [valOf_some h0 g2,QR.nf_val]) (fun t _ _=>rfl)
theorem nf_is (q:Rat):(QR.nf q).is=true:=by
  unfold QR.is isN QR.nf
  simp only [rv_toL]
  simp
theorem nf_sm2 {z:Int} (h:z.natAbs<4294967296):SmQ 2 (QR.nf ((z:Int):Rat)):=by
  constructor
  · show (toL ((z:Int):Rat).num.natAbs).length≤2
    rw [Rat.num_intCast]
    by_cases h0:z.natAbs=0
    · rw [h0,toL_zero]; decide
    rw [toL_small h0 h]; simp
  show (toL ((z:Int):Rat).den).length≤2
  rw [Rat.den_intCast,toL_1]; decide
theorem nf_len {z:Int} (h0:z.natAbs≠0) (h:z.natAbs<4294967296):(QR.nf ((z:Int):Rat)).n.length=1:=by
  show (toL ((z:Int):Rat).num.natAbs).length=1
  rw [Rat.num_intCast,toL_small h0 h]; rfl
theorem nf_s16 {x:Rat} (h:largeB x=false):SmQ 16 (QR.nf x):=by
  unfold largeB at h
  simp only [Bool.or_eq_false_iff,decide_eq_false_iff_not] at h
  exact ⟨by show (toL _).length≤16; omega,by show (toL _).length≤16; omega⟩
theorem runL_s16 (cs:List CR) (os:List Int):∀ (pl:List Nat) (vs:List QR),(∀ q∈vs,SmQ 16 q)→∀ q∈(runL cs os pl vs).1,SmQ 16 q
  | [],vs,h=>h
  | i :: r,vs,h=>by
    rw [runL]
    cases hl:largeB (toldV (cs.getD i c0R) (os.getD i 0) vs) with
    | true=>intro q hq; rw [if_pos rfl] at hq; cases hq
    | false =>
      rw [if_neg (by decide)]
      refine runL_s16 cs os r _ (fun x hx=>?_)
      rcases List.mem_or_eq_of_mem_set hx with h1 | h1
      · exact h x h1
      exact h1 ▸ nf_s16 hl
theorem runZ_s16 {N:List Nat} {w:World} {vv:Value} (cs:List CR) (os:List Int) {val:List QR} (hv:Lay rdQ N w vv val) (hsv:∀ q∈val,SmQ 3 q):∀ q∈(runZ cs os val).1,SmQ 16 q:=by
  unfold runZ
  split
  · refine runL_s16 cs os _ _ (fun q hq=>?_)
    obtain ⟨z,hz,rfl⟩:=List.mem_map.1 hq;obtain ⟨j,hj,rfl⟩:=List.mem_iff_getElem.1 hz;obtain ⟨cs9,_,vn9,vd9,_,h1,h2⟩:=hv.elem hj;have hf:=fit_sm h1 h2 (hsv _ (List.getElem_mem hj))
    exact ⟨Nat.le_trans hf.1 (by decide),Nat.le_trans hf.2 (by decide)⟩
  intro q hq; cases hq
theorem phZ_s16 {N:List Nat} {w:World} {vv:Value} (cs:List CR) (os:List Int) {val:List QR} (hv:Lay rdQ N w vv val) (hsv:∀ q∈val,SmQ 3 q):∀ q∈(phZ cs os val).1.2,SmQ 16 q:=by
  have h0:=runZ_s16 cs (setZ (val.length:Int) cs os) hv hsv
  unfold phZ
  split
  · split
    · intro q hq; cases hq
    split
    · split
      · intro q hq; cases hq
      split
      · intro q hq; cases hq
      exact h0
    intro q hq; cases hq
  intro q hq; cases hq
theorem phZ_ok {cs:List CR} {os:List Int} {val:List QR} (h:(phZ cs os val).2.2=0):mayP cs os val.length∧firstW (List.range val.length) (wsOf val.length cs) 0=none∧ChB (val.length:Int) cs os=true∧badF cs (setZ (val.length:Int) cs os)=none∧(runZ cs (setZ (val.length:Int) cs os) val).2.2=0∧phZ cs os val=((setZ (val.length:Int) cs os,(runZ cs (setZ (val.length:Int) cs os) val).1),-1,0):=by
  by_cases h1:mayP cs os val.length
  · cases h2:firstW (List.range val.length) (wsOf val.length cs) 0 with
    | some i=>rw [phZ_ring h1 h2] at h; exact absurd h (by show ¬ ((9:Int)=0); decide)
    | none =>
      cases h3:ChB (val.length:Int) cs os with
      | false=>rw [phZ_cho h1 h2 h3] at h; exact absurd h (by show ¬ ((1:Int)=0); decide)
      | true =>
        cases h4:badF cs (setZ (val.length:Int) cs os) with
        | some i=>rw [phZ_bad h1 h2 h3 h4] at h; exact absurd h (by show ¬ ((10:Int)=0); decide)
        | none =>
          have h5:=phZ_run h1 h2 h3 h4
          by_cases h6:(runZ cs (setZ (val.length:Int) cs os) val).2.2≠0
          · rw [h5,if_pos h6] at h; exact absurd h h6
          rw [if_neg h6] at h5
          exact ⟨h1,rfl,rfl,rfl,by simpa using h6,h5⟩
  rw [phZ_no h1] at h; exact absurd h (by show ¬ ((1:Int)=0); decide)
def kE (x:Int):CR:=⟨0,[⟨0,QR.nf ((1:Int):Rat)⟩],QR.nf ((-x:Int):Rat)⟩
theorem kE_is (x:Int):isC (kE x) 1=true:=by
  show (decide ((0:Int)≤0) && (decide ((0:Int)≤4) && ((QR.nf ((-x:Int):Rat)).is && (decide ((0:Int)≤0) && (decide ((0:Int)<1) && ((QR.nf ((1:Int):Rat)).is && (decide ((QR.nf ((1:Int):Rat)).n.length≠0) && true)))))))=true
  rw [nf_is,nf_is,nf_len (by decide) (by decide)]; decide
theorem k_ws5:wsOf 1 [kE 1,kE 2]=[[0],[0]]:=by
  show [wOf 1 (kE 1),wOf 1 (kE 2)]=_
  unfold wOf
  rw [if_pos (show isC (kE 1) ((1:Nat):Int)=true from kE_is 1),if_pos (show isC (kE 2) ((1:Nat):Int)=true from kE_is 2)]; rfl
theorem k_first5:firstW (List.range 1) (wsOf 1 [kE 1,kE 2]) 0=none:=by rw [k_ws5]; decide
theorem k_all5:∀ c∈[kE 1,kE 2],isC c ((1:Nat):Int)=true:=fun c hc=>by
  rcases List.mem_cons.1 hc with rfl | hc
  · exact kE_is 1
  rw [List.mem_singleton.1 hc]; exact kE_is 2
theorem k_ch5:ChB ((1:Nat):Int) [kE 1,kE 2] [-1,-1]=true:=by
  refine decide_eq_true ⟨by decide,by decide,by decide,by decide,fun j hj=>?_,k_first5⟩
  have hj2:j<2:=hj
  rcases (show j=0∨j=1 by omega) with rfl | rfl
  · exact ⟨kE_is 1,.inl (by decide)⟩
  exact ⟨kE_is 2,.inl (by decide)⟩
theorem k_p51:passF 1 [[0],[0]] [0,0] [-1,-1]=[0,-1]:=by decide +kernel
theorem k_p52:passF 1 [[0],[0]] [0,0] [0,-1]=[0,-1]:=by decide +kernel
theorem k_st5:stS [kE 1,kE 2]=[0,0]:=rfl
theorem k_set5:setZ ((1:Nat):Int) [kE 1,kE 2] [-1,-1]=[0,-1]:=by
  have hC:=ChoZ.of k_ch5;have hc:=hC.c;have hs:=hC.st
  rw [setZ_yes k_ch5]
  unfold setlZ
  rw [k_st5,k_ws5] at hs ⊢
  rw [k_ws5] at hc
  rw [← setl_step hs hc,k_p51]
  exact setl_same k_p52
theorem k_ph:phZ [kE 1,kE 2] [-1,-1] [QR.nf ((0:Int):Rat)]=(([],[]),1,10):=by
  have hm:mayP [kE 1,kE 2] [-1,-1] 1:=⟨by decide,by decide,by decide,by decide,k_all5⟩
  have hb:badF [kE 1,kE 2] [0,-1]=some 1:=badF_at (by decide) (by
    show (decide ((0:Int)=0) && (decide ((-1:Int)<0) && !(decide ((1:Nat)=0) && decide (QR.val (kE 2).k=0))))=true
    rfl) (fun j hj=>by
    obtain rfl:j=0:=by omega
    show (decide ((0:Int)=0) && (decide ((0:Int)<0) && _))=false
    rfl)
  exact phZ_bad (i:=1) (val:=[QR.nf ((0:Int):Rat)]) hm k_first5 k_ch5 (by
    show badF [kE 1,kE 2] (setZ ((1:Nat):Int) [kE 1,kE 2] [-1,-1])=some 1
    rw [k_set5]; exact hb)
end Go.Proofs.YthoooolflmbmbaaGreat
end
section
namespace Go.Proofs.YthoooolflmbmbaaGreat
open Go.RowKit
set_option linter.unusedVariables false
set_option linter.unusedSimpArgs false
set_option maxRecDepth 10000
theorem built_C12 (T:Option Addr) (l t:Nat) (s0:Bool) (A0:Option Addr) (n0 c0:Nat) (B0:Option Addr) (m0 d0:Nat):Tryz.prog.built 42 [(1,.slice T l t),(2,.agg #[.bool s0,.slice A0 n0 c0,.slice B0 m0 d0])]=some #[.int .i64 0,.slice T l t,.bool s0,.slice A0 n0 c0,.slice B0 m0 d0]:=by kernel_rfl
theorem fillK2 (v1:Int) (T1:Option Addr) (l1 t1:Nat) (s1:Bool) (A1:Option Addr) (n1 c1:Nat) (B1:Option Addr) (m1 d1:Nat) (v2:Int) (T2:Option Addr) (l2 t2:Nat) (s2:Bool) (A2:Option Addr) (n2 c2:Nat) (B2:Option Addr) (m2 d2:Nat):Instr.fill (fun i=>some (i * 5,5)) ((Array.range (2 * 5)).map ((Value.agg #[.int .i64 0,.slice none 0 0,.bool false,.slice none 0 0,.slice none 0 0]).cells[· % (Value.agg #[.int .i64 0,.slice none 0 0,.bool false,.slice none 0 0,.slice none 0 0]).cells.size]!)) [(0,.agg #[.int .i64 v1,.slice T1 l1 t1,.bool s1,.slice A1 n1 c1,.slice B1 m1 d1]),(1,.agg #[.int .i64 v2,.slice T2 l2 t2,.bool s2,.slice A2 n2 c2,.slice B2 m2 d2])]=some #[.int .i64 v1,.slice T1 l1 t1,.bool s1,.slice A1 n1 c1,.slice B1 m1 d1,.int .i64 v2,.slice T2 l2 t2,.bool s2,.slice A2 n2 c2,.slice B2 m2 d2]:=by kernel_rfl
theorem fillI2 (a b:Int):Instr.fill (fun i=>some (i * 1,1)) ((Array.range (2 * 1)).map ((Value.int .i64 0).cells[· % (Value.int .i64 0).cells.size]!)) [(0,.int .i64 a),(1,.int .i64 b)]=some #[.int .i64 a,.int .i64 b]:=by kernel_rfl
theorem k_sm:∀ c∈[kE 1,kE 2],SmC 150 c:=fun c hc=>by
  have h1:∀ z:Int,z.natAbs<4294967296→SmQ 150 (QR.nf ((z:Int):Rat)):=fun z hz=>⟨Nat.le_trans (nf_sm2 hz).1 (by decide),Nat.le_trans (nf_sm2 hz).2 (by decide)⟩
  rcases List.mem_cons.1 hc with rfl | hc
  · exact ⟨by show 1≤150; decide,h1 (-1) (by decide),fun t ht=>by rw [List.mem_singleton.1 ht]; exact h1 _ (by decide)⟩
  rw [List.mem_singleton.1 hc]
  exact ⟨by show 1≤150; decide,h1 (-2) (by decide),fun t ht=>by rw [List.mem_singleton.1 ht]; exact h1 _ (by decide)⟩
theorem k_sv:∀ q∈[QR.nf ((0:Int):Rat)],SmQ 16 q:=fun q hq=>by
  rw [List.mem_singleton.1 hq]
  exact ⟨Nat.le_trans (nf_sm2 (z:=0) (by decide)).1 (by decide),Nat.le_trans (nf_sm2 (z:=0) (by decide)).2 (by decide)⟩
theorem c_equals {w : World} {x : Int} (hx : 0 ≤ x ∧ x ≤ 10) :
    Ret Tryz.prog 24 #[.int .i64 x] w (fun r w'=>∃ T t A c B e,r=.agg #[.int .i64 0,.slice T 1 t,.bool (decide ((((-x:Int)):Rat).num<0)),.slice A (toL (((-x:Int)):Rat).num.natAbs).length c,.slice B (toL (((-x:Int)):Rat).den).length e]∧Lay rdT [] w' (.slice T 1 t) (kE x).ts∧U32 [] w' (.slice A (toL (((-x:Int)):Rat).num.natAbs).length c) (toL (((-x:Int)):Rat).num.natAbs)∧U32 [] w' (.slice B (toL (((-x:Int)):Rat).den).length e) (toL (((-x:Int)):Rat).den)∧Mod [] w w'):=by
 have hbd:Bd [] w:=fun m h9=>by cases h9
 refine Ret.of (vs:=[.int .i64 x]) (n:=10) Tryz.func24 rfl rfl rfl rfl ?_
 have C0:Mod [] w w:=Mod.refl _ _
 refine W.sr<|L.alloc tyZ42 rfl ?_
 intro g2 w1 D2
 replace hbd:=hbd.new D2;have K2:=New.ge D2 C0.size;replace C0:=C0.tn D2;have E2:=D2.blk;clear D2
 refine L.z<|W.sr<|L.c rfl (c_ref2_Int (n:=1) (by decide) (by decide) hbd) ?_
 rintro _ w2 ⟨⟨A3,c3,B3,e3,rfl,I3,H3⟩,C2⟩
 replace hbd:=hbd.gr C2;replace C0:=C0.trans C2;replace E2:=E2.gr C2;clear C2;have F3:=Fit.int (n:=1) (by decide) (by decide)
 refine L.v (R1.build (vs:=[.int .i64 0,.agg #[.bool (decide ((((1:Int)):Rat).num<0)),.slice A3 (toL (((1:Int)):Rat).num.natAbs).length c3,.slice B3 (toL (((1:Int)):Rat).den).length e3]]) rfl (built_T01 _ _ _ _ _ _ _ _)) rfl<|L.buildSlice (cells:=[.int .i64 0,.bool (decide ((((1:Int)):Rat).num<0)),.slice A3 (toL (((1:Int)):Rat).num.natAbs).length c3,.slice B3 (toL (((1:Int)):Rat).den).length e3]) rfl Q37 tyZ47 (fillN1 _ _ _ _ _ _ _ _) (by decide) (by decide) rfl ?_
 intro g5 w3 D5
 replace hbd:=hbd.new D5;replace C0:=C0.tn D5;have hne_g2_g5:=E2.ne_ D5;replace E2:=E2.gr D5.mod;replace I3:=I3.new D5;replace H3:=H3.new D5;have E5:=D5.blk;clear D5
 have hT5:Lay rdT [g2] w3 (.slice (some ⟨g5,0,none⟩) 1 1) (kE x).ts:=Lay.of_blk (css:=[[.int .i64 0,.bool (decide ((((1:Int)):Rat).num<0)),.slice A3 (toL (((1:Int)):Rat).num.natAbs).length c3,.slice B3 (toL (((1:Int)):Rat).den).length e3]]) E5 (LayL.one _ (⟨0,QR.nf (((1:Int)):Rat)⟩:TR) (rdT_mk (t:=⟨0,QR.nf (((1:Int)):Rat)⟩) (I3.sub (by simp)) (H3.sub (by simp)))) rfl rfl (by decide) (by simp only [List.mem_singleton]; exact Ne.symm hne_g2_g5)
 refine L.k rfl<|L.v ((R1.neg rfl).as (wrap_i64 (by omega) (by omega))) rfl<|L.c rfl (c_ref2_Int (n:=(-x)) (by omega) (by omega) hbd) ?_
 rintro _ w4 ⟨⟨A8,c8,B8,e8,rfl,I8,H8⟩,C4⟩
 replace C0:=C0.trans C4;replace E2:=E2.gr C4;replace hT5:=hT5.gr C4;clear C4;have F8:=Fit.int (n:=(-x)) (by omega) (by omega)
 refine L.v (R1.build (vs:=[.slice (some ⟨g5,0,none⟩) 1 1,.agg #[.bool (decide ((((-x:Int)):Rat).num<0)),.slice A8 (toL (((-x:Int)):Rat).num.natAbs).length c8,.slice B8 (toL (((-x:Int)):Rat).den).length e8]]) rfl (built_C12 _ _ _ _ _ _ _ _ _ _)) rfl<|L.storeBox rfl rfl E2 rfl rfl tyG42 ?_
 intro w5 E2' C5
 replace C0:=C0.old1 C5 K2;replace hT5:=hT5.ms C5;replace I8:=I8.ms C5;replace H8:=H8.ms C5;clear C5;replace E2:=E2'; clear E2'
 refine L.z<|W.ret<|X.result1 rfl (.cell rfl (loadVar_blk E2 tyG42) .nil) ?_
 exact ⟨_,_,A8,c8,B8,e8,rfl,(hT5.sub (M':=[]) (fun b hb=>by cases hb)),(I8.sub (M':=[]) (fun b hb=>by cases hb)),(H8.sub (M':=[]) (fun b hb=>by cases hb)),C0⟩
set_option maxHeartbeats 2000000 in
theorem c_known15 {w : World} :
    Ret Tryz.prog 9 #[] w (fun r w'=>r=.bool true∧Mod [] w w'):=by
 have hbd:Bd [] w:=fun m h9=>by cases h9
 refine Ret.of (vs:=[]) (n:=22) Tryz.func9 rfl rfl rfl rfl ?_
 have C0:Mod [] w w:=Mod.refl _ _
 refine W.sr<|L.b rfl<|L.z<|W.sr<|L.c rfl (c_equals (x:=1) (by omega)) ?_
 rintro _ w1 ⟨T5,t5,A5,c5,B5,e5,rfl,Y5,I5,H5,C1⟩
 replace hbd:=hbd.gr C1;replace C0:=C0.trans C1;clear C1
 refine L.c rfl (c_equals (x:=2) (by omega)) ?_
 rintro _ w2 ⟨T6,t6,A6,c6,B6,e6,rfl,Y6,I6,H6,C2⟩
 replace hbd:=hbd.gr C2;replace C0:=C0.trans C2;replace Y5:=Y5.gr C2;replace I5:=I5.gr C2;replace H5:=H5.gr C2;clear C2
 refine L.buildSlice (cells:=[.int .i64 0,.slice T5 1 t5,.bool (decide ((((-1:Int)):Rat).num<0)),.slice A5 (toL (((-1:Int)):Rat).num.natAbs).length c5,.slice B5 (toL (((-1:Int)):Rat).den).length e5,.int .i64 0,.slice T6 1 t6,.bool (decide ((((-2:Int)):Rat).num<0)),.slice A6 (toL (((-2:Int)):Rat).num.natAbs).length c6,.slice B6 (toL (((-2:Int)):Rat).den).length e6]) rfl Q22 tyZ42 (fillK2 _ _ _ _ _ _ _ _ _ _ _ _ _ _ _ _ _ _ _ _ _ _) (by decide) (by decide) rfl ?_
 intro g7 w3 D7
 replace hbd:=hbd.new D7;replace C0:=C0.tn D7;replace Y5:=Y5.new D7;replace I5:=I5.new D7;replace H5:=H5.new D7;replace Y6:=Y6.new D7;replace I6:=I6.new D7;replace H6:=H6.new D7;have E7:=D7.blk;clear D7
 have hL7:Lay rdC [] w3 (.slice (some ⟨g7,0,none⟩) 2 2) [kE 1,kE 2]:=Lay.of_blk (css:=[[.int .i64 0,.slice T5 1 t5,.bool (decide ((((-1:Int)):Rat).num<0)),.slice A5 (toL (((-1:Int)):Rat).num.natAbs).length c5,.slice B5 (toL (((-1:Int)):Rat).den).length e5],[.int .i64 0,.slice T6 1 t6,.bool (decide ((((-2:Int)):Rat).num<0)),.slice A6 (toL (((-2:Int)):Rat).num.natAbs).length c6,.slice B6 (toL (((-2:Int)):Rat).den).length e6]]) E7 ((LayL.one _ (kE 1) (rdC_mk (c:=kE 1) (vt:=.slice T5 1 t5) (Y5.sub (M':=[]) (fun b hb=>by cases hb)) (I5.sub (M':=[]) (fun b hb=>by cases hb)) (H5.sub (M':=[]) (fun b hb=>by cases hb)))).append (LayL.one _ (kE 2) (rdC_mk (c:=kE 2) (vt:=.slice T6 1 t6) (Y6.sub (M':=[]) (fun b hb=>by cases hb)) (I6.sub (M':=[]) (fun b hb=>by cases hb)) (H6.sub (M':=[]) (fun b hb=>by cases hb))))) rfl rfl (by decide) (by simp)
 refine L.buildSlice (cells:=[.int .i64 (-1),.int .i64 (-1)]) rfl Q26 tyZ3 (fillI2 _ _) (by decide) (by decide) rfl ?_
 intro g8 w4 D8
 replace hbd:=hbd.new D8;replace C0:=C0.tn D8;replace hL7:=hL7.new D8;have E8:=D8.blk;clear D8
 have hO8:Lay rdI [] w4 (.slice (some ⟨g8,0,none⟩) 2 2) [-1,-1]:=Lay.of_blk (css:=[[.int .i64 (-1)],[.int .i64 (-1)]]) E8 (LayL.ints [-1,-1]) rfl rfl (by decide) (by simp)
 refine L.c rfl (c_ref2_Int (n:=0) (by decide) (by decide) hbd) ?_
 rintro _ w5 ⟨⟨A9,c9,B9,e9,rfl,I9,H9⟩,C5⟩
 replace hbd:=hbd.gr C5;replace C0:=C0.trans C5;replace hL7:=hL7.gr C5;replace hO8:=hO8.gr C5;clear C5;have F9:=Fit.int (n:=0) (by decide) (by decide)
 refine L.buildSlice (cells:=[.bool (decide ((((0:Int)):Rat).num<0)),.slice A9 (toL (((0:Int)):Rat).num.natAbs).length c9,.slice B9 (toL (((0:Int)):Rat).den).length e9]) rfl Q23 tyZ40 (fillQ9 _ _ _ _ _ _ _) (by decide) (by decide) rfl ?_
 intro g10 w6 D10
 replace hbd:=hbd.new D10;replace C0:=C0.tn D10;replace hL7:=hL7.new D10;replace hO8:=hO8.new D10;replace I9:=I9.new D10;replace H9:=H9.new D10;have E10:=D10.blk;clear D10
 have hV10:Lay rdQ [] w6 (.slice (some ⟨g10,0,none⟩) 1 1) [QR.nf (((0:Int)):Rat)]:=Lay.of_blk (css:=[[.bool (decide ((((0:Int)):Rat).num<0)),.slice A9 (toL (((0:Int)):Rat).num.natAbs).length c9,.slice B9 (toL (((0:Int)):Rat).den).length e9]]) E10 (LayL.one _ (QR.nf (((0:Int)):Rat)) (rdQ_mk (q:=QR.nf (((0:Int)):Rat)) (I9.sub (M':=[]) (fun b hb=>by cases hb)) (H9.sub (M':=[]) (fun b hb=>by cases hb)))) rfl rfl (by decide) (by simp)
 refine L.v (R1.build (vs:=[.slice (some ⟨g8,0,none⟩) 2 2,.slice (some ⟨g10,0,none⟩) 1 1]) rfl (built_S2 _ _ _ _ _ _)) rfl<|L.c rfl (c_Phase (M:=[]) (cs:=[kE 1,kE 2]) (os:=[-1,-1]) (val:=[QR.nf (((0:Int)):Rat)]) (hL7.sub (M':=[]) (fun b hb=>by cases hb)) (hO8.sub (M':=[]) (fun b hb=>by cases hb)) (hV10.sub (M':=[]) (fun b hb=>by cases hb)) (hbd.sub (fun b hb=>by cases hb)) k_sm k_sv (by decide)) ?_
 rintro _ w7 ⟨a12,b12,rfl,hA,hB,C7⟩
 replace C0:=C0.trans C7;clear C7
 refine L.k rfl<|L.ex rfl rfl<|L.ex rfl rfl<|L.ex rfl rfl<|L.alloc tyZ28 rfl ?_
 intro g1 w8 D1
 have K1:=New.ge D1 C0.size;replace C0:=C0.tn D1;replace hA:=hA.new D1;replace hB:=hB.new D1;have E1:=D1.blk;clear D1
 refine L.storeBox rfl rfl E1 rfl (one_S (lay_form' hA) (lay_form' hB)) tyG28 ?_
 intro w9 E1' C9
 replace C0:=C0.old1 C9 K1;clear C9;replace E1:=E1'; clear E1'
 refine L.b rfl<|L.b rfl<|L.z<|W.sr<|L.k rfl<|L.v ((R1.eq rfl rfl).asB (c:=true) (by rw [k_ph]; rfl)) rfl<|L.k rfl<|L.p rfl (R1.move rfl)<|L.p rfl ((R1.eq rfl rfl).asB (c:=true) (by rw [k_ph]; rfl)) ?_
 refine L.pT rfl rfl<|L.b rfl<|L.z<|W.ret<|X.result1 rfl (.tmp rfl .nil) ?_
 exact ⟨rfl,C0⟩
end Go.Proofs.YthoooolflmbmbaaGreat
end
