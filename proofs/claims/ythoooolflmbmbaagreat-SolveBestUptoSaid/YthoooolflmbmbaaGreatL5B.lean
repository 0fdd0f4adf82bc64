/- Several texts in one. -/
import Derived.Test.YthoooolflmbmbaaGreatL5K
import Derived.Test.YthoooolflmbmbaaGreatL5X
import Derived.Test.YthoooolflmbmbaaGreatL5V
section
namespace Go.Proofs.YthoooolflmbmbaaGreat
open Go.RowKit
set_option linter.unusedVariables false
set_option linter.unusedSimpArgs false
set_option maxRecDepth 10000
theorem c_none {N9 : List Nat} {w : World} {vl : Value} {cs : List CR} (hL : Lay rdC N9 w vl cs) (hcl : cs.length ≤ 1000) :
    Ret Tryz.prog 7 #[vl] w (fun r w'=>Lay rdI [] w' r (List.replicate cs.length (-1))∧Mod [] w w'):=by
 obtain ⟨TL,tL,rfl⟩:=hL.form
 refine Ret.of (vs:=[.slice TL cs.length tL]) (n:=15) Tryz.func7 rfl rfl rfl rfl ?_
 have C0:Mod [] w w:=Mod.refl _ _
 refine W.sr<|L.b rfl<|L.z<|W.sr<|L.b rfl<|L.z<|W.seq ?_
 refine W.sr<|L.b rfl<|L.z<|W.block<|W.loop (ι:=Nat × Value) (fun (i,u)=>[(0,.slice TL cs.length tL),(3,u),(4,.int .i64 ((i:Nat):Int))]) (fun (i,u) w_=>Lay rdC (ownL u ++ N9) w_ (.slice TL cs.length tL) cs∧w_.ownsRow w.heap.size 3 1 u i (intsZ (List.replicate i (-1)))∧i≤cs.length∧Mod [] w w_) (fun (i,u)=>cs.length - i) (0,.slice none 0 0) ?_ ?_ ?_
 · exact ⟨rfl,rfl,rfl,trivial⟩
 ·
  exact ⟨hL.su,own_nil _ _ _ _,Nat.zero_le _,C0⟩
 rintro ⟨i,u⟩ w1 ⟨hL,ho,hi,C0⟩
 refine W.seq<|W.sr<|L.k rfl<|L.k rfl<|L.lL rfl hL Q22<|L.lt rfl rfl<|L.z<|W.cond rfl ?_ ?_
 ·
  intro J8
  try simp only [bq,ne_eq] at J8
  refine W.skip<|X.seq<|W.seq<|W.block<|W.region<|L.k rfl<|L.build1 rfl rfl Q26 tyZ3 rfl ?_
  intro g12 w2 D12
  replace hL:=hL.gr D12.mod;replace ho:=own_gs ho D12.mod;replace C0:=C0.trans D12.mod
  have hrow:Sl [] w2 1 (.slice (some ⟨g12,0,none⟩) 1 1) 1 [.int .i64 (-1)]:=Sl.of_blk D12.blk 0 (Nat.le_refl _) (by decide) rfl (by simp) (fun j hj=>by simp)
  clear D12
  refine L.append rfl rfl ho hrow (by simp [Value.oneCell']) Q26 tyZ3 (by omega) (by unfold maxLen; omega) C0.size rfl ?_
  intro v13 w3 O13' X13
  replace hL:=hL.gw X13;replace C0:=Mod.oldOwn C0 X13.mod ho;replace ho:=O13'; clear O13';clear X13
  refine L.b rfl<|L.nil<|X.blockEnd<|X.seq<|W.region<|L.k rfl<|L.inc rfl rfl (by omega)<|L.b rfl<|L.nil<|X.next (i + 1,v13) ?_ ?_ ?_
  · exact ⟨rfl,rfl,rfl,trivial⟩
  ·
   exact ⟨hL.su,own_congr ho rfl (by simp [intsZ,List.replicate_succ']),by omega,C0⟩
  first | omega | (dsimp only; omega)
 intro J8
 try simp only [bq,ne_eq] at J8
 obtain rfl:i=cs.length:=by omega
 refine W.brk<|W.sr<|L.k rfl<|L.b rfl<|L.z ?_
 refine W.ret<|X.result1 rfl (.tmp rfl .nil) ?_
 exact ⟨Lay.of_Z ho (by simp),C0⟩
end Go.Proofs.YthoooolflmbmbaaGreat
end
section
namespace Go.Proofs.YthoooolflmbmbaaGreat
open Go.RowKit
set_option linter.unusedVariables false
set_option linter.unusedSimpArgs false
set_option maxRecDepth 10000
set_option maxHeartbeats 2000000 in
theorem c_SolveBest {w : World} {vl vv : Value} {cs : List CR} {val : List QR} (hL : Lay rdC [] w vl cs) (hv : Lay rdQ [] w vv val) (hb : szCs cs ≤ 4194304) (hbv : szQs val ≤ 4194304) :
    Ret Tryz.prog 3 #[vl,vv] w (fun r w'=>r=.bool true∧Mod [] w w'):=by
 have hbd:Bd [] w:=fun m hm=>by cases hm
 obtain ⟨TL,tL,rfl⟩:=hL.form;obtain ⟨TV,tV,rfl⟩:=hv.form;have hmaxL:=hL.max; unfold maxLen at hmaxL;have hmaxV:=hv.max; unfold maxLen at hmaxV
 refine Ret.of (vs:=[.slice TL cs.length tL,.slice TV val.length tV]) (n:=87) Tryz.func3 rfl rfl rfl rfl ?_
 have C0:Mod [] w w:=Mod.refl _ _
 refine W.sr<|L.b rfl<|L.z<|W.seq<|W.sr<|L.k rfl<|L.c rfl (c_heavy_pantographlaw15 hL hb) ?_
 rintro _ w1 ⟨rfl,C1⟩
 replace hL:=hL.gr C1;replace hv:=hv.gr C1;replace hbd:=hbd.gr C1;replace C0:=C0.trans C1;clear C1
 refine L.k rfl ?_
 cases W14:(decide (150<szCs cs))
 ·
  have hcc_:=W14
  refine L.p rfl (R1.move rfl)<|L.callOn rfl rfl rfl rfl (c_many_pantographlaw15 hv hbv) rfl ?_
  rintro _ w2 ⟨b16,rfl,E16,C2⟩
  replace hL:=hL.gr C2;replace hv:=hv.gr C2;replace hbd:=hbd.gr C2;replace C0:=C0.trans C2;clear C2
  refine L.pF rfl rfl<|L.k rfl ?_
  cases W18:b16
  ·
   have hcc_:=W18
   refine L.p rfl (R1.move rfl)<|L.p rfl (R1.lenLay rfl hL Q22)<|L.p rfl ((R1.gt rfl rfl).asB (c:=(decide ((8:Int)<(cs.length:Int)))) (rfl))<|L.pF rfl rfl<|L.k rfl ?_
   cases W23:(decide ((8:Int)<(cs.length:Int)))
   ·
    have hcc_:=W23
    refine L.p rfl (R1.move rfl)<|L.p rfl (R1.lenLay rfl hv Q23)<|L.p rfl ((R1.gt rfl rfl).asB (c:=(decide ((6:Int)<(val.length:Int)))) (rfl))<|L.pF rfl rfl<|L.z<|W.cond rfl ?_ ?_
    ·
     intro J27
     have hcc_:=J27
     refine W.sr<|L.b rfl<|L.z<|W.ret<|X.thenRet<|X.result1 rfl (.tmp rfl .nil) ?_
     exact ⟨rfl,C0⟩
    intro J27
    have hcc_:=J27;have hsm:=sm150 (by simpa using W14);obtain ⟨hsv,hvl⟩:=(by first | exact E16 rfl | exact E16 W18:(∀ q∈val,SmQ 3 q)∧val.length≤100);have hsv3:=hsv;replace hsv:=sm316 hsv
    have hcl:cs.length≤12:=by have h9:=of_decide_eq_false W23; omega
    have hsmL:∀ c∈cs,SmC 1099511627776 c:=fun c hc=>smC_up (hsm c hc) (by decide)
    have I6:val.length≤6:=by have h9:=of_decide_eq_false J27; omega
    refine W.skip<|X.seq<|W.sr<|L.k rfl<|L.k rfl<|L.c rfl (c_none hL (by omega)) ?_
    rintro v31 w3 ⟨hO,C3⟩
    replace hL:=hL.gr C3;replace hv:=hv.gr C3;replace hbd:=hbd.gr C3;replace C0:=C0.trans C3;clear C3
    refine L.k rfl<|L.v (R1.build (vs:=[v31,.slice TV val.length tV]) rfl (built_S9 (lay_form' hO) ⟨_,_,_,rfl⟩ built_S2)) rfl<|L.c rfl (c_Phase (hL.sub (M':=[]) (fun b hb=>by cases hb)) (hO.sub (M':=[]) (fun b hb=>by cases hb)) (hv.sub (M':=[]) (fun b hb=>by cases hb)) (hbd.sub (M':=[]) (fun b hb=>by cases hb)) hsm hsv hcl) ?_
    rintro _ w4 ⟨a34,b34,rfl,hA,hB,C4⟩
    replace hL:=hL.gr C4;replace hv:=hv.gr C4;replace hbd:=hbd.gr C4;replace C0:=C0.trans C4;clear C4
    refine L.k rfl<|L.ex rfl rfl<|L.ex rfl rfl<|L.ex rfl rfl<|L.alloc tyZ28 rfl ?_
    intro g5 w5 D5
    replace hL:=hL.new D5;replace hv:=hv.new D5;replace hbd:=hbd.new D5;have K5:=New.ge D5 C0.size;replace C0:=C0.tn D5;replace hA:=hA.new D5;replace hB:=hB.new D5;have E5:=D5.blk;clear D5
    refine L.storeBox rfl rfl E5 rfl (one_S (lay_form' hA) (lay_form' hB)) tyG28 ?_
    intro w6 E5' C6
    replace hL:=hL.ms C6;replace hv:=hv.ms C6;replace hbd:=hbd.gr C6;replace C0:=C0.old1 C6 K5;replace hB:=hB.ms C6;clear C6;replace E5:=E5'; clear E5'
    refine L.b rfl<|L.b rfl<|L.z<|W.seq<|W.sr<|L.k rfl<|L.v ((R1.ne rfl rfl).asB (c:=(decide ((phZ cs (List.replicate cs.length (-1)) val).2.2≠0))) (rfl)) rfl<|L.z ?_
    refine W.cond rfl ?_ ?_
    ·
     intro J39
     try simp only [bq,ne_eq] at J39
     refine W.sr<|L.k rfl<|L.k rfl<|L.c rfl (c_none hL (by omega)) ?_
     rintro v43 w7 ⟨hO3,C7⟩
     replace hL:=hL.gr C7;replace hv:=hv.gr C7;replace hbd:=hbd.gr C7;replace C0:=C0.trans C7;clear C7
     refine L.k rfl<|L.v (R1.build (vs:=[v43,.slice TV val.length tV]) rfl (built_S9 (lay_form' hO3) ⟨_,_,_,rfl⟩ built_T2)) rfl<|L.c rfl (c_r15_Phase (hL.sub (M':=[]) (fun b hb=>by cases hb)) (hO3.sub (M':=[]) (fun b hb=>by cases hb)) (hv.sub (M':=[]) (fun b hb=>by cases hb)) (hbd.sub (M':=[]) (fun b hb=>by cases hb)) hsm hsv) ?_
     rintro _ w8 ⟨a46,b46,rfl,hA3,hB3,C8⟩
     replace C0:=C0.trans C8;clear C8
     refine L.k rfl<|L.ex rfl rfl<|L.ex rfl rfl<|L.ex rfl rfl<|L.alloc tyZ33 rfl ?_
     intro g8 w9 D8
     have K8:=New.ge D8 C0.size;replace C0:=C0.tn D8;replace hA3:=hA3.new D8;replace hB3:=hB3.new D8;have E8:=D8.blk;clear D8
     refine L.storeBox rfl rfl E8 rfl (one_S (lay_form' hA3) (lay_form' hB3)) tyG33 ?_
     intro w10 E8' C10
     replace C0:=C0.old1 C10 K8;clear C10;replace E8:=E8'; clear E8'
     refine L.b rfl<|L.b rfl<|L.z<|W.sr<|L.k rfl<|L.k rfl<|L.v ((R1.eq rfl rfl).asB (c:=true) (decide_eq_true rfl)) rfl<|L.k rfl<|L.callOn rfl rfl rfl rfl (c_known15) rfl ?_
     rintro _ w11 ⟨rfl,C11⟩
     replace C0:=C0.trans C11;clear C11
     refine L.pT rfl rfl<|L.b rfl<|L.z<|W.ret<|X.thenRet<|X.result1 rfl (.tmp rfl .nil) ?_
     exact ⟨rfl,C0⟩
    intro J39
    try simp only [bq,ne_eq] at J39
    have hok:(phZ cs (List.replicate cs.length (-1)) val).2.2=0:=by simpa using J39
    have hrl:=best_len hok
    have hsZ:∀ q∈(phZ cs (List.replicate cs.length (-1)) val).1.2,SmQ 10000 q:=fun q hq=>by have h9:=phZ_s16 cs (List.replicate cs.length (-1)) hv hsv3 q hq; exact ⟨Nat.le_trans h9.1 (by decide),Nat.le_trans h9.2 (by decide)⟩
    refine W.skip<|X.seq<|W.seq<|W.sr<|L.b rfl<|L.z<|W.block<|W.loop (ι:=Nat) (fun i=>[(0,.slice TL cs.length tL),(1,.slice TV val.length tV),(5,.pointer (some ⟨g5,0,none⟩)),(11,.int .i64 ((i:Nat):Int))]) (fun i w_=>Lay rdC [] w_ (.slice TL cs.length tL) cs∧Lay rdQ [] w_ (.slice TV val.length tV) val∧Lay rdQ [] w_ b34 (phZ cs (List.replicate cs.length (-1)) val).1.2∧Blk w_ g5 28 #[a34,b34]∧Bd [] w_∧Mod [] w w_∧i≤cs.length) (fun i=>cs.length - i) 0 ?_ ?_ ?_
    · repeat' constructor
    ·
     exact ⟨hL.sub (fun b hb=>by cases hb),hv.sub (fun b hb=>by cases hb),hB.sub (fun b hb=>by cases hb),E5,hbd.sub (fun b hb=>by cases hb),C0,Nat.zero_le _⟩
    rintro i w12 ⟨hL,hv,hB,E5,hbd,C0,hi⟩
    refine W.seq<|W.sr<|L.k rfl<|L.k rfl<|L.lL rfl hL Q22<|L.lt rfl rfl<|L.z<|W.cond rfl ?_ ?_
    ·
     intro J59
     try simp only [bq,ne_eq] at J59
     refine W.skip<|X.seq<|W.seq<|W.block<|W.seq<|W.drawW (T:=[]) rfl (by decide +kernel) (NoHang.then (NoHang.block (NoHang.then (NoHang.next (NoHang.block (NoHang.then NoHang.post)))))) (fun w13 C13=>?_)
     replace hL:=hL.gr C13;replace hv:=hv.gr C13;replace hB:=hB.gr C13;replace E5:=E5.gr C13;replace hbd:=hbd.gr C13;replace C0:=C0.trans C13
     have G1:Mod [] w13 w13:=Mod.refl _ _
     clear C13;have hb5_s:=E5
     refine D.z 0 rfl (by kernel_rfl) rfl G1<|D.z 1 rfl (by kernel_rfl) rfl G1<|D.t 2 rfl (by kernel_rfl) (fun _ hS=>R1.atLay (j:=i) rfl rfl (Lay.gr hL hS) Q22 rfl (by omega)) G1<|D.t 3 rfl (by kernel_rfl) (fun _ hS=>R1.fieldAddr rfl tyF42_0) G1 ?_
     obtain ⟨z66,cs66,P66,V66,vt66,ds66,rfl,Y66,vn66,vd66,rfl,I66,H66⟩:=Lay.elemQ hL (j:=i) (by omega);obtain ⟨T66,t66,rfl⟩:=Y66.form;obtain ⟨A66,c66,rfl⟩:=I66.form;obtain ⟨B66,e66,rfl⟩:=H66.form
     refine D.t 4 rfl (by kernel_rfl) (fun _ hS=>R1.loadEF rfl (SlE.gr V66 hS) rfl tyP3) G1<|D.t 5 rfl (by kernel_rfl) (fun _ hS=>(R1.eq rfl rfl).asB (c:=(decide (z66.st=0))) (rfl)) G1<|D.z 6 rfl (by kernel_rfl) rfl G1 ?_
     cases W68:(decide (z66.st=0))
     ·
      try simp only [bq,ne_eq] at W68
      refine D.o 7 rfl rfl (by kernel_rfl) G1<|D.o 8 rfl rfl (by kernel_rfl) G1<|D.o 9 rfl rfl (by kernel_rfl) G1<|D.o 10 rfl rfl (by kernel_rfl) G1<|D.o 11 rfl rfl (by kernel_rfl) G1<|D.o 12 rfl rfl (by kernel_rfl) G1<|D.o 13 rfl rfl (by kernel_rfl) G1<|D.o 14 rfl rfl (by kernel_rfl) G1<|D.t 15 rfl (by kernel_rfl) (fun _ hS=>R1.pickF rfl rfl) G1<|D.done (by decide +kernel) ?_ _
      refine X.seq<|W.condF rfl<|W.skip<|X.blockEnd<|X.seq<|W.region<|L.k rfl<|L.inc rfl rfl (by omega)<|L.b rfl<|L.nil<|X.next (i + 1) ?_ ?_ ?_
      · repeat' constructor
      ·
       exact ⟨hL.sub (fun b hb=>by cases hb),hv.sub (fun b hb=>by cases hb),hB.sub (fun b hb=>by cases hb),E5,hbd.sub (fun b hb=>by cases hb),C0,by omega⟩
      first | omega | (dsimp only; omega)
     try simp only [bq,ne_eq] at W68
     refine D.u 7 rfl rfl (by kernel_rfl) (fun _ hS=>R1.move rfl) G1<|D.u 8 rfl rfl (by kernel_rfl) (fun _ hS=>R1.move rfl) G1<|D.u 9 rfl rfl (by kernel_rfl) (fun _ hS=>R1.atLay (j:=i) rfl rfl (Lay.gr hL hS) Q22 rfl (by omega)) G1 ?_
     obtain ⟨z72,cs72,P72,V72,vt72,ds72,rfl,Y72,vn72,vd72,rfl,I72,H72⟩:=Lay.elemQ hL (j:=i) (by omega);obtain ⟨T72,t72,rfl⟩:=Y72.form;obtain ⟨A72,c72,rfl⟩:=I72.form;obtain ⟨B72,e72,rfl⟩:=H72.form
     obtain rfl:z66=z72:=by have h9:=P72; rw [P66] at h9; injection h9
     refine D.u 10 rfl rfl (by kernel_rfl) (fun _ hS=>R1.loadE rfl (SlE.gr V72 hS) tyG42) G1<|D.u 11 rfl rfl (by kernel_rfl) (fun _ hS=>R1.fieldAt rfl tyF28_1) G1<|D.u 12 rfl rfl (by kernel_rfl) (fun _ hS=>R1.loadFld rfl (hb5_s.gr hS) rfl tyP23) G1<|D.one 13 rfl (by kernel_rfl) (fun hX=>?_)
     refine L.callOn rfl rfl rfl rfl (c_Holds10 Y72 I72 H72 hB hbd ((hsm _ (List.mem_of_getElem? P66)).mono (by decide)) hsZ) rfl ?_
     rintro _ w14 ⟨rfl,C14⟩
     replace hL:=hL.gr C14;replace hv:=hv.gr C14;replace hB:=hB.gr C14;replace E5:=E5.gr C14;replace hbd:=hbd.gr C14;replace C0:=C0.trans C14;replace G1:=G1.trans C14;clear C14
     refine L.nil (hX _ _ ⟨.inr G1,?_⟩)
     refine D.u 14 rfl rfl (by kernel_rfl) (fun _ hS=>(R1.not rfl).asB (c:=false) (by rw [show (decide (atG (phZ cs (List.replicate cs.length (-1)) val).1.2 z66.ts (QR.val z66.k)=0))=true from best_req hok P66 W68]; rfl)) G1<|D.t 15 rfl (by kernel_rfl) (fun _ hS=>R1.pickT rfl rfl) G1<|D.done (by decide +kernel) ?_ _
     refine X.seq<|W.condF rfl<|W.skip<|X.blockEnd<|X.seq<|W.region<|L.k rfl<|L.inc rfl rfl (by omega)<|L.b rfl<|L.nil<|X.next (i + 1) ?_ ?_ ?_
     · repeat' constructor
     ·
      exact ⟨hL.sub (fun b hb=>by cases hb),hv.sub (fun b hb=>by cases hb),hB.sub (fun b hb=>by cases hb),E5,hbd.sub (fun b hb=>by cases hb),C0,by omega⟩
     first | omega | (dsimp only; omega)
    intro J59
    try simp only [bq,ne_eq] at J59
    obtain rfl:i=cs.length:=by omega
    refine W.brk<|W.sr<|L.k rfl<|L.k rfl<|L.fA rfl tyF28_1<|L.lF rfl E5 rfl tyP23 ?_
    refine L.c rfl (c_Beaten12 hL hv hB hbd hsm hsv3 hsZ (by omega) (by omega) (oks_al hv hsv3 hsm (by omega))) ?_
    rintro _ w15 ⟨z82,rfl,hBt82,C15⟩
    replace C0:=C0.trans C15;clear C15
    refine L.v ((R1.eq rfl rfl).asB (c:=true) (decide_eq_true (best_beat hok (by rw [hrl] at hBt82; exact hBt82)))) rfl<|L.k rfl<|L.callOn rfl rfl rfl rfl (c_known15) rfl ?_
    rintro _ w16 ⟨rfl,C16⟩
    replace C0:=C0.trans C16;clear C16
    refine L.pT rfl rfl<|L.b rfl<|L.z<|W.ret<|X.result1 rfl (.tmp rfl .nil) ?_
    exact ⟨rfl,C0⟩
   have hcc_:=W23
   refine L.o rfl<|L.o rfl<|L.o rfl<|L.pT rfl rfl<|L.z<|W.condT rfl<|W.sr<|L.b rfl<|L.nil ?_
   refine X.seq<|W.ret<|X.thenRet<|X.result1 rfl (.tmp rfl .nil) ?_
   exact ⟨rfl,C0⟩
  have hcc_:=W18
  refine L.o rfl<|L.o rfl<|L.o rfl<|L.pT rfl rfl<|L.k rfl<|L.o rfl<|L.o rfl<|L.o rfl<|L.pT rfl rfl<|L.z ?_
  refine W.condT rfl<|W.sr<|L.b rfl<|L.z<|W.ret<|X.thenRet<|X.result1 rfl (.tmp rfl .nil) ?_
  exact ⟨rfl,C0⟩
 have hcc_:=W14
 refine L.o rfl<|L.o rfl<|L.pT rfl rfl<|L.k rfl<|L.o rfl<|L.o rfl<|L.o rfl<|L.pT rfl rfl<|L.k rfl<|L.o rfl<|L.o rfl ?_
 refine L.o rfl<|L.pT rfl rfl<|L.z<|W.condT rfl<|W.sr<|L.b rfl<|L.z<|W.ret ?_
 refine X.thenRet<|X.result1 rfl (.tmp rfl .nil) ?_
 exact ⟨rfl,C0⟩
end Go.Proofs.YthoooolflmbmbaaGreat
end
