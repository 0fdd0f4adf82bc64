/- Walks: what the functions compute. -/
import Derived.Test.YthoooolflmbmbaaGreatGrC
namespace Go.Proofs.YthoooolflmbmbaaGreat
open Go.RowKit
set_option linter.unusedVariables false
set_option linter.unusedSimpArgs false
set_option maxRecDepth 10000
theorem c_r11_First {M N9 : List Nat} {w : World} {vl : Value} {cs : List CR} {z0 : Int} (hL : Lay rdC N9 w vl cs) (hbd : Bd M w) (hsm : ∀ c ∈ cs, SmC 1099511627776 c) :
    Ret Tryz.prog 20 #[vl,.int .i64 z0] w (fun x w'=>x=.int .i64 (fi (firstW (List.range (held z0)) (wsOf (held z0) cs) 0))∧Mod [] w w'):=by
 obtain ⟨TL,tL,rfl⟩:=hL.form;have D0:=held_le z0
 obtain ⟨N,hN⟩:∃ N,N=held z0:=⟨_,rfl⟩
 rw [← hN] at D0 ⊢
 have hmax:=hL.max; unfold maxLen at hmax
 refine Ret.of (vs:=[.slice TL cs.length tL,.int .i64 z0]) (n:=34) Tryz.func20 rfl rfl rfl rfl ?_
 have C0:Mod [] w w:=Mod.refl _ _
 refine W.sr<|L.b rfl<|L.z<|W.sr<|L.k rfl<|L.v (R1.maxI rfl rfl) rfl<|L.v ((R1.minI rfl rfl).as (j:=((N:Nat):Int)) (by rw [hN]; unfold held; omega)) rfl<|L.b rfl ?_
 refine L.z<|W.sr<|L.k rfl<|L.c rfl (c_start D0) ?_
 rintro v11 w1 ⟨ho,C1⟩
 replace hL:=hL.ownd ho C1;replace hbd:=hbd.ownd ho C1;replace ho:=own_less ho C0.size;replace C0:=C0.trans C1;clear C1
 refine L.b rfl<|L.z<|W.seq<|W.sr<|L.b rfl<|L.z<|W.block<|W.loop (ι:=Nat) (fun i=>[(0,.slice TL cs.length tL),(1,.int .i64 (N:Int)),(5,v11),(6,.int .i64 (i:Int))]) (fun i w_=>i≤cs.length∧firstW (List.range N) ((wsOf N cs).take i) 0=none∧Lab N (apAll (List.range N) ((wsOf N cs).take i))∧World.ownsRow w_ w.heap.size 3 1 v11 N (ints (apAll (List.range N) ((wsOf N cs).take i)))∧Lay rdC (ownL v11 ++ N9) w_ (.slice TL cs.length tL) cs∧Bd (ownL v11 ++ M) w_∧Mod [] w w_) (fun i=>cs.length - i) 0 ?_ ?_ ?_
 · repeat' constructor
 ·
  exact ⟨Nat.zero_le _,rfl,Lab.start N,ho,hL,hbd,C0⟩
 rintro i w2 ⟨hi,hnone,hlab,ho,hL,hbd,C0⟩
 refine W.seq<|W.sr<|L.k rfl<|L.k rfl<|L.lL rfl hL Q22<|L.lt rfl rfl<|L.z<|W.cond rfl ?_ ?_
 ·
  intro J15
  try simp only [bq,ne_eq] at J15
  refine W.skip<|X.seq<|W.seq<|W.block<|W.sr<|L.k rfl<|L.k rfl<|L.aL (j:=i) rfl rfl hL Q22 rfl (by omega) ?_
  obtain ⟨z21,cs21,P21,V21,vt21,ds21,rfl,Y21,vn21,vd21,rfl,I21,H21⟩:=Lay.elemQ hL (j:=i) (by omega);obtain ⟨T21,t21,rfl⟩:=Y21.form;obtain ⟨A21,c21,rfl⟩:=I21.form;obtain ⟨B21,e21,rfl⟩:=H21.form
  refine L.v (R1.loadE rfl V21 tyG42) rfl<|L.k rfl<|L.c rfl (c_ref8_Is Y21 I21 H21 (n:=(N:Int)) (by omega) hbd (hsm _ (List.mem_of_getElem? P21))) ?_
  rintro _ w3 ⟨rfl,C3⟩
  replace hL:=hL.gr C3;replace hbd:=hbd.gr C3;replace C0:=C0.trans C3;replace ho:=own_gs ho C3;replace Y21:=Y21.gr C3;replace I21:=I21.gr C3;replace H21:=H21.gr C3;clear C3
  refine L.k rfl ?_
  cases W24:(isC z21 (N:Int))
  ·
   have hcc_:=W24
   refine L.o rfl<|L.o rfl<|L.o rfl<|L.o rfl<|L.o rfl<|L.o rfl<|L.o rfl<|L.pF rfl rfl<|L.z<|W.condF rfl ?_
   refine W.skip<|X.blockEnd<|X.seq<|W.region<|L.k rfl<|L.inc rfl rfl (by omega)<|L.b rfl<|L.nil<|X.next (i + 1) ?_ ?_ ?_
   · repeat' constructor
   ·
    have hok:okW (apAll (List.range N) ((wsOf N cs).take i)) (wOf N z21)=true:=by
      first | (rw [wOf,if_pos W24]; exact J32) | (rw [wOf,if_neg (by rw [W24]; decide)]; rfl)
    refine ⟨by omega,first_on P21 hnone hok,?_,?_,hL,hbd,C0⟩
    · rw [ws_take P21,apAll_snoc]; exact hlab.apW wOf_lt
    rw [ws_take P21,apAll_snoc]
    first | (rw [wOf,if_pos W24]; rw [if_pos J32] at ho; exact ho) | (rw [wOf,if_neg (by rw [W24]; decide)]; exact ho)
   first | omega | (dsimp only; omega)
  have hcc_:=W24
  refine L.p rfl (R1.move rfl)<|L.p rfl (R1.move rfl)<|L.p rfl (R1.move rfl)<|L.p rfl (R1.atLay (j:=i) rfl rfl hL Q22 rfl (by omega)) ?_
  obtain ⟨z29,cs29,P29,V29,vt29,ds29,rfl,Y29,vn29,vd29,rfl,I29,H29⟩:=Lay.elemQ hL (j:=i) (by omega);obtain ⟨T29,t29,rfl⟩:=Y29.form;obtain ⟨A29,c29,rfl⟩:=I29.form;obtain ⟨B29,e29,rfl⟩:=H29.form
  obtain rfl:z21=z29:=by have h9:=P29; rw [P21] at h9; injection h9
  refine L.p rfl (R1.loadE rfl V29 tyG42)<|L.callOn rfl rfl rfl rfl (c_join (c:=z21) ho hlab (isC_all W24) D0 Y29) rfl ?_
  rintro _ w4 ⟨rfl,O30,C4⟩
  replace hL:=hL.mod C4 (by first | exact mem_own | (intro b hb; simp [hb]));replace hbd:=hbd.gr C4;replace C0:=Mod.oldOwn C0 C4 ho;replace Y21:=Y21.mod C4 (by first | exact mem_own | (intro b hb; simp [hb]));replace I21:=I21.mod C4 (by first | exact mem_own | (intro b hb; simp [hb]));replace H21:=H21.mod C4 (by first | exact mem_own | (intro b hb; simp [hb]));replace Y29:=Y29.mod C4 (by first | exact mem_own | (intro b hb; simp [hb]));replace I29:=I29.mod C4 (by first | exact mem_own | (intro b hb; simp [hb]));replace H29:=H29.mod C4 (by first | exact mem_own | (intro b hb; simp [hb]));clear C4;replace ho:=O30;clear O30
  refine L.p rfl (R1.not rfl)<|L.pT rfl rfl<|L.z<|W.cond rfl ?_ ?_
  ·
   intro J32
   simp only [Bool.not_eq_true',Bool.not_eq_false'] at J32
   refine W.sr<|L.k rfl<|L.b rfl<|L.z<|W.ret<|X.blockRet<|X.thenRet<|X.nextRet<|X.blockRet ?_
   refine X.thenRet<|X.result1 rfl (.tmp rfl .nil)<|⟨?_,C0⟩
   rw [first_found P21 hnone (by rw [wOf,if_pos W24]; exact J32)]; rfl
  intro J32
  simp only [Bool.not_eq_true',Bool.not_eq_false'] at J32
  refine W.skip<|X.blockEnd<|X.seq<|W.region<|L.k rfl<|L.inc rfl rfl (by omega)<|L.b rfl<|L.nil<|X.next (i + 1) ?_ ?_ ?_
  · repeat' constructor
  ·
   have hok:okW (apAll (List.range N) ((wsOf N cs).take i)) (wOf N z21)=true:=by
     first | (rw [wOf,if_pos W24]; exact J32) | (rw [wOf,if_neg (by rw [W24]; decide)]; rfl)
   refine ⟨by omega,first_on P21 hnone hok,?_,?_,hL,hbd,C0⟩
   · rw [ws_take P21,apAll_snoc]; exact hlab.apW wOf_lt
   rw [ws_take P21,apAll_snoc]
   first | (rw [wOf,if_pos W24]; rw [if_pos J32] at ho; exact ho) | (rw [wOf,if_neg (by rw [W24]; decide)]; exact ho)
  first | omega | (dsimp only; omega)
 intro J15
 try simp only [bq,ne_eq] at J15
 obtain rfl:i=cs.length:=by omega
 refine W.brk<|W.sr<|L.b rfl<|L.z<|W.ret ?_
 refine X.result1 rfl (.tmp rfl .nil)<|⟨?_,C0⟩
 rw [List.take_of_length_le (by simp [wsOf])] at hnone
 rw [hnone]; rfl
end Go.Proofs.YthoooolflmbmbaaGreat
