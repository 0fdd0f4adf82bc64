/- Walks: what the functions compute. -/
import Derived.Test.YtedokfpoajfflaaGreatGrC
namespace Go.Proofs.YtedokfpoajfflaaGreat
open Go.RowKit
set_option linter.unusedVariables false
set_option linter.unusedSimpArgs false
set_option maxRecDepth 10000
theorem c_r11_First {M N9 : List Nat} {w : World} {vl : Value} {cs : List CR} {z0 : Int} (hL : Lay rdC N9 w vl cs) (hbd : Bd M w) (hsm : ∀ c ∈ cs, SmC 1099511627776 c) :
    Ret Tryz.prog 22 #[vl,.int .i64 z0] w (fun x w'=>x=.int .i64 (fi (firstW (List.range (held z0)) (wsOf (held z0) cs) 0))∧Mod [] w w'):=by
 obtain ⟨TL,tL,rfl⟩:=hL.form;have hN0:=held_le z0
 obtain ⟨N,hN⟩:∃ N,N=held z0:=⟨_,rfl⟩
 rw [← hN] at hN0 ⊢
 have hmax:=hL.max; unfold maxLen at hmax
 refine Ret.of (vs:=[.slice TL cs.length tL,.int .i64 z0]) (n:=34) Tryz.func22 rfl rfl rfl rfl ?_
 have hm0:Mod [] w w:=Mod.refl _ _
 refine W.seq<|W.region<|L.a rfl rfl<|L.nil<|X.seq<|W.seq<|W.region<|L.m rfl rfl<|L.v (R1.maxI rfl rfl) rfl<|L.v ((R1.minI rfl rfl).as (j:=((N:Nat):Int)) (by rw [hN]; unfold held; omega)) rfl<|L.a rfl rfl ?_
 refine L.nil<|X.seq<|W.seq<|W.region<|L.m rfl rfl<|L.call rfl (c_start hN0) rfl ?_
 rintro v11 w1 ⟨ho,hm1⟩
 replace hL:=hL.ownd ho hm1;replace hbd:=hbd.ownd ho hm1;replace ho:=own_less ho hm0.size;replace hm0:=hm0.trans hm1;clear hm1
 refine L.a rfl rfl<|L.nil<|X.seq<|W.seq<|W.seq<|W.region<|L.a rfl rfl<|L.nil<|X.seq<|W.block<|W.loop (ι:=Nat) (fun i=>[(0,.slice TL cs.length tL),(1,.int .i64 (N:Int)),(5,v11),(6,.int .i64 (i:Int))]) (fun i w_=>i≤cs.length∧firstW (List.range N) ((wsOf N cs).take i) 0=none∧Lab N (apAll (List.range N) ((wsOf N cs).take i))∧World.ownsRow w_ w.heap.size 3 1 v11 N (ints (apAll (List.range N) ((wsOf N cs).take i)))∧Lay rdC (ownL v11 ++ N9) w_ (.slice TL cs.length tL) cs∧Bd (ownL v11 ++ M) w_∧Mod [] w w_) (fun i=>cs.length - i) 0 ?_ ?_ ?_
 · exact ⟨rfl,rfl,rfl,rfl,trivial⟩
 ·
  exact ⟨Nat.zero_le _,rfl,Lab.start N,ho,hL,hbd,hm0⟩
 rintro i w2 ⟨hi,hnone,hlab,ho,hL,hbd,hm0⟩
 refine W.seq<|W.seq<|W.region<|L.m rfl rfl<|L.m rfl rfl<|L.v (R1.lenLay rfl hL tyS22) rfl<|L.v (R1.lt rfl rfl) rfl<|L.nil<|X.seq<|W.cond rfl ?_ ?_
 ·
  intro hc15
  try simp only [bq,ne_eq] at hc15
  refine W.skip<|X.seq<|W.seq<|W.block<|W.seq<|W.region<|L.m rfl rfl<|L.m rfl rfl<|L.v (R1.atLay (j:=i) rfl rfl hL tyS22 rfl (by omega)) rfl ?_
  obtain ⟨z21,cs21,hz21,hE21,vt21,ds21,rfl,ht21,vn21,vd21,rfl,hn21,hd21⟩:=Lay.elemQ hL (j:=i) (by omega);obtain ⟨T21,t21,rfl⟩:=ht21.form;obtain ⟨A21,c21,rfl⟩:=hn21.form;obtain ⟨B21,e21,rfl⟩:=hd21.form
  refine L.v (R1.loadE rfl hE21 tyG47) rfl<|L.m rfl rfl<|L.call rfl (c_ref8_Is ht21 hn21 hd21 (n:=(N:Int)) (by omega) hbd (hsm _ (List.mem_of_getElem? hz21))) rfl ?_
  rintro _ w3 ⟨rfl,hm3⟩
  replace hL:=hL.gr hm3;replace hbd:=hbd.gr hm3;replace hm0:=hm0.trans hm3;replace ho:=own_gr ho hm3 (by simp);replace ht21:=ht21.gr hm3;replace hn21:=hn21.gr hm3;replace hd21:=hd21.gr hm3;clear hm3
  refine L.m rfl rfl ?_
  cases hgd24:(isC z21 (N:Int))
  ·
   have hcc_:=hgd24
   refine L.off rfl rfl rfl rfl rfl<|L.off rfl rfl rfl rfl rfl<|L.off rfl rfl rfl rfl rfl<|L.off rfl rfl rfl rfl rfl<|L.off rfl rfl rfl rfl rfl<|L.off rfl rfl rfl rfl rfl<|L.off rfl rfl rfl rfl rfl<|L.v (R1.pickF rfl rfl) rfl<|L.nil<|X.seq<|W.condF rfl ?_
   refine W.skip<|X.blockEnd<|X.seq<|W.region<|L.m rfl rfl<|L.v (R1.addI (b:=1) rfl rfl (by omega)) rfl<|L.a rfl rfl<|L.nil<|X.next (i + 1) ?_ ?_ ?_
   · exact ⟨rfl,rfl,rfl,rfl,trivial⟩
   ·
    have hok:okW (apAll (List.range N) ((wsOf N cs).take i)) (wOf N z21)=true:=by
      first | (rw [wOf,if_pos hgd24]; exact hc32) | (rw [wOf,if_neg (by rw [hgd24]; decide)]; rfl)
    refine ⟨by omega,first_on hz21 hnone hok,?_,?_,hL,hbd,hm0⟩
    · rw [ws_take hz21,apAll_snoc]; exact hlab.apW wOf_lt
    rw [ws_take hz21,apAll_snoc]
    first | (rw [wOf,if_pos hgd24]; rw [if_pos hc32] at ho; exact ho) | (rw [wOf,if_neg (by rw [hgd24]; decide)]; exact ho)
   first | omega | (dsimp only; omega)
  have hcc_:=hgd24
  refine L.on rfl rfl rfl (R1.move rfl) rfl<|L.on rfl rfl rfl (R1.move rfl) rfl<|L.on rfl rfl rfl (R1.move rfl) rfl<|L.on rfl rfl rfl (R1.atLay (j:=i) rfl rfl hL tyS22 rfl (by omega)) rfl ?_
  obtain ⟨z29,cs29,hz29,hE29,vt29,ds29,rfl,ht29,vn29,vd29,rfl,hn29,hd29⟩:=Lay.elemQ hL (j:=i) (by omega);obtain ⟨T29,t29,rfl⟩:=ht29.form;obtain ⟨A29,c29,rfl⟩:=hn29.form;obtain ⟨B29,e29,rfl⟩:=hd29.form
  obtain rfl:z21=z29:=by have h9:=hz29; rw [hz21] at h9; injection h9
  refine L.on rfl rfl rfl (R1.loadE rfl hE29 tyG47) rfl<|L.callOn rfl rfl rfl rfl (c_join (c:=z21) ho hlab (isC_all hgd24) hN0 ht29) rfl ?_
  rintro _ w4 ⟨rfl,ho30,hm4⟩
  replace hL:=hL.mod hm4 (by first | exact mem_own | (intro b hb; simp [hb]));replace hbd:=hbd.gr hm4;replace hm0:=Mod.oldOwn hm0 hm4 ho;replace ht21:=ht21.mod hm4 (by first | exact mem_own | (intro b hb; simp [hb]));replace hn21:=hn21.mod hm4 (by first | exact mem_own | (intro b hb; simp [hb]));replace hd21:=hd21.mod hm4 (by first | exact mem_own | (intro b hb; simp [hb]));replace ht29:=ht29.mod hm4 (by first | exact mem_own | (intro b hb; simp [hb]));replace hn29:=hn29.mod hm4 (by first | exact mem_own | (intro b hb; simp [hb]));replace hd29:=hd29.mod hm4 (by first | exact mem_own | (intro b hb; simp [hb]));clear hm4;replace ho:=ho30;clear ho30
  refine L.on rfl rfl rfl (R1.not rfl) rfl<|L.v (R1.pickT rfl rfl) rfl<|L.nil<|X.seq<|W.cond rfl ?_ ?_
  ·
   intro hc32
   simp only [Bool.not_eq_true',Bool.not_eq_false'] at hc32
   refine W.seq<|W.region<|L.m rfl rfl<|L.a rfl rfl<|L.nil<|X.seq<|W.ret<|X.blockRet<|X.thenRet<|X.nextRet<|X.blockRet ?_
   refine X.thenRet<|X.result1 rfl (.tmp rfl .nil)<|⟨?_,hm0⟩
   rw [first_found hz21 hnone (by rw [wOf,if_pos hgd24]; exact hc32)]; rfl
  intro hc32
  simp only [Bool.not_eq_true',Bool.not_eq_false'] at hc32
  refine W.skip<|X.blockEnd<|X.seq<|W.region<|L.m rfl rfl<|L.v (R1.addI (b:=1) rfl rfl (by omega)) rfl<|L.a rfl rfl<|L.nil<|X.next (i + 1) ?_ ?_ ?_
  · exact ⟨rfl,rfl,rfl,rfl,trivial⟩
  ·
   have hok:okW (apAll (List.range N) ((wsOf N cs).take i)) (wOf N z21)=true:=by
     first | (rw [wOf,if_pos hgd24]; exact hc32) | (rw [wOf,if_neg (by rw [hgd24]; decide)]; rfl)
   refine ⟨by omega,first_on hz21 hnone hok,?_,?_,hL,hbd,hm0⟩
   · rw [ws_take hz21,apAll_snoc]; exact hlab.apW wOf_lt
   rw [ws_take hz21,apAll_snoc]
   first | (rw [wOf,if_pos hgd24]; rw [if_pos hc32] at ho; exact ho) | (rw [wOf,if_neg (by rw [hgd24]; decide)]; exact ho)
  first | omega | (dsimp only; omega)
 intro hc15
 try simp only [bq,ne_eq] at hc15
 obtain rfl:i=cs.length:=by omega
 refine W.exit<|X.thenExit<|X.nextExit<|X.here<|X.seq<|W.seq<|W.region<|L.a rfl rfl<|L.nil<|X.seq<|W.ret ?_
 refine X.result1 rfl (.tmp rfl .nil)<|⟨?_,hm0⟩
 rw [List.take_of_length_le (by simp [wsOf])] at hnone
 rw [hnone]; rfl
end Go.Proofs.YtedokfpoajfflaaGreat
