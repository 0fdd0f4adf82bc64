/- Several texts in one. -/
import Derived.Test.YtbhdbdmaikjglaaGreatG1C
import Derived.Test.YtbhdbdmaikjglaaGreatL5K
import Derived.Test.YtbhdbdmaikjglaaGreatL5G
section
namespace Go.Proofs.YtbhdbdmaikjglaaGreat
open Go.RowKit
set_option linter.unusedVariables false
set_option linter.unusedSimpArgs false
set_option maxRecDepth 10000
section
variable {n:Nat} {cs:List CR} {o:List Int}
theorem sumN_at {u:Nat} (hu:u<n) (f:Nat→Rat):sumN n f=f u + sumN n (fun i=>if i=u then 0 else f i):=by
  have h:=sumN_add n (fun i=>if i=u then 0 else f i) (fun i=>if i=u then f u else 0) 1
  rw [sumN_one hu] at h
  have e:(fun i=>(if i=u then (0:Rat) else f i) + 1 * (if i=u then f u else 0))=f:=by
    funext i
    by_cases e:i=u
    · rw [if_pos e,if_pos e,e]; grind
    · rw [if_neg e,if_neg e]; grind
  rw [e] at h; grind
def fvec (n:Nat) (c:CR):Vec:=cv n (conT c).1 (conT c).2
theorem fvec_lt {c:CR} {i:Nat} (h:i<n):fvec n c i=coef (conT c).1 i:=by unfold fvec cv; rw [if_neg (by omega)]
theorem co_mem {z:CR} {i:Nat} (h:coef (conT z).1 i≠0):i∈vsOf z:=Classical.byContradiction fun h9=>h (coef_none fun s hs e=>h9 (by
  obtain ⟨t,ht,rfl⟩:=List.mem_map.1 hs
  exact List.mem_map.2 ⟨t,ht,e⟩))
theorem co_ne {z:CR} {i:Nat} (hz:isC z (n:Int)=true) (h:i∈vsOf z):coef (conT z).1 i≠0:=by
  obtain ⟨t,ht,rfl⟩:=List.mem_map.1 h
  obtain ⟨_,_,h4,_⟩:=isC_spec hz
  have h5:tv t∈(conT z).1:=List.mem_map.2 ⟨t,ht,rfl⟩
  have h6:coef (conT z).1 t.v.toNat=(tv t).2:=h4.coef_mem h5
  rw [h6]
  exact h4.ne _ h5
theorem ts_mem {z:CR} {s:Nat × Rat} (h:s∈(conT z).1):s.1∈vsOf z:=by
  obtain ⟨t,ht,rfl⟩:=List.mem_map.1 h
  exact List.mem_map.2 ⟨t,ht,rfl⟩
theorem told_sol (hC:ChoZ n cs o):∀ B:Nat,∃ V:Nat→Rat,∀ j u z,outF o j=some u→cs[j]?=some z→hvZ n cs o u<B→atv n V (fvec n z)=0
  | 0=>⟨fun _=>0,fun _ _ _ _ _ h=>absurd h (Nat.not_lt_zero _)⟩
  | B + 1=>by
    obtain ⟨V,hV⟩:=told_sol hC B
    let R:Nat→Rat:=fun u=>match who o u with
      | none=>0
      | some j=>-(sumN n (fun i=>if i=u then 0 else fvec n (cs.getD j c0R) i * V i) + fvec n (cs.getD j c0R) n) / fvec n (cs.getD j c0R) u
    refine ⟨fun u=>if hvZ n cs o u=B then R u else V u,fun j u z hj hz hlt=>?_⟩
    have hw:=ws_at hC.all hz
    obtain ⟨w,h4,h5,_⟩:=hC.c.get hj
    rw [hw] at h4; injection h4 with h4; subst h4
    have hz9:=hC.all z (List.mem_of_getElem? hz)
    have hun:u<n:=by
      obtain ⟨t,ht,rfl⟩:=List.mem_map.1 h5
      exact (hC.var hz ht).1
    have hoth:∀ i,i<n→i≠u→fvec n z i≠0→hvZ n cs o i<hvZ n cs o u:=fun i hi hne h0=>hv_lt hC.c hj hw (co_mem (by rwa [fvec_lt hi] at h0)) hne
    unfold atv
    rcases Nat.lt_or_ge (hvZ n cs o u) B with h9 | h9
    · have h8:=hV j u z hj hz h9
      unfold atv at h8
      rw [← h8]
      congr 1
      refine sumN_congr fun i hi=>?_
      by_cases e:fvec n z i=0
      · rw [e]; grind
      · have h7:hvZ n cs o i≠B:=by
          by_cases e2:i=u
          · rw [e2]; omega
          · have:=hoth i hi e2 e; omega
        show fvec n z i * (if hvZ n cs o i=B then R i else V i)=_
        rw [if_neg h7]
    · have h8:hvZ n cs o u=B:=by omega
      have e1:sumN n (fun i=>if i=u then 0 else fvec n z i * (if hvZ n cs o i=B then R i else V i))=sumN n (fun i=>if i=u then 0 else fvec n z i * V i):=sumN_congr fun i hi=>by
        by_cases e2:i=u
        · rw [if_pos e2,if_pos e2]
        · rw [if_neg e2,if_neg e2]
          by_cases e:fvec n z i=0
          · rw [e]; grind
          · have:=hoth i hi e2 e
            rw [if_neg (by omega)]
      have hR:R u=-(sumN n (fun i=>if i=u then 0 else fvec n z i * V i) + fvec n z n) / fvec n z u:=by
        have e9:cs.getD j c0R=z:=getD_of_get hz
        simp only [R,(who_some hC.c.T).2 hj,e9]
      have h0:fvec n z u≠0:=by rw [fvec_lt hun]; exact co_ne hz9 h5
      rw [sumN_at hun]
      dsimp only
      rw [e1,if_pos h8,hR]
      grind
theorem hv_bd (f:Nat→Nat):∀ n,∃ B,∀ u,u<n→f u<B
  | 0=>⟨0,fun _ h=>absurd h (Nat.not_lt_zero _)⟩
  | n + 1=>by
    obtain ⟨B,h⟩:=hv_bd f n
    refine ⟨max B (f n + 1),fun u hu=>?_⟩
    rcases Nat.lt_or_ge u n with h9 | h9
    · have:=h u h9; omega
    · have e:u=n:=by omega
      subst e; omega
theorem told_ok (hC:ChoZ n cs o) {L:List Vec} (hL:∀ v∈L,∃ j u z,outF o j=some u∧cs[j]?=some z∧v=fvec n z) {k:Rat} (h:Sp L (kv n k)):k=0:=by
  obtain ⟨B,hB⟩:=hv_bd (hvZ n cs o) n
  obtain ⟨V,hV⟩:=told_sol hC B
  have h1:=Sp.at_ (n:=n) (val:=V) (fun v hv=>by
    obtain ⟨j,u,z,h2,h3,rfl⟩:=hL v hv
    refine hV j u z h2 h3 (hB u ?_)
    obtain ⟨w,h4,h5,_⟩:=hC.c.get h2
    rw [ws_at hC.all h3] at h4; injection h4 with h4; subst h4
    obtain ⟨t,ht,rfl⟩:=List.mem_map.1 h5
    exact (hC.var h3 ht).1) h
  rwa [atv_kv] at h1
theorem sp_terms {L:List Vec} {u:Nat} (hu:u<n):∀ {l:Ts},Nice l→Below n l→(∀ t∈l,t.1≠u→∃ k,Sp L (fun i=>ev1 t.1 i + -1 * kv n k i))→∃ k,Sp L (fun i=>cv n l 0 i + -(coef l u) * ev1 u i + -1 * kv n k i)
  | [],_,_,_=>⟨0,by
      have e:(fun i=>cv n [] 0 i + -(coef [] u) * ev1 u i + -1 * kv n 0 i)=fun _=>(0:Rat):=by
        funext i
        simp only [cv,coef,kv]
        by_cases h:i=n
        · rw [if_pos h]; grind
        · rw [if_neg h]; grind
      rw [e]; exact .zero⟩
  | t :: l,hN,hB,h=>by
    obtain ⟨k,hk⟩:=sp_terms hu hN.tail (fun s hs=>hB s (by simp [hs])) (fun s hs=>h s (by simp [hs]))
    have hlow:coef l t.1=0:=coef_low hN.head
    have hc:∀ i,coef (t :: l) i=(if t.1=i then t.2 else coef l i):=fun i=>rfl
    have htn:t.1<n:=hB t (by simp)
    by_cases e:t.1=u
    · refine ⟨k,?_⟩
      have e2:(fun i=>cv n (t :: l) 0 i + -(coef (t :: l) u) * ev1 u i + -1 * kv n k i)=(fun i=>cv n l 0 i + -(coef l u) * ev1 u i + -1 * kv n k i):=by
        funext i
        have h0:coef l u=0:=e ▸ hlow
        simp only [cv,hc,ev1]
        rw [h0,if_pos e]
        by_cases hi:i=n
        · rw [if_pos hi,if_pos hi,if_neg (by omega:¬ i=u)]; grind
        · rw [if_neg hi,if_neg hi]
          by_cases h9:i=u
          · rw [if_pos (e.trans h9.symm),if_pos h9,h9,h0]; grind
          · rw [if_neg (fun h8=>h9 (h8.symm.trans e)),if_neg h9]; grind
      rw [e2]; exact hk
    · obtain ⟨k2,hk2⟩:=h t (by simp) e
      refine ⟨k + t.2 * k2,?_⟩
      have e2:(fun i=>cv n (t :: l) 0 i + -(coef (t :: l) u) * ev1 u i + -1 * kv n (k + t.2 * k2) i)=(fun i=>(cv n l 0 i + -(coef l u) * ev1 u i + -1 * kv n k i) + t.2 * (ev1 t.1 i + -1 * kv n k2 i)):=by
        funext i
        simp only [cv,hc,ev1,kv]
        rw [if_neg e]
        by_cases hi:i=n
        · rw [if_pos hi,if_pos hi,if_pos hi,if_pos hi,if_pos hi,if_neg (by omega:¬ i=t.1)]; grind
        · rw [if_neg hi,if_neg hi,if_neg hi,if_neg hi,if_neg hi]
          by_cases h9:t.1=i
          · rw [if_pos h9,if_pos (show i=t.1 from h9.symm),← h9,hlow]; grind
          · rw [if_neg h9,if_neg (show ¬ i=t.1 from fun h8=>h9 h8.symm)]; grind
      rw [e2]; exact hk.plus _ hk2
theorem forced_sp (hC:ChoZ n cs o) {B:Int} (h4:B<4) {L:List Vec} (hL:∀ j u z,outF o j=some u→cs[j]?=some z→z.st≤B→fvec n z∈L):∀ f u,u<n→hvZ n cs o u<f→strZ n cs o u≤B→∃ k,Sp L (fun i=>ev1 u i + -1 * kv n k i)
  | 0,_,_,hf,_=>absurd hf (Nat.not_lt_zero _)
  | f + 1,u,hu,hf,hs=>by
    cases hw:who o u with
    | none=>rw [hC.none_ hw] at hs; omega
    | some j =>
      have hj:=(who_some hC.c.T).1 hw
      obtain ⟨z,hz⟩:=hC.at_ (hC.lt hw)
      unfold strZ at hs
      rw [strong_some hC.c hw,fold_le,ws_getD hC.all hz,stS_get hz] at hs
      have hz9:=hC.all z (List.mem_of_getElem? hz)
      obtain ⟨_,_,hN,hBl⟩:=isC_spec hz9
      obtain ⟨w,h6,h7,_⟩:=hC.c.get hj
      have hws:=ws_at hC.all hz
      rw [hws] at h6; injection h6 with h6; subst h6
      have h0:=co_ne hz9 h7
      obtain ⟨k,hk⟩:=sp_terms (L:=L) hu hN hBl (fun t ht hne=>forced_sp hC h4 hL f t.1 (hBl t ht) (by
        have h9:hvZ n cs o t.1<hvZ n cs o u:=hv_lt hC.c hj hws (ts_mem ht) hne
        omega) (hs.2 t.1 (ts_mem ht) hne))
      have h8:=Sp.scale (1 / coef (conT z).1 u) (Sp.sub 1 (Sp.mem (hL j u z hj hz hs.1)) hk)
      refine ⟨-(((conT z).2 + k) / coef (conT z).1 u),?_⟩
      generalize hcc:coef (conT z).1 u=c at *
      have e:(fun i=>ev1 u i + -1 * kv n (-(((conT z).2 + k) / c)) i)=fun i=>(1 / c) * vsub (fvec n z) (fun i=>cv n (conT z).1 0 i + -c * ev1 u i + -1 * kv n k i) 1 i:=by
        funext i
        simp only [vsub,fvec,cv,kv,ev1]
        by_cases hi:i=n
        · rw [if_pos hi,if_pos hi,if_pos hi,if_pos hi,if_neg (by omega:¬ i=u)]; grind
        · rw [if_neg hi,if_neg hi,if_neg hi,if_neg hi]; grind
      rw [e]; exact h8
def rqI (cs:List CR) (o:List Int) (i:Nat):List Nat:=(List.range i).filter fun j=>decide ((cs.getD j c0R).st=0∧0≤o.getD j 0)
def rqC (cs:List CR) (o:List Int) (i:Nat):List CR:=(rqI cs o i).map fun j=>cs.getD j c0R
theorem rqC_le (cs:List CR) (o:List Int) (i:Nat):(rqC cs o i).length≤i:=by
  unfold rqC rqI
  rw [List.length_map]
  exact Nat.le_trans (List.length_filter_le _ _) (by simp)
theorem rqC_yes {i:Nat} {z:CR} (hz:cs[i]?=some z) (h1:z.st=0) (h2:0≤o.getD i 0):rqC cs o (i + 1)=rqC cs o i ++ [z]:=by
  have e:cs.getD i c0R=z:=getD_of_get hz
  unfold rqC rqI
  rw [List.range_succ,List.filter_append,List.filter_cons_of_pos (by rw [e]; exact decide_eq_true ⟨h1,h2⟩),List.map_append]
  show _ ++ [cs.getD i c0R]=_
  rw [e]
theorem rqC_no {i:Nat} {z:CR} (hz:cs[i]?=some z) (h:¬ (z.st=0∧0≤o.getD i 0)):rqC cs o (i + 1)=rqC cs o i:=by
  have e:cs.getD i c0R=z:=getD_of_get hz
  unfold rqC rqI
  rw [List.range_succ,List.filter_append,List.filter_cons_of_neg (by rw [e,decide_eq_false h]; decide)]; simp
theorem rqC_mem {c:CR} (h:c∈rqC cs o cs.length):∃ j:Nat,cs[j]?=some c∧c.st=0∧0≤o.getD j 0:=by
  obtain ⟨j,hj,rfl⟩:=List.mem_map.1 h
  unfold rqI at hj
  simp only [List.mem_filter,List.mem_range,decide_eq_true_eq] at hj
  exact ⟨j,by rw [List.getD_eq_getElem?_getD,List.getElem?_eq_getElem hj.1]; rfl,hj.2⟩
theorem rqC_of {c:CR} {j:Nat} (h:cs[j]?=some c) (h1:c.st=0) (h2:0≤o.getD j 0):c∈rqC cs o cs.length:=by
  have e:cs.getD j c0R=c:=getD_of_get h
  refine List.mem_map.2 ⟨j,?_,e⟩
  unfold rqI
  simp only [List.mem_filter,List.mem_range,decide_eq_true_eq]
  exact ⟨(List.getElem?_eq_some_iff.1 h).1,by rw [e]; exact h1,h2⟩
theorem out_get (hC:ChoZ n cs o) {j:Nat} (hj:j<cs.length) (h:0≤o.getD j 0):∃ u,outF o j=some u:=by
  cases h1:outF o j with
  | none=>have:=(hC.idle hj).2 h1; omega
  | some u=>exact ⟨u,rfl⟩
theorem out_ge {j u:Nat} (h:outF o j=some u):0≤o.getD j 0:=by
  have h7:o.getD j 0=(u:Int):=getD_of_get (outF_some.1 h)
  omega
theorem forced_fix (hC:ChoZ n cs o) (hn:n≤64) {a:Nat} {z:CR} (hz:cs[a]?=some z) (hst:z.st=0) (hid:wkZ n cs o a []=none) {t:Nat} {ds:List (List Rat)} {ok:Bool} (hA:AInv (heldG (n:Int)) t (vecs (heldG (n:Int)) (rqC cs o cs.length)) ds ok) {s:TR} (hs:s∈z.ts):(fixDD (n:Int) s.v ds ok).isSome=true:=by
  have hh:heldG (n:Int)=n:=heldG_eq hn
  have hok:ok=true:=(A_ok hA).2 (fun k hk=>by
    rw [hh] at hk
    refine told_ok hC (fun v hv=>?_) hk
    obtain ⟨c,hc,_,rfl⟩:=vecs_mem.1 hv
    obtain ⟨j,h1,h2,h3⟩:=rqC_mem hc
    obtain ⟨u,hu⟩:=out_get hC (List.getElem?_eq_some_iff.1 h1).1 h3
    exact ⟨j,u,c,hu,h1,rfl⟩)
  have hv:=hC.var hz hs
  have h9:=(hC.wk_no hz).1 hid s hs
  rw [hst] at h9
  obtain ⟨k,hk⟩:=forced_sp hC (B:=0) (by decide) (L:=vecs n (rqC cs o cs.length)) (fun j u c hj hc h0=>by
    have hall:=hC.all c (List.mem_of_getElem? hc)
    exact vecs_mem.2 ⟨c,rqC_of hc (by have:=(isC_st hall).1; omega) (out_ge hj),hall,rfl⟩) _ s.v.toNat hv.1 (Nat.lt_succ_self _) h9
  rw [(A_fix hA k).2 ⟨hok,hv.2,by rw [hh]; omega,by rw [hh]; exact hk⟩]
  rfl
end
theorem forced_at {cs:List CR} {os:List Int} {val:List QR} (h:(phZ cs os val).2.2=10):∃ a z,(phZ cs os val).2.1=((a:Nat):Int)∧cs[a]?=some z∧z.st=0∧(setZ (val.length:Int) cs os).getD a 0<0∧ChB (val.length:Int) cs os=true∧val.length≤64:=by
  by_cases h1:mayP cs os val.length
  · cases h2:firstW (List.range val.length) (wsOf val.length cs) 0 with
    | some i=>rw [phZ_ring h1 h2] at h; exact absurd h (by show ¬ ((9:Int)=10); decide)
    | none =>
      cases h3:ChB (val.length:Int) cs os with
      | false=>rw [phZ_cho h1 h2 h3] at h; exact absurd h (by show ¬ ((1:Int)=10); decide)
      | true =>
        cases h4:badF cs (setZ (val.length:Int) cs os) with
        | some i =>
          have h5:=List.find?_some h4
          have h6:i<cs.length:=List.mem_range.1 (List.mem_of_find?_eq_some h4)
          have hz:cs[i]?=some (cs.getD i c0R):=by rw [List.getD_eq_getElem?_getD,List.getElem?_eq_getElem h6]; rfl
          unfold badB at h5
          simp only [Bool.and_eq_true,decide_eq_true_eq] at h5
          exact ⟨i,_,by rw [phZ_bad h1 h2 h3 h4],hz,h5.1,h5.2.1,rfl,h1.2.1⟩
        | none =>
          have h5:=phZ_run h1 h2 h3 h4
          rcases runZ_err (chb_set h3) with h6 | h6
          · rw [h5,if_neg (by rw [h6]; decide)] at h; exact absurd h (by show ¬ ((0:Int)=10); decide)
          · rw [h5,if_pos (by rw [h6]; decide)] at h
            have h7:(8:Int)=10:=h6.symm.trans h
            exact absurd h7 (by decide)
  · rw [phZ_no h1] at h; exact absurd h (by show ¬ ((1:Int)=10); decide)
theorem forced_wk {n a:Nat} {cs:List CR} {os:List Int} (h3:ChB (n:Int) cs os=true) (ha:a<cs.length) (h:(setZ (n:Int) cs os).getD a 0<0):wkZ n cs (setZ (n:Int) cs os) a []=none:=by
  have hC:=ChoZ.of (chb_set h3)
  have h1:=hC.idle ha
  have h2:=hC.low ha
  have hno:=h1.1 (by omega)
  rw [setZ_yes h3] at hno ⊢
  exact setl_idle (ChoZ.of h3).st (ChoZ.of h3).c (by rw [ws_len]; exact ha) hno
end Go.Proofs.YtbhdbdmaikjglaaGreat
end
section
namespace Go.Proofs.YtbhdbdmaikjglaaGreat
open Go.RowKit
set_option linter.unusedVariables false
set_option linter.unusedSimpArgs false
set_option maxRecDepth 10000
theorem fillK1 (v1:Int) (T1:Option Addr) (l1 t1:Nat) (s1:Bool) (A1:Option Addr) (n1 c1:Nat) (B1:Option Addr) (m1 d1:Nat):Instr.fill (fun i=>some (i * 5,5)) ((Array.range (1 * 5)).map ((Value.agg #[.int .i64 0,.slice none 0 0,.bool false,.slice none 0 0,.slice none 0 0]).cells[· % (Value.agg #[.int .i64 0,.slice none 0 0,.bool false,.slice none 0 0,.slice none 0 0]).cells.size]!)) [(0,.agg #[.int .i64 v1,.slice T1 l1 t1,.bool s1,.slice A1 n1 c1,.slice B1 m1 d1])]=some #[.int .i64 v1,.slice T1 l1 t1,.bool s1,.slice A1 n1 c1,.slice B1 m1 d1]:=by kernel_rfl
theorem c_r13_SettleL {M:List Nat} {w:World} {vl vo:Value} {cs:List CR} {os:List Int} {z0:Int} (hL:Lay rdC M w vl cs) (hO:Lay rdI M w vo os) (hbd:Bd M w) (hsm:∀ c∈cs,SmC 1099511627776 c) (hol:os.length≤1000000):Ret Tryz.prog 9 #[vl,vo,.int .i64 z0] w (fun r w'=>∃ v,r=.tuple #[v,.bool (ChB z0 cs os)]∧Lay rdI [] w' v (setZ z0 cs os)∧Mod [] w w'):=(c_r13_Settle hL hO hbd hsm hol).mono fun r w' ⟨v,h1,h2,h3⟩=>⟨v,h1,Lay.of_Z h2 (by simp),h3⟩
set_option maxHeartbeats 1000000 in
theorem c_SolveForced {w : World} {vl vv : Value} {cs : List CR} {val : List QR} (hL : Lay rdC [] w vl cs) (hv : Lay rdQ [] w vv val) (hb : szCs cs ≤ 4194304) (hbv : szQs val ≤ 4194304) :
    Ret Tryz.prog 3 #[vl,vv] w (fun r w'=>r=.bool true∧Mod [] w w'):=by
 have hbd:Bd [] w:=fun m hm=>by cases hm
 obtain ⟨TL,tL,rfl⟩:=hL.form
 obtain ⟨TV,tV,rfl⟩:=hv.form
 have hmaxL:=hL.max; unfold maxLen at hmaxL
 have hmaxV:=hv.max; unfold maxLen at hmaxV
 refine Ret.of (vs:=[.slice TL cs.length tL,.slice TV val.length tV]) (n:=135) Tryz.func3 rfl rfl rfl rfl ?_
 have hm0:Mod [] w w:=Mod.refl _ _
 refine W.seq<|W.region<|L.a rfl rfl<|L.nil<|X.seq<|W.seq<|W.region<|L.m rfl rfl<|L.v (R1.lenLay rfl hv tyS23) rfl<|L.a rfl rfl<|L.nil ?_
 refine X.seq<|W.seq<|W.seq<|W.region<|L.m rfl rfl<|L.call rfl (c_heavy_pantographlaw15 hL hb) rfl ?_
 rintro _ w1 ⟨rfl,hm1⟩
 replace hL:=hL.gr hm1
 replace hv:=hv.gr hm1
 replace hbd:=hbd.gr hm1
 replace hm0:=hm0.trans hm1
 clear hm1
 refine L.m rfl rfl ?_
 cases hgd20:(decide (150<szCs cs))
 ·
  have hcc_:=hgd20
  refine L.on rfl rfl rfl (R1.move rfl) rfl<|L.callOn rfl rfl rfl rfl (c_many_pantographlaw15 hv hbv) rfl ?_
  rintro _ w2 ⟨b22,rfl,hb22,hm2⟩
  replace hL:=hL.gr hm2
  replace hv:=hv.gr hm2
  replace hbd:=hbd.gr hm2
  replace hm0:=hm0.trans hm2
  clear hm2
  refine L.v (R1.pickF rfl rfl) rfl<|L.m rfl rfl ?_
  cases hgd24:b22
  ·
   have hcc_:=hgd24
   refine L.on rfl rfl rfl (R1.move rfl) rfl<|L.on rfl rfl rfl (R1.lenLay rfl hL tyS22) rfl<|L.on rfl rfl rfl ((R1.gt rfl rfl).asB (c:=(decide ((10:Int)<(cs.length:Int)))) (rfl)) rfl<|L.v (R1.pickF rfl rfl) rfl<|L.m rfl rfl ?_
   cases hgd29:(decide ((10:Int)<(cs.length:Int)))
   ·
    have hcc_:=hgd29
    refine L.on rfl rfl rfl (R1.move rfl) rfl<|L.on rfl rfl rfl ((R1.gt rfl rfl).asB (c:=(decide ((8:Int)<(val.length:Int)))) (rfl)) rfl<|L.v (R1.pickF rfl rfl) rfl<|L.nil<|X.seq<|W.cond rfl ?_ ?_
    ·
     intro hc32
     have hcc_:=hc32
     refine W.seq<|W.region<|L.a rfl rfl<|L.nil<|X.seq<|W.ret<|X.thenRet<|X.result1 rfl (.tmp rfl .nil) ?_
     exact ⟨rfl,hm0⟩
    ·
     intro hc32
     have hcc_:=hc32
     have hsm:=sm150 (by simpa using hgd20)
     obtain ⟨hsv,hvl⟩:=(by first | exact hb22 rfl | exact hb22 hgd24:(∀ q∈val,SmQ 3 q)∧val.length≤100)
     have hsv3:=hsv
     replace hsv:=sm316 hsv
     have hcl:cs.length≤12:=by have h9:=of_decide_eq_false hgd29; omega
     have hsmL:∀ c∈cs,SmC 1099511627776 c:=fun c hc=>smC_up (hsm c hc) (by decide)
     have hn8:val.length≤8:=by have h9:=of_decide_eq_false hc32; omega
     refine W.skip<|X.seq<|W.seq<|W.region<|L.m rfl rfl<|L.m rfl rfl<|L.call rfl (c_none hL (by omega)) rfl ?_
     rintro v36 w3 ⟨hO,hm3⟩
     replace hL:=hL.gr hm3
     replace hv:=hv.gr hm3
     replace hbd:=hbd.gr hm3
     replace hm0:=hm0.trans hm3
     clear hm3
     refine L.m rfl rfl<|L.v (R1.build (vs:=[v36,.slice TV val.length tV]) rfl (built_S9 (lay_form' hO) ⟨_,_,_,rfl⟩ built_S2)) rfl<|L.call rfl (c_Phase (hL.sub (M':=[]) (fun b hb=>by cases hb)) (hO.sub (M':=[]) (fun b hb=>by cases hb)) (hv.sub (M':=[]) (fun b hb=>by cases hb)) (hbd.sub (M':=[]) (fun b hb=>by cases hb)) hsm hsv hcl) rfl ?_
     rintro _ w4 ⟨a39,b39,rfl,hA,hB,hm4⟩
     replace hL:=hL.gr hm4
     replace hbd:=hbd.gr hm4
     replace hm0:=hm0.trans hm4
     clear hm4
     refine L.m rfl rfl<|L.v (R1.extract rfl rfl) rfl<|L.v (R1.extract rfl rfl) rfl<|L.v (R1.extract rfl rfl) rfl<|L.alloc tyZ28 rfl ?_
     intro g6 w5 hN6
     replace hL:=hL.new hN6
     replace hbd:=hbd.new hN6
     have hge_g6:=New.ge hN6 hm0.size
     replace hm0:=hm0.trans (hN6.mod.mono (by simp))
     replace hA:=hA.new hN6
     replace hB:=hB.new hN6
     have hb6:=hN6.blk
     clear hN6
     refine L.storeBox rfl rfl hb6 rfl (one_S (lay_form' hA) (lay_form' hB)) tyG28 ?_
     intro w6 hb6' hm6
     replace hL:=hL.mod hm6 (by simp)
     replace hbd:=hbd.gr hm6
     replace hm0:=hm0.old1 hm6 hge_g6
     clear hm6
     replace hb6:=hb6'; clear hb6'
     refine L.a rfl rfl<|L.a rfl rfl<|L.nil<|X.seq<|W.seq<|W.seq<|W.region<|L.m rfl rfl<|L.v ((R1.ne rfl rfl).asB (c:=(decide ((phZ cs (List.replicate cs.length (-1)) val).2.2≠10))) (rfl)) rfl<|L.nil<|X.seq ?_
     refine W.cond rfl ?_ ?_
     ·
      intro hc44
      try simp only [bq,ne_eq] at hc44
      refine W.seq<|W.region<|L.call rfl (c_known15) rfl ?_
      rintro _ w7 ⟨rfl,hm7⟩
      replace hm0:=hm0.trans hm7
      clear hm7
      refine L.a rfl rfl<|L.nil<|X.seq<|W.ret<|X.thenRet<|X.result1 rfl (.tmp rfl .nil) ?_
      exact ⟨rfl,hm0⟩
     ·
      intro hc44
      try simp only [bq,ne_eq] at hc44
      have hok:(phZ cs (List.replicate cs.length (-1)) val).2.2=10:=by simpa using hc44
      obtain ⟨aa,z,hat,hz,hst,hneg,hch,hn64⟩:=forced_at hok
      have haa:aa<cs.length:=(List.getElem?_eq_some_iff.1 hz).1
      have hid:=forced_wk hch haa hneg
      have hC:=ChoZ.of (chb_set hch)
      refine W.skip<|X.seq<|W.seq<|W.region<|L.m rfl rfl<|L.m rfl rfl<|L.call rfl (c_none hL (by omega)) rfl ?_
      rintro v49 w8 ⟨hO2,hm8⟩
      replace hL:=hL.gr hm8
      replace hbd:=hbd.gr hm8
      replace hm0:=hm0.trans hm8
      clear hm8
      refine L.m rfl rfl<|L.call rfl (c_r13_SettleL (hL.sub (M':=[]) (fun b hb=>by cases hb)) (hO2.sub (M':=[]) (fun b hb=>by cases hb)) (hbd.sub (M':=[]) (fun b hb=>by cases hb)) hsmL (by simp; omega)) rfl ?_
      rintro _ w9 ⟨v51,rfl,hR,hm9⟩
      replace hL:=hL.gr hm9
      replace hbd:=hbd.gr hm9
      replace hm0:=hm0.trans hm9
      clear hm9
      rw [hch]
      refine L.m rfl rfl<|L.v (R1.extract rfl rfl) rfl<|L.v (R1.extract rfl rfl) rfl<|L.a rfl rfl<|L.a rfl rfl<|L.nil<|X.seq<|W.seq<|W.seq<|W.region<|L.m rfl rfl ?_
      refine L.v ((R1.not rfl).asB (c:=false) rfl) rfl<|L.m rfl rfl<|L.on rfl rfl rfl (R1.move rfl) rfl<|L.on rfl rfl rfl ((R1.lt rfl rfl).asB (c:=false) (decide_eq_false (by rw [hat]; omega))) rfl<|L.v (R1.pickF rfl rfl) rfl<|L.m rfl rfl<|L.on rfl rfl rfl (R1.move rfl) rfl<|L.on rfl rfl rfl (R1.move rfl) rfl<|L.on rfl rfl rfl (R1.lenLay rfl hL tyS22) rfl<|L.on rfl rfl rfl ((R1.ge rfl rfl).asB (c:=false) (decide_eq_false (by rw [hat]; omega))) rfl<|L.v (R1.pickF rfl rfl) rfl ?_
      refine L.m rfl rfl<|L.on rfl rfl rfl (R1.move rfl) rfl<|L.on rfl rfl rfl (R1.move rfl) rfl<|L.on rfl rfl rfl (R1.atLay (j:=aa) rfl rfl hL tyS22 hat haa) rfl<|L.on rfl rfl rfl (R1.fieldAddr rfl tyF41_0) rfl ?_
      obtain ⟨z71,cs71,hz71,hE71,vt71,ds71,rfl,ht71,vn71,vd71,rfl,hn71,hd71⟩:=Lay.elemQ hL (j:=aa) haa
      obtain ⟨T71,t71,rfl⟩:=ht71.form
      obtain ⟨A71,c71,rfl⟩:=hn71.form
      obtain ⟨B71,e71,rfl⟩:=hd71.form
      obtain rfl:z=z71:=by have h9:=hz71; rw [hz] at h9; injection h9
      refine L.on rfl rfl rfl (R1.loadEF rfl hE71 rfl tyP3) rfl<|L.on rfl rfl rfl ((R1.ne rfl rfl).asB (c:=false) (by rw [hst]; rfl)) rfl<|L.v (R1.pickF rfl rfl) rfl<|L.m rfl rfl<|L.on rfl rfl rfl (R1.move rfl) rfl<|L.on rfl rfl rfl (R1.move rfl) rfl<|L.on rfl rfl rfl (R1.atLay (j:=aa) rfl rfl hR tyS26 hat (by rw [setZ_len hch]; exact haa)) rfl<|L.on rfl rfl rfl (R1.loadLI rfl hR tyP3 (by rw [setZ_len hch]; exact haa) (getD_at _)) rfl<|L.on rfl rfl rfl ((R1.ge rfl rfl).asB (c:=false) (decide_eq_false (by omega))) rfl<|L.v (R1.pickF rfl rfl) rfl<|L.nil ?_
      refine X.seq<|W.condF rfl<|W.skip<|X.seq<|W.seq<|W.region<|L.a rfl rfl<|L.nil<|X.seq<|W.seq<|W.seq ?_
      refine W.region<|L.a rfl rfl<|L.nil<|X.seq<|W.block<|W.loop (ι:=Nat × Value × List (List Value)) (fun (i,u,css)=>[(0,.slice TL cs.length tL),(5,.int .i64 ((val.length:Nat):Int)),(7,.int .i64 (phZ cs (List.replicate cs.length (-1)) val).2.1),(9,v51),(11,u),(12,.int .i64 ((i:Nat):Int))]) (fun (i,u,css) w_=>Lay rdC (ownL u ++ []) w_ (.slice TL cs.length tL) cs∧Lay rdI (ownL u ++ []) w_ v51 (setZ (val.length:Int) cs (List.replicate cs.length (-1)))∧w_.ownsRow w.heap.size 41 5 u (rqC cs (setZ (val.length:Int) cs (List.replicate cs.length (-1))) i).length css.flatten∧LayL rdC (ownL u ++ []) w_ css (rqC cs (setZ (val.length:Int) cs (List.replicate cs.length (-1))) i)∧Bd (ownL u ++ []) w_∧Mod [] w w_∧i≤cs.length) (fun (i,u,css)=>cs.length - i) (0,.slice none 0 0,[]) ?_ ?_ ?_
      · exact ⟨rfl,rfl,rfl,rfl,rfl,rfl,trivial⟩
      ·
       exact ⟨hL.sub (by intro b hb; first | exact hb | (simp only [mq] at hb; done) | (simp only [mq] at hb ⊢; grind)),hR.sub (by intro b hb; first | exact hb | (simp only [mq] at hb; done) | (simp only [mq] at hb ⊢; grind)),own_nil _ _ _ _,LayL.nil,hbd.sub (by intro b hb; first | exact hb | (simp only [mq] at hb; done) | (simp only [mq] at hb ⊢; grind)),hm0,Nat.zero_le _⟩
      ·
       rintro ⟨i,u,css⟩ w10 ⟨hL,hR,hm,hlm,hbd,hm0,hi⟩
       refine W.seq<|W.seq<|W.region<|L.m rfl rfl<|L.m rfl rfl<|L.v (R1.lenLay rfl hL tyS22) rfl<|L.v (R1.lt rfl rfl) rfl<|L.nil<|X.seq<|W.cond rfl ?_ ?_
       ·
        intro hc84
        try simp only [bq,ne_eq] at hc84
        refine W.skip<|X.seq<|W.seq<|W.block<|W.seq<|W.region<|L.m rfl rfl<|L.m rfl rfl<|L.v (R1.atLay (j:=i) rfl rfl hL tyS22 rfl (by omega)) rfl<|L.v (R1.fieldAddr rfl tyF41_0) rfl ?_
        obtain ⟨z91,cs91,hz91,hE91,vt91,ds91,rfl,ht91,vn91,vd91,rfl,hn91,hd91⟩:=Lay.elemQ hL (j:=i) (by omega)
        obtain ⟨T91,t91,rfl⟩:=ht91.form
        obtain ⟨A91,c91,rfl⟩:=hn91.form
        obtain ⟨B91,e91,rfl⟩:=hd91.form
        refine L.v (R1.loadEF rfl hE91 rfl tyP3) rfl<|L.v ((R1.eq rfl rfl).asB (c:=(decide (z91.st=0))) (rfl)) rfl<|L.m rfl rfl ?_
        cases hgd93:(decide (z91.st=0))
        ·
         try simp only [bq,ne_eq] at hgd93
         refine L.off rfl rfl rfl rfl rfl<|L.off rfl rfl rfl rfl rfl<|L.off rfl rfl rfl rfl rfl<|L.off rfl rfl rfl rfl rfl<|L.off rfl rfl rfl rfl rfl<|L.v (R1.pickF rfl rfl) rfl<|L.nil<|X.seq<|W.condF rfl<|W.skip<|X.blockEnd ?_
         refine X.seq<|W.region<|L.m rfl rfl<|L.v (R1.addI (b:=1) rfl rfl (by omega)) rfl<|L.a rfl rfl<|L.nil<|X.next (i + 1,u,css) ?_ ?_ ?_
         · exact ⟨rfl,rfl,rfl,rfl,rfl,rfl,trivial⟩
         ·
          exact ⟨hL.su,hR.su,by rw [rqC_no hz91 (fun h9=>hgd93 h9.1)]; exact hm,by rw [rqC_no hz91 (fun h9=>hgd93 h9.1)]; exact hlm.su,hbd.su,hm0,by omega⟩
         · first | omega | (dsimp only; omega)
        ·
         try simp only [bq,ne_eq] at hgd93
         refine L.on rfl rfl rfl (R1.move rfl) rfl<|L.on rfl rfl rfl (R1.move rfl) rfl<|L.on rfl rfl rfl (R1.atLay (j:=i) rfl rfl hR tyS26 rfl (by rw [setZ_len hch]; omega)) rfl<|L.on rfl rfl rfl (R1.loadLI rfl hR tyP3 (by rw [setZ_len hch]; omega) (getD_at _)) rfl<|L.on rfl rfl rfl (R1.ge rfl rfl) rfl<|L.v (R1.pickT rfl rfl) rfl<|L.nil<|X.seq<|W.cond rfl ?_ ?_
         ·
          intro hc99
          try simp only [bq,ne_eq] at hc99
          refine W.region<|L.m rfl rfl<|L.m rfl rfl<|L.m rfl rfl<|L.v (R1.atLay (j:=i) rfl rfl hL tyS22 rfl (by omega)) rfl ?_
          obtain ⟨z104,cs104,hz104,hE104,vt104,ds104,rfl,ht104,vn104,vd104,rfl,hn104,hd104⟩:=Lay.elemQ hL (j:=i) (by omega)
          obtain ⟨T104,t104,rfl⟩:=ht104.form
          obtain ⟨A104,c104,rfl⟩:=hn104.form
          obtain ⟨B104,e104,rfl⟩:=hd104.form
          obtain rfl:z91=z104:=by have h9:=hz104; rw [hz91] at h9; injection h9
          refine L.v (R1.loadE rfl hE104 tyG41) rfl<|L.buildSlice (cells:=[.int .i64 z91.st,.slice T104 z91.ts.length t104,.bool z91.k.s,.slice A104 z91.k.n.length c104,.slice B104 z91.k.d.length e104]) rfl tyS22 tyZ41 (fillK1 _ _ _ _ _ _ _ _ _ _ _) (by decide) (by decide) rfl ?_
          intro g105 w11 hN105
          replace hL:=hL.gr hN105.mod
          replace hR:=hR.gr hN105.mod
          replace hm:=own_gr hm hN105.mod (by simp)
          replace hlm:=hlm.gr hN105.mod
          replace hbd:=hbd.gr hN105.mod
          replace hm0:=hm0.trans hN105.mod
          replace ht91:=ht91.gr hN105.mod
          replace hn91:=hn91.gr hN105.mod
          replace hd91:=hd91.gr hN105.mod
          replace ht104:=ht104.gr hN105.mod
          replace hn104:=hn104.gr hN105.mod
          replace hd104:=hd104.gr hN105.mod
          have hrow:Sl [] w11 5 (.slice (some ⟨g105,0,none⟩) 1 1) 1 [.int .i64 z91.st,.slice T104 z91.ts.length t104,.bool z91.k.s,.slice A104 z91.k.n.length c104,.slice B104 z91.k.d.length e104]:=Sl.of_blk hN105.blk 0 (Nat.le_refl _) (by decide) rfl (by simp) (fun j hj=>by simp)
          clear hN105
          have hsl9:=rqC_le cs (setZ (val.length:Int) cs (List.replicate cs.length (-1))) i
          refine L.append rfl rfl hm hrow (by intro c hc; simp only [List.mem_cons,List.not_mem_nil,or_false] at hc; rcases hc with rfl | rfl | rfl | rfl | rfl <;> rfl) tyS22 tyZ41 (by omega) (by unfold maxLen; omega) hm0.size rfl ?_
          intro v106 w12 ho106' hG106
          replace hL:=hL.grew2 hG106 (by first | exact mem_own | (intro b hb; simp [hb]))
          replace hR:=hR.grew2 hG106 (by first | exact mem_own | (intro b hb; simp [hb]))
          replace hlm:=hlm.grew2 hG106 (by first | exact mem_own | (intro b hb; simp [hb]))
          replace hbd:=hbd.grew2 hG106 (by first | exact mem_own | (intro b hb; simp [hb]))
          replace hm0:=Mod.oldOwn hm0 hG106.mod hm
          replace ht91:=ht91.grew2 hG106 (by first | exact mem_own | (intro b hb; simp [hb]))
          replace hn91:=hn91.grew2 hG106 (by first | exact mem_own | (intro b hb; simp [hb]))
          replace hd91:=hd91.grew2 hG106 (by first | exact mem_own | (intro b hb; simp [hb]))
          replace ht104:=ht104.grew2 hG106 (by first | exact mem_own | (intro b hb; simp [hb]))
          replace hn104:=hn104.grew2 hG106 (by first | exact mem_own | (intro b hb; simp [hb]))
          replace hd104:=hd104.grew2 hG106 (by first | exact mem_own | (intro b hb; simp [hb]))
          replace hm:=ho106'; clear ho106'
          clear hG106
          refine L.a rfl rfl<|L.nil<|X.blockEnd<|X.seq<|W.region<|L.m rfl rfl<|L.v (R1.addI (b:=1) rfl rfl (by omega)) rfl<|L.a rfl rfl<|L.nil<|X.next (i + 1,v106,css ++ [[.int .i64 z91.st,.slice T104 z91.ts.length t104,.bool z91.k.s,.slice A104 z91.k.n.length c104,.slice B104 z91.k.d.length e104]]) ?_ ?_ ?_
          · exact ⟨rfl,rfl,rfl,rfl,rfl,rfl,trivial⟩
          ·
           exact ⟨hL.su,hR.su,own_congr hm (by rw [rqC_yes hz91 hgd93 hc99]; simp) (by simp),by rw [rqC_yes hz91 hgd93 hc99]; exact (hlm.su).append (LayL.one _ z91 (rdC_mk (ht104.su) (hn104.su) (hd104.su))),hbd.su,hm0,by omega⟩
          · first | omega | (dsimp only; omega)
         ·
          intro hc99
          try simp only [bq,ne_eq] at hc99
          refine W.skip<|X.blockEnd<|X.seq<|W.region<|L.m rfl rfl<|L.v (R1.addI (b:=1) rfl rfl (by omega)) rfl<|L.a rfl rfl<|L.nil<|X.next (i + 1,u,css) ?_ ?_ ?_
          · exact ⟨rfl,rfl,rfl,rfl,rfl,rfl,trivial⟩
          ·
           exact ⟨hL.su,hR.su,by rw [rqC_no hz91 (fun h9=>by have h8:=h9.2; omega)]; exact hm,by rw [rqC_no hz91 (fun h9=>by have h8:=h9.2; omega)]; exact hlm.su,hbd.su,hm0,by omega⟩
          · first | omega | (dsimp only; omega)
       ·
        intro hc84
        try simp only [bq,ne_eq] at hc84
        obtain rfl:i=cs.length:=by omega
        have hM:Lay rdC [] w10 u (rqC cs (setZ (val.length:Int) cs (List.replicate cs.length (-1))) cs.length):=Lay.of_own hm (LayL.sub hlm (fun b hb=>by cases hb)) (by simp)
        have oks:=oks12 (z0:=(val.length:Int)) (cs:=(rqC cs (setZ (val.length:Int) cs (List.replicate cs.length (-1))) cs.length)) (fun c hc=>by obtain ⟨j,h9,_⟩:=rqC_mem hc; exact hsm c (List.mem_of_getElem? h9)) (by omega)
        replace hL:=hL.sub (M':=[]) (fun b hb=>by cases hb)
        replace hbd:=hbd.sub (M':=[]) (fun b hb=>by cases hb)
        refine W.exit<|X.thenExit<|X.nextExit<|X.here<|X.seq<|W.seq<|W.seq<|W.region<|L.a rfl rfl<|L.nil<|X.seq ?_
        refine W.block<|W.loop (ι:=Nat) (fun k=>[(0,.slice TL cs.length tL),(5,.int .i64 ((val.length:Nat):Int)),(7,.int .i64 (phZ cs (List.replicate cs.length (-1)) val).2.1),(11,u),(13,.int .i64 ((k:Nat):Int))]) (fun k w_=>Lay rdC [] w_ (.slice TL cs.length tL) cs∧Lay rdC [] w_ u (rqC cs (setZ (val.length:Int) cs (List.replicate cs.length (-1))) cs.length)∧Bd [] w_∧Mod [] w w_∧k≤z.ts.length) (fun k=>z.ts.length - k) 0 ?_ ?_ ?_
        · exact ⟨rfl,rfl,rfl,rfl,rfl,trivial⟩
        ·
         exact ⟨hL.su,hM.su,hbd.su,hm0,Nat.zero_le _⟩
        ·
         rintro k w13 ⟨hL,hM,hbd,hm0,hk⟩
         refine W.seq<|W.seq<|W.region<|L.m rfl rfl<|L.m rfl rfl<|L.m rfl rfl<|L.v (R1.atLay (j:=aa) rfl rfl hL tyS22 hat haa) rfl<|L.v (R1.fieldAddr rfl tyF41_1) rfl ?_
         obtain ⟨z112,cs112,hz112,hE112,vt112,ds112,rfl,ht112,vn112,vd112,rfl,hn112,hd112⟩:=Lay.elemQ hL (j:=aa) haa
         obtain ⟨T112,t112,rfl⟩:=ht112.form
         obtain ⟨A112,c112,rfl⟩:=hn112.form
         obtain ⟨B112,e112,rfl⟩:=hd112.form
         obtain rfl:z=z112:=by have h9:=hz112; rw [hz] at h9; injection h9
         refine L.v (R1.loadEF rfl hE112 rfl tyP36) rfl ?_
         have hmax112:=ht112.max; unfold maxLen at hmax112
         refine L.v (R1.lenLay rfl ht112 tyS36) rfl<|L.v (R1.lt rfl rfl) rfl<|L.nil<|X.seq<|W.cond rfl ?_ ?_
         ·
          intro hc114
          try simp only [bq,ne_eq] at hc114
          refine W.skip<|X.seq<|W.seq<|W.block<|W.seq<|W.region<|L.m rfl rfl<|L.m rfl rfl<|L.m rfl rfl<|L.v (R1.atLay (j:=aa) rfl rfl hL tyS22 hat haa) rfl<|L.v (R1.fieldAddr rfl tyF41_1) rfl ?_
          obtain ⟨z123,cs123,hz123,hE123,vt123,ds123,rfl,ht123,vn123,vd123,rfl,hn123,hd123⟩:=Lay.elemQ hL (j:=aa) haa
          obtain ⟨T123,t123,rfl⟩:=ht123.form
          obtain ⟨A123,c123,rfl⟩:=hn123.form
          obtain ⟨B123,e123,rfl⟩:=hd123.form
          obtain rfl:z=z123:=by have h9:=hz123; rw [hz] at h9; injection h9
          refine L.v (R1.loadEF rfl hE123 rfl tyP36) rfl<|L.m rfl rfl<|L.v (R1.atLay (j:=k) rfl rfl ht123 tyS36 rfl (by omega)) rfl<|L.v (R1.fieldAddr rfl tyF45_0) rfl ?_
          obtain ⟨z127,cs127,hz127,hE127,ds127,rfl,vn127,vd127,rfl,hn127,hd127⟩:=Lay.elemQ ht123 (j:=k) (by omega)
          obtain ⟨A127,c127,rfl⟩:=hn127.form
          obtain ⟨B127,e127,rfl⟩:=hd127.form
          refine L.v (R1.loadEF rfl hE127 rfl tyP3) rfl<|L.m rfl rfl<|L.call rfl (c_Fixed10 (z0:=(val.length:Int)) hM hbd oks) rfl ?_
          rintro _ w14 ⟨rs129,ok129,_,hP129,rfl,⟨s129,A129,c129,B129,e129,xs129,ys129,rfl,hn129,hd129,hq129,hla129,hlb129⟩,hm14⟩
          replace hL:=hL.gr hm14
          replace hM:=hM.gr hm14
          replace hbd:=hbd.gr hm14
          replace hm0:=hm0.trans hm14
          clear hm14
          obtain ⟨x129,hx129⟩:∃ x,x=(fixDD (val.length:Int) z127.v rs129 ok129).getD 0:=⟨_,rfl⟩
          rw [← hx129] at hq129
          rw [forced_fix hC hn64 hz hst hid hP129 (List.mem_of_getElem? hz127)]
          refine L.m rfl rfl<|L.v (R1.extract rfl rfl) rfl<|L.v (R1.extract rfl rfl) rfl<|L.alloc tyZ39 rfl ?_
          intro g14 w15 hN14
          replace hL:=hL.new hN14
          replace hM:=hM.new hN14
          replace hbd:=hbd.new hN14
          have hge_g14:=New.ge hN14 hm0.size
          replace hm0:=hm0.trans (hN14.mod.mono (by simp))
          have hb14:=hN14.blk
          clear hN14
          refine L.storeBox rfl rfl hb14 rfl rfl tyG39 ?_
          intro w16 hb14' hm16
          replace hL:=hL.mod hm16 (by simp)
          replace hM:=hM.mod hm16 (by simp)
          replace hbd:=hbd.gr hm16
          replace hm0:=hm0.old1 hm16 hge_g14
          clear hm16
          replace hb14:=hb14'; clear hb14'
          refine L.a rfl rfl<|L.nil<|X.seq<|W.seq<|W.region<|L.m rfl rfl<|L.v ((R1.not rfl).asB (c:=false) rfl) rfl<|L.nil<|X.seq<|W.condF rfl<|W.skip ?_
          refine X.blockEnd<|X.seq<|W.region<|L.m rfl rfl<|L.v (R1.addI (b:=1) rfl rfl (by omega)) rfl<|L.a rfl rfl<|L.nil<|X.next (k + 1) ?_ ?_ ?_
          · exact ⟨rfl,rfl,rfl,rfl,rfl,trivial⟩
          ·
           exact ⟨hL.sub (fun b hb=>by cases hb),hM.sub (fun b hb=>by cases hb),hbd.sub (fun b hb=>by cases hb),hm0,by omega⟩
          · first | omega | (dsimp only; omega)
         ·
          intro hc114
          try simp only [bq,ne_eq] at hc114
          obtain rfl:k=z.ts.length:=by omega
          refine W.exit<|X.thenExit<|X.nextExit<|X.here<|X.seq<|W.seq<|W.region<|L.call rfl (c_known15) rfl ?_
          rintro _ w17 ⟨rfl,hm17⟩
          replace hm0:=hm0.trans hm17
          clear hm17
          refine L.a rfl rfl<|L.nil<|X.seq<|W.ret<|X.result1 rfl (.tmp rfl .nil) ?_
          exact ⟨rfl,hm0⟩
   ·
    have hcc_:=hgd29
    refine L.off rfl rfl rfl rfl rfl<|L.off rfl rfl rfl rfl rfl<|L.v (R1.pickT rfl rfl) rfl<|L.nil<|X.seq<|W.condT rfl<|W.seq<|W.region<|L.a rfl rfl<|L.nil<|X.seq ?_
    refine W.ret<|X.thenRet<|X.result1 rfl (.tmp rfl .nil) ?_
    exact ⟨rfl,hm0⟩
  ·
   have hcc_:=hgd24
   refine L.off rfl rfl rfl rfl rfl<|L.off rfl rfl rfl rfl rfl<|L.off rfl rfl rfl rfl rfl<|L.v (R1.pickT rfl rfl) rfl<|L.m rfl rfl<|L.off rfl rfl rfl rfl rfl<|L.off rfl rfl rfl rfl rfl<|L.v (R1.pickT rfl rfl) rfl<|L.nil<|X.seq<|W.condT rfl ?_
   refine W.seq<|W.region<|L.a rfl rfl<|L.nil<|X.seq<|W.ret<|X.thenRet<|X.result1 rfl (.tmp rfl .nil) ?_
   exact ⟨rfl,hm0⟩
 ·
  have hcc_:=hgd20
  refine L.off rfl rfl rfl rfl rfl<|L.off rfl rfl rfl rfl rfl<|L.v (R1.pickT rfl rfl) rfl<|L.m rfl rfl<|L.off rfl rfl rfl rfl rfl<|L.off rfl rfl rfl rfl rfl<|L.off rfl rfl rfl rfl rfl<|L.v (R1.pickT rfl rfl) rfl<|L.m rfl rfl<|L.off rfl rfl rfl rfl rfl<|L.off rfl rfl rfl rfl rfl ?_
  refine L.v (R1.pickT rfl rfl) rfl<|L.nil<|X.seq<|W.condT rfl<|W.seq<|W.region<|L.a rfl rfl<|L.nil<|X.seq<|W.ret<|X.thenRet ?_
  refine X.result1 rfl (.tmp rfl .nil) ?_
  exact ⟨rfl,hm0⟩
end Go.Proofs.YtbhdbdmaikjglaaGreat
end
