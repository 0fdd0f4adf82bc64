/- Several texts in one. -/
import Derived.Test.YtombbkdnehhonaaGreatG1C
import Derived.Test.YtombbkdnehhonaaGreatL5K
import Derived.Test.YtombbkdnehhonaaGreatL5G
section
namespace Go.Proofs.YtombbkdnehhonaaGreat
open Go.RowKit
set_option linter.unusedVariables false
set_option linter.unusedSimpArgs false
set_option maxRecDepth 10000
section
variable {n:Nat} {cs:List CR} {o:List Int}
def fvec (n:Nat) (c:CR):Vec:=cv n (conT c).1 (conT c).2
theorem co_ne {z:CR} {i:Nat} (hz:isC z (n:Int)=true) (h:i∈vsOf z):coef (conT z).1 i≠0:=by
  obtain ⟨t,ht,rfl⟩:=List.mem_map.1 h;obtain ⟨_,_,h4,_⟩:=isC_spec hz
  have h5:tv t∈(conT z).1:=List.mem_map.2 ⟨t,ht,rfl⟩
  have h6:coef (conT z).1 t.v.toNat=(tv t).2:=h4.coef_mem h5
  rw [h6]
  exact h4.ne _ h5
theorem ts_mem {z:CR} {s:Nat × Rat} (h:s∈(conT z).1):s.1∈vsOf z:=by
  obtain ⟨t,ht,rfl⟩:=List.mem_map.1 h
  exact List.mem_map.2 ⟨t,ht,rfl⟩
theorem sp_terms {L:List Vec} {u:Nat} (hu:u<n):∀ {l:Ts},Nice l→Below n l→(∀ t∈l,t.1≠u→∃ k,Sp L (fun i=>ev1 t.1 i + -1 * kv n k i))→∃ k,Sp L (fun i=>cv n l 0 i + -(coef l u) * ev1 u i + -1 * kv n k i)
  | [],_,_,_=>⟨0,by
      have e:(fun i=>cv n [] 0 i + -(coef [] u) * ev1 u i + -1 * kv n 0 i)=fun _=>(0:Rat):=by
        funext i
        simp only [cv,coef,kv]
        by_cases h:i=n
        · rw [if_pos h]; grind
        rw [if_neg h]; grind
      rw [e]; exact .zero⟩
  | t :: l,hN,hB,h=>by
    obtain ⟨k,hk⟩:=sp_terms hu hN.tail (fun s hs=>hB s (by simp [hs])) (fun s hs=>h s (by simp [hs]))
    have hlow:coef l t.1=0:=coef_low hN.head
    have hc:∀ i,coef (t :: l) i=(if t.1=i then t.2 else coef l i):=fun i=>rfl
    have htn:t.1<n:=hB t (by simp)
    by_cases e:t.1=u
    · refine ⟨k,?_⟩
      have e2:(fun i=>cv n (t :: l) 0 i + -(coef (t :: l) u) * ev1 u i + -1 * kv n k i)=(fun i=>cv n l 0 i + -(coef l u) * ev1 u i + -1 * kv n k i):=by
        funext i
        have h0:coef l u=0:=e ▸ hlow
        simp only [cv,hc,ev1]
        rw [h0,if_pos e]
        by_cases hi:i=n
        · rw [if_pos hi,if_pos hi,if_neg (by omega:¬ i=u)]; grind
        rw [if_neg hi,if_neg hi]
        by_cases h9:i=u
        · rw [if_pos (e.trans h9.symm),if_pos h9,h9,h0]; grind
        rw [if_neg (fun h8=>h9 (h8.symm.trans e)),if_neg h9]; grind
      rw [e2]; exact hk
    obtain ⟨k2,hk2⟩:=h t (by simp) e
    refine ⟨k + t.2 * k2,?_⟩
    have e2:(fun i=>cv n (t :: l) 0 i + -(coef (t :: l) u) * ev1 u i + -1 * kv n (k + t.2 * k2) i)=(fun i=>(cv n l 0 i + -(coef l u) * ev1 u i + -1 * kv n k i) + t.2 * (ev1 t.1 i + -1 * kv n k2 i)):=by
      funext i
      simp only [cv,hc,ev1,kv]
      rw [if_neg e]
      by_cases hi:i=n
      · rw [if_pos hi,if_pos hi,if_pos hi,if_pos hi,if_pos hi,if_neg (by omega:¬ i=t.1)]; grind
      rw [if_neg hi,if_neg hi,if_neg hi,if_neg hi,if_neg hi]
      by_cases h9:t.1=i
      · rw [if_pos h9,if_pos (show i=t.1 from h9.symm),← h9,hlow]; grind
      rw [if_neg h9,if_neg (show ¬ i=t.1 from fun h8=>h9 h8.symm)]; grind
    rw [e2]; exact hk.plus _ hk2
theorem forced_sp (hC:ChoZ n cs o) {B:Int} (h4:B<4) {L:List Vec} (hL:∀ j u z,outF o j=some u→cs[j]?=some z→z.st≤B→fvec n z∈L):∀ f u,u<n→hvZ n cs o u<f→strZ n cs o u≤B→∃ k,Sp L (fun i=>ev1 u i + -1 * kv n k i)
  | 0,_,_,hf,_=>absurd hf (Nat.not_lt_zero _)
  | f + 1,u,hu,hf,hs=>by
    cases hw:who o u with
    | none=>rw [hC.none_ hw] at hs; omega
    | some j =>
      have hj:=(who_some hC.c.T).1 hw;obtain ⟨z,hz⟩:=hC.at_ (hC.lt hw)
      unfold strZ at hs
      rw [strong_some hC.c hw,fold_le,ws_getD hC.all hz,stS_get hz] at hs
      have hz9:=hC.all z (List.mem_of_getElem? hz);obtain ⟨_,_,hN,hBl⟩:=isC_spec hz9;obtain ⟨w,h6,h7,_⟩:=hC.c.get hj;have hws:=ws_at hC.all hz
      rw [hws] at h6; injection h6 with h6; subst h6
      have h0:=co_ne hz9 h7
      obtain ⟨k,hk⟩:=sp_terms (L:=L) hu hN hBl (fun t ht hne=>forced_sp hC h4 hL f t.1 (hBl t ht) (by
        have h9:hvZ n cs o t.1<hvZ n cs o u:=hv_lt hC.c hj hws (ts_mem ht) hne
        omega) (hs.2 t.1 (ts_mem ht) hne))
      have h8:=Sp.scale (1 / coef (conT z).1 u) (Sp.sub 1 (Sp.mem (hL j u z hj hz hs.1)) hk)
      refine ⟨-(((conT z).2 + k) / coef (conT z).1 u),?_⟩
      generalize hcc:coef (conT z).1 u=c at *
      have e:(fun i=>ev1 u i + -1 * kv n (-(((conT z).2 + k) / c)) i)=fun i=>(1 / c) * vsub (fvec n z) (fun i=>cv n (conT z).1 0 i + -c * ev1 u i + -1 * kv n k i) 1 i:=by
        funext i
        simp only [vsub,fvec,cv,kv,ev1]
        by_cases hi:i=n
        · rw [if_pos hi,if_pos hi,if_pos hi,if_pos hi,if_neg (by omega:¬ i=u)]; grind
        rw [if_neg hi,if_neg hi,if_neg hi,if_neg hi]; grind
      rw [e]; exact h8
def rqI (cs:List CR) (o:List Int) (i:Nat):List Nat:=(List.range i).filter fun j=>decide ((cs.getD j c0R).st=0∧0≤o.getD j 0)
def rqC (cs:List CR) (o:List Int) (i:Nat):List CR:=(rqI cs o i).map fun j=>cs.getD j c0R
end
theorem forced_at {cs:List CR} {os:List Int} {val:List QR} (h:(phZ cs os val).2.2=10):∃ a z,(phZ cs os val).2.1=((a:Nat):Int)∧cs[a]?=some z∧z.st=0∧(setZ (val.length:Int) cs os).getD a 0<0∧ChB (val.length:Int) cs os=true∧val.length≤64:=by
  by_cases h1:mayP cs os val.length
  · cases h2:firstW (List.range val.length) (wsOf val.length cs) 0 with
    | some i=>rw [phZ_ring h1 h2] at h; exact absurd h (by show ¬ ((9:Int)=10); decide)
    | none =>
      cases h3:ChB (val.length:Int) cs os with
      | false=>rw [phZ_cho h1 h2 h3] at h; exact absurd h (by show ¬ ((1:Int)=10); decide)
      | true =>
        cases h4:badF cs (setZ (val.length:Int) cs os) with
        | some i =>
          have h5:=List.find?_some h4
          have h6:i<cs.length:=List.mem_range.1 (List.mem_of_find?_eq_some h4)
          have hz:cs[i]?=some (cs.getD i c0R):=by rw [List.getD_eq_getElem?_getD,List.getElem?_eq_getElem h6]; rfl
          unfold badB at h5
          simp only [Bool.and_eq_true,decide_eq_true_eq] at h5
          exact ⟨i,_,by rw [phZ_bad h1 h2 h3 h4],hz,h5.1,h5.2.1,rfl,h1.2.1⟩
        | none =>
          have h5:=phZ_run h1 h2 h3 h4
          rcases runZ_err (chb_set h3) with h6 | h6
          · rw [h5,if_neg (by rw [h6]; decide)] at h; exact absurd h (by show ¬ ((0:Int)=10); decide)
          rw [h5,if_pos (by rw [h6]; decide)] at h
          have h7:(8:Int)=10:=h6.symm.trans h
          exact absurd h7 (by decide)
  rw [phZ_no h1] at h; exact absurd h (by show ¬ ((1:Int)=10); decide)
theorem forced_wk {n a:Nat} {cs:List CR} {os:List Int} (h3:ChB (n:Int) cs os=true) (ha:a<cs.length) (h:(setZ (n:Int) cs os).getD a 0<0):wkZ n cs (setZ (n:Int) cs os) a []=none:=by
  have hC:=ChoZ.of (chb_set h3);have h1:=hC.idle ha;have h2:=hC.low ha;have hno:=h1.1 (by omega)
  rw [setZ_yes h3] at hno ⊢
  exact setl_idle (ChoZ.of h3).st (ChoZ.of h3).c (by rw [ws_len]; exact ha) hno
theorem sp_all {n:Nat} {L:List Vec} (h1:1≤n) {l:Ts} (hN:Nice l) (hB:Below n l) (h:∀ t∈l,∃ k,Sp L (fun i=>ev1 t.1 i + -1 * kv n k i)):∃ k,Sp L (fun i=>cv n l 0 i + -1 * kv n k i):=by
  obtain ⟨k,hk⟩:=sp_terms (L:=L) (u:=0) (by omega) hN hB (fun t ht _=>h t ht)
  by_cases h0:coef l 0=0
  · refine ⟨k,?_⟩
    have e:(fun i=>cv n l 0 i + -1 * kv n k i)=fun i=>cv n l 0 i + -(coef l 0) * ev1 0 i + -1 * kv n k i:=by funext i; rw [h0]; grind
    rw [e]; exact hk
  obtain ⟨t,ht,e0⟩:∃ t∈l,t.1=0:=Classical.byContradiction fun h9=>h0 (coef_none fun s hs e=>h9 ⟨s,hs,e⟩)
  obtain ⟨k2,hk2⟩:=h t ht
  rw [e0] at hk2
  refine ⟨k + coef l 0 * k2,?_⟩
  have e:(fun i=>cv n l 0 i + -1 * kv n (k + coef l 0 * k2) i)=fun i=>(cv n l 0 i + -(coef l 0) * ev1 0 i + -1 * kv n k i) + coef l 0 * (ev1 0 i + -1 * kv n k2 i):=by
    funext i
    simp only [kv]
    by_cases hi:i=n
    · rw [if_pos hi,if_pos hi,if_pos hi]; grind
    rw [if_neg hi,if_neg hi,if_neg hi]; grind
  rw [e]; exact hk.plus _ hk2
theorem solveD_len (n:Nat) (rs:List (List Rat)) (ok:Bool) (c:List Rat):(solveD n rs ok c).1.length≤rs.length + 1:=by
  unfold solveD
  simp only
  split
  · simp
  simp
theorem ex_solved {n:Nat} (hn:n≤64):∀ (cs:List CR),(∀ c∈cs,isC c (n:Int)=true)→∀ {L:List Vec} {rs:List (List Rat)} {R:List Row} {ok:Bool},RepDs n rs R→Solved n L R ok→∃ rs' R' ok',RepDs n rs' R'∧Solved n (L ++ cs.map (fvec n)) R' ok'∧rs'.length≤rs.length + cs.length
  | [],_,L,rs,R,ok,h1,h2=>⟨rs,R,ok,h1,by simpa using h2,by simp⟩
  | c :: r,h,L,rs,R,ok,h1,h2=>by
    obtain ⟨_,_,h4,h5⟩:=isC_spec (h c (by simp));obtain ⟨R2,h6,h7,_⟩:=solveD_step hn h1 h2 (rowD_length n (conT c))
    rw [rowD_dv h5] at h7
    obtain ⟨rs',R',ok',a1,a2,a3⟩:=ex_solved hn r (fun d hd=>h d (by simp [hd])) h6 h7
    refine ⟨rs',R',ok',a1,?_,?_⟩
    · rw [List.append_assoc] at a2
      exact a2
    have:=solveD_len n rs ok (rowD n (conT c))
    simp only [List.length_cons]; omega
theorem req_rank {n:Nat} {cs:List CR} {o:List Int} (hC:ChoZ n cs o) (h1:1≤n) (hn:n≤64) (h0:∀ c∈cs,c.st=0) {a:Nat} {z:CR} (hz:cs[a]?=some z) (hneg:o.getD a 0<0) (hid:wkZ n cs o a []=none) {t:Nat} {ds:List (List Rat)} {ok:Bool} (hA:AInv (heldG (n:Int)) t (vecs (heldG (n:Int)) cs) ds ok):ds.length<cs.length:=by
  rw [heldG_eq hn] at hA
  have ha:=(List.getElem?_eq_some_iff.1 hz).1
  have hno:outF o a=none:=(hC.idle ha).1 (by have:=hC.low ha; omega)
  have hD:∀ c∈cs.eraseIdx a,isC c (n:Int)=true:=fun c hc=>hC.all c (List.mem_of_mem_eraseIdx hc)
  have hDl:=List.length_eraseIdx_of_lt ha;obtain ⟨rs',R',ok',a1,a2,a3⟩:=ex_solved hn (cs.eraseIdx a) hD RepDs.nil (Solved.nil n)
  rw [List.nil_append] at a2
  simp only [List.length_nil,Nat.zero_add] at a3
  have hzC:=hC.all z (List.mem_of_getElem? hz);obtain ⟨_,_,hN,hB⟩:=isC_spec hzC;have hle:=(hC.wk_no hz).1 hid
  rw [h0 z (List.mem_of_getElem? hz)] at hle
  obtain ⟨k,hk⟩:=sp_all (L:=(cs.eraseIdx a).map (fvec n)) h1 hN hB (fun s hs=>forced_sp hC (B:=0) (by decide) (fun j u c hj hc _=>List.mem_map.2 ⟨c,List.mem_eraseIdx_iff_getElem?.2 ⟨j,(fun e=>by rw [e,hno] at hj; cases hj),hc⟩,rfl⟩) _ s.1 (hB s hs) (Nat.lt_succ_self _) (by
    obtain ⟨t,ht,rfl⟩:=List.mem_map.1 hs
    exact hle t ht))
  have hS:=a2.same (c:=kv n 1) (k:=1) (red_kv a2.good 1);obtain ⟨R,h2,h3⟩:=hA.rank
  have hkv:Sp ((cs.eraseIdx a).map (fvec n) ++ [kv n 1]) (kv n 1):=Sp.mem (by simp)
  have h4:=h2.rank_le hS (fun v hv=>by
    obtain ⟨c,hc,_,rfl⟩:=vecs_mem.1 hv;obtain ⟨j,hj⟩:=List.getElem?_of_mem hc
    by_cases e:j=a
    · subst e
      rw [hz] at hj; injection hj with hj; subst hj
      have h5:=(Sp.mono (M:=(cs.eraseIdx j).map (fvec n) ++ [kv n 1]) (fun v hv=>List.mem_append_left _ hv) hk).plus ((conT z).2 + k) hkv
      have e:cv n (conT z).1 (conT z).2=fun i=>(cv n (conT z).1 0 i + -1 * kv n k i) + ((conT z).2 + k) * kv n 1 i:=by
        funext i
        simp only [cv,kv]
        by_cases hi:i=n
        · rw [if_pos hi,if_pos hi,if_pos hi,if_pos hi]; grind
        rw [if_neg hi,if_neg hi,if_neg hi,if_neg hi]; grind
      rw [e]; exact h5
    exact Sp.mem (List.mem_append_left _ (List.mem_map.2 ⟨c,List.mem_eraseIdx_iff_getElem?.2 ⟨j,e,hj⟩,rfl⟩)))
  have h5:=a1.length
  omega
theorem phZ_errs {cs:List CR} {os:List Int} {val:List QR} (h1:¬ (phZ cs os val).2.2=9) (h2:¬ (phZ cs os val).2.2=1) (h3:¬ (phZ cs os val).2.2=8):(phZ cs os val).2.2=0∨(phZ cs os val).2.2=10:=by
  by_cases a1:mayP cs os val.length
  · cases a2:firstW (List.range val.length) (wsOf val.length cs) 0 with
    | some i=>rw [phZ_ring a1 a2] at h1; exact absurd rfl h1
    | none =>
      cases a3:ChB (val.length:Int) cs os with
      | false=>rw [phZ_cho a1 a2 a3] at h2; exact absurd rfl h2
      | true =>
        cases a4:badF cs (setZ (val.length:Int) cs os) with
        | some i=>rw [phZ_bad a1 a2 a3 a4]; exact .inr rfl
        | none =>
          have a5:=phZ_run a1 a2 a3 a4
          rcases runZ_err (chb_set a3) with a6 | a6
          · rw [a5,if_neg (by rw [a6]; decide)]; exact .inl rfl
          rw [a5,if_pos (by rw [a6]; decide)] at h3; exact absurd a6 h3
  rw [phZ_no a1] at h2; exact absurd rfl h2
def zC0 (c:CR):CR:=⟨0,c.ts,c.k⟩
def zqC (cs:List CR):List CR:=cs.map zC0
theorem zqC_len (cs:List CR):(zqC cs).length=cs.length:=by simp [zqC]
theorem zqC_st {cs:List CR}:∀ c∈zqC cs,c.st=0:=fun c hc=>by
  obtain ⟨d,_,rfl⟩:=List.mem_map.1 hc; rfl
theorem zqC_sm {cs:List CR} {L:Nat} (h:∀ c∈cs,SmC L c):∀ c∈zqC cs,SmC L c:=fun c hc=>by
  obtain ⟨d,hd,rfl⟩:=List.mem_map.1 hc; exact h d hd
theorem zqC_snoc {cs:List CR} {i:Nat} {z:CR} (hz:cs[i]?=some z):zqC (cs.take (i + 1))=zqC (cs.take i) ++ [zC0 z]:=by
  obtain ⟨hi,rfl⟩:=List.getElem?_eq_some_iff.1 hz
  unfold zqC
  rw [List.take_succ_eq_append_getElem hi,List.map_append]; rfl
theorem req_ok {cs:List CR} {os:List Int} {val:List QR} (h1:1≤val.length) (h9:¬ (phZ (zqC cs) os val).2.2=9) (h0:¬ (phZ (zqC cs) os val).2.2=1) (h8:¬ (phZ (zqC cs) os val).2.2=8) {t:Nat} {ds:List (List Rat)} {ok:Bool} (hA:AInv (heldG (val.length:Int)) t (vecs (heldG (val.length:Int)) (zqC cs)) ds ok) (hr:ds.length=(zqC cs).length):(phZ (zqC cs) os val).2.2=0:=by
  rcases phZ_errs h9 h0 h8 with h | h
  · exact h
  obtain ⟨a,z,hat,hz,hst,hneg,hch,hn64⟩:=forced_at h
  have:=req_rank (ChoZ.of (chb_set hch)) h1 hn64 zqC_st hz hneg (forced_wk hch (List.getElem?_eq_some_iff.1 hz).1 hneg) hA
  omega
end Go.Proofs.YtombbkdnehhonaaGreat
end
section
namespace Go.Proofs.YtombbkdnehhonaaGreat
open Go.RowKit
set_option linter.unusedVariables false
set_option linter.unusedSimpArgs false
set_option maxRecDepth 10000
theorem fillK1 (v1:Int) (T1:Option Addr) (l1 t1:Nat) (s1:Bool) (A1:Option Addr) (n1 c1:Nat) (B1:Option Addr) (m1 d1:Nat):Instr.fill (fun i=>some (i * 5,5)) ((Array.range (1 * 5)).map ((Value.agg #[.int .i64 0,.slice none 0 0,.bool false,.slice none 0 0,.slice none 0 0]).cells[· % (Value.agg #[.int .i64 0,.slice none 0 0,.bool false,.slice none 0 0,.slice none 0 0]).cells.size]!)) [(0,.agg #[.int .i64 v1,.slice T1 l1 t1,.bool s1,.slice A1 n1 c1,.slice B1 m1 d1])]=some #[.int .i64 v1,.slice T1 l1 t1,.bool s1,.slice A1 n1 c1,.slice B1 m1 d1]:=by kernel_rfl
set_option maxHeartbeats 2000000 in
theorem c_SolveRequired {w : World} {vl vv : Value} {cs : List CR} {val : List QR} (hL : Lay rdC [] w vl cs) (hv : Lay rdQ [] w vv val) (hb : szCs cs ≤ 4194304) (hbv : szQs val ≤ 4194304) :
    Ret Tryz.prog 3 #[vl,vv] w (fun r w'=>r=.bool true∧Mod [] w w'):=by
 have hbd:Bd [] w:=fun m hm=>by cases hm
 obtain ⟨TL,tL,rfl⟩:=hL.form;obtain ⟨TV,tV,rfl⟩:=hv.form;have hmaxL:=hL.max; unfold maxLen at hmaxL;have hmaxV:=hv.max; unfold maxLen at hmaxV
 refine Ret.of (vs:=[.slice TL cs.length tL,.slice TV val.length tV]) (n:=103) Tryz.func3 rfl rfl rfl rfl ?_
 have hm0:Mod [] w w:=Mod.refl _ _
 refine W.seq<|W.region<|L.a rfl rfl<|L.nil<|X.seq<|W.seq<|W.region<|L.m rfl rfl<|L.v (R1.lenLay rfl hv tyS23) rfl<|L.a rfl rfl<|L.nil ?_
 refine X.seq<|W.seq<|W.seq<|W.region<|L.m rfl rfl<|L.call rfl (c_heavy_pantographlaw15 hL hb) rfl ?_
 rintro _ w1 ⟨rfl,hm1⟩
 replace hL:=hL.gr hm1;replace hv:=hv.gr hm1;replace hbd:=hbd.gr hm1;replace hm0:=hm0.trans hm1;clear hm1
 refine L.m rfl rfl ?_
 cases hgd20:(decide (150<szCs cs))
 ·
  have hcc_:=hgd20
  refine L.on rfl rfl rfl (R1.move rfl) rfl<|L.callOn rfl rfl rfl rfl (c_many_pantographlaw15 hv hbv) rfl ?_
  rintro _ w2 ⟨b22,rfl,hb22,hm2⟩
  replace hL:=hL.gr hm2;replace hv:=hv.gr hm2;replace hbd:=hbd.gr hm2;replace hm0:=hm0.trans hm2;clear hm2
  refine L.v (R1.pickF rfl rfl) rfl<|L.m rfl rfl ?_
  cases hgd24:b22
  ·
   have hcc_:=hgd24
   refine L.on rfl rfl rfl (R1.move rfl) rfl<|L.on rfl rfl rfl (R1.lenLay rfl hL tyS22) rfl<|L.on rfl rfl rfl ((R1.gt rfl rfl).asB (c:=(decide ((8:Int)<(cs.length:Int)))) (rfl)) rfl<|L.v (R1.pickF rfl rfl) rfl<|L.m rfl rfl ?_
   cases hgd29:(decide ((8:Int)<(cs.length:Int)))
   ·
    have hcc_:=hgd29
    refine L.on rfl rfl rfl (R1.move rfl) rfl<|L.on rfl rfl rfl ((R1.gt rfl rfl).asB (c:=(decide ((8:Int)<(val.length:Int)))) (rfl)) rfl<|L.v (R1.pickF rfl rfl) rfl<|L.m rfl rfl ?_
    cases hgd33:(decide ((8:Int)<(val.length:Int)))
    ·
     have hcc_:=hgd33
     refine L.on rfl rfl rfl (R1.move rfl) rfl<|L.on rfl rfl rfl ((R1.lt rfl rfl).asB (c:=(decide ((val.length:Int)<1))) (rfl)) rfl<|L.v (R1.pickF rfl rfl) rfl<|L.nil<|X.seq<|W.cond rfl ?_ ?_
     ·
      intro hc36
      have hcc_:=hc36
      refine W.seq<|W.region<|L.a rfl rfl<|L.nil<|X.seq<|W.ret<|X.thenRet<|X.result1 rfl (.tmp rfl .nil) ?_
      exact ⟨rfl,hm0⟩
     intro hc36
     have hcc_:=hc36;have hsm:=sm150 (by simpa using hgd20);obtain ⟨hsv,hvl⟩:=(by first | exact hb22 rfl | exact hb22 hgd24:(∀ q∈val,SmQ 3 q)∧val.length≤100);have hsv3:=hsv;replace hsv:=sm316 hsv
     have hcl:cs.length≤12:=by have h9:=of_decide_eq_false hgd29; omega
     have hsmL:∀ c∈cs,SmC 1099511627776 c:=fun c hc=>smC_up (hsm c hc) (by decide)
     have hn8:val.length≤8:=by have h9:=of_decide_eq_false hgd33; omega
     have hn1:1≤val.length:=by have h9:=of_decide_eq_false hc36; omega
     refine W.skip<|X.seq<|W.seq<|W.region<|L.a rfl rfl<|L.nil<|X.seq<|W.seq<|W.seq<|W.region<|L.a rfl rfl ?_
     refine L.nil<|X.seq<|W.block<|W.loop (ι:=Nat × Value × List (List Value)) (fun (i,u,css)=>[(0,.slice TL cs.length tL),(1,.slice TV val.length tV),(5,.int .i64 ((val.length:Nat):Int)),(6,u),(7,.int .i64 ((i:Nat):Int))]) (fun (i,u,css) w_=>Lay rdC (ownL u ++ []) w_ (.slice TL cs.length tL) cs∧Lay rdQ (ownL u ++ []) w_ (.slice TV val.length tV) val∧w_.ownsRow w.heap.size 31 5 u (zqC (cs.take i)).length css.flatten∧LayL rdC (ownL u ++ []) w_ css (zqC (cs.take i))∧Bd (ownL u ++ []) w_∧Mod [] w w_∧i≤cs.length) (fun (i,u,css)=>cs.length - i) (0,.slice none 0 0,[]) ?_ ?_ ?_
     · exact ⟨rfl,rfl,rfl,rfl,rfl,trivial⟩
     ·
      exact ⟨hL.sub (by intro b hb; first | exact hb | (simp only [mq] at hb; done) | (simp only [mq] at hb ⊢; grind)),hv.sub (by intro b hb; first | exact hb | (simp only [mq] at hb; done) | (simp only [mq] at hb ⊢; grind)),own_nil _ _ _ _,LayL.nil,hbd.sub (by intro b hb; first | exact hb | (simp only [mq] at hb; done) | (simp only [mq] at hb ⊢; grind)),hm0,Nat.zero_le _⟩
     rintro ⟨i,u,css⟩ w3 ⟨hL,hv,hm,hlm,hbd,hm0,hi⟩
     refine W.seq<|W.seq<|W.region<|L.m rfl rfl<|L.m rfl rfl<|L.v (R1.lenLay rfl hL tyS22) rfl<|L.v (R1.lt rfl rfl) rfl<|L.nil<|X.seq<|W.cond rfl ?_ ?_
     ·
      intro hc40
      try simp only [bq,ne_eq] at hc40
      refine W.skip<|X.seq<|W.seq<|W.block<|W.seq<|W.region<|L.m rfl rfl<|L.m rfl rfl<|L.v (R1.atLay (j:=i) rfl rfl hL tyS22 rfl (by omega)) rfl ?_
      obtain ⟨z46,cs46,hz46,hE46,vt46,ds46,rfl,ht46,vn46,vd46,rfl,hn46,hd46⟩:=Lay.elemQ hL (j:=i) (by omega);obtain ⟨T46,t46,rfl⟩:=ht46.form;obtain ⟨A46,c46,rfl⟩:=hn46.form;obtain ⟨B46,e46,rfl⟩:=hd46.form
      refine L.v (R1.loadE rfl hE46 tyG31) rfl<|L.alloc tyZ31 rfl ?_
      intro g8 w4 hN8
      replace hL:=hL.new hN8;replace hv:=hv.new hN8;have hno_hm_g8:=own_ne_new hm hN8;replace hm:=own_gr hm hN8.mod (by simp);replace hlm:=hlm.new hN8;replace hbd:=hbd.new hN8;have hge_g8:=New.ge hN8 hm0.size;replace hm0:=hm0.trans (hN8.mod.mono (by simp));replace ht46:=ht46.new hN8;replace hn46:=hn46.new hN8;replace hd46:=hd46.new hN8;have hb8:=hN8.blk;clear hN8
      refine L.storeBox rfl rfl hb8 rfl rfl tyG31 ?_
      intro w5 hb8' hm5
      replace hL:=hL.mod hm5 (by simp);replace hv:=hv.mod hm5 (by simp);replace hm:=own_far hm hm5 hno_hm_g8;replace hlm:=hlm.mod hm5 (by simp);replace hbd:=hbd.gr hm5;replace hm0:=hm0.old1 hm5 hge_g8;replace ht46:=ht46.mod hm5 (by simp);replace hn46:=hn46.mod hm5 (by simp);replace hd46:=hd46.mod hm5 (by simp);clear hm5;replace hb8:=hb8'; clear hb8'
      refine L.nil<|X.seq<|W.seq<|W.region<|L.v (R1.fieldAt rfl tyF31_0) rfl<|L.store rfl rfl hb8 (show 0<5 by decide) rfl tyP3 ?_
      intro w6 hb8' hm6
      replace hL:=hL.mod hm6 (by simp);replace hv:=hv.mod hm6 (by simp);replace hm:=own_far hm hm6 hno_hm_g8;replace hlm:=hlm.mod hm6 (by simp);replace hbd:=hbd.gr hm6;replace hm0:=hm0.old1 hm6 hge_g8;replace ht46:=ht46.mod hm6 (by simp);replace hn46:=hn46.mod hm6 (by simp);replace hd46:=hd46.mod hm6 (by simp);clear hm6;replace hb8:=hb8'; clear hb8'
      refine L.nil<|X.seq<|W.region<|L.m rfl rfl ?_
      replace hb8:Blk w6 g8 31 #[.int .i64 0,.slice T46 z46.ts.length t46,.bool z46.k.s,.slice A46 z46.k.n.length c46,.slice B46 z46.k.d.length e46]:=hb8
      refine L.v (R1.loadBox rfl hb8 tyG31) rfl<|L.buildSlice (cells:=[.int .i64 0,.slice T46 z46.ts.length t46,.bool z46.k.s,.slice A46 z46.k.n.length c46,.slice B46 z46.k.d.length e46]) rfl tyS22 tyZ31 (fillK1 _ _ _ _ _ _ _ _ _ _ _) (by decide) (by decide) rfl ?_
      intro g50 w7 hN50
      replace hL:=hL.gr hN50.mod;replace hv:=hv.gr hN50.mod;replace hm:=own_gr hm hN50.mod (by simp);replace hlm:=hlm.gr hN50.mod;replace hbd:=hbd.gr hN50.mod;replace hm0:=hm0.trans hN50.mod;replace ht46:=ht46.gr hN50.mod;replace hn46:=hn46.gr hN50.mod;replace hd46:=hd46.gr hN50.mod
      have hrow:Sl [] w7 5 (.slice (some ⟨g50,0,none⟩) 1 1) 1 [.int .i64 0,.slice T46 z46.ts.length t46,.bool z46.k.s,.slice A46 z46.k.n.length c46,.slice B46 z46.k.d.length e46]:=Sl.of_blk hN50.blk 0 (Nat.le_refl _) (by decide) rfl (by simp) (fun j hj=>by simp)
      clear hN50;have hsl9:=zqC_len (cs.take i)
      rw [List.length_take] at hsl9
      refine L.append rfl rfl hm hrow (by intro c hc; simp only [List.mem_cons,List.not_mem_nil,or_false] at hc; rcases hc with rfl | rfl | rfl | rfl | rfl <;> rfl) tyS22 tyZ31 (by omega) (by unfold maxLen; omega) hm0.size rfl ?_
      intro v51 w8 ho51' hG51
      replace hL:=hL.grew2 hG51 (by first | exact mem_own | (intro b hb; simp [hb]));replace hv:=hv.grew2 hG51 (by first | exact mem_own | (intro b hb; simp [hb]));replace hlm:=hlm.grew2 hG51 (by first | exact mem_own | (intro b hb; simp [hb]));replace hbd:=hbd.grew2 hG51 (by first | exact mem_own | (intro b hb; simp [hb]));replace hm0:=Mod.oldOwn hm0 hG51.mod hm;replace ht46:=ht46.grew2 hG51 (by first | exact mem_own | (intro b hb; simp [hb]));replace hn46:=hn46.grew2 hG51 (by first | exact mem_own | (intro b hb; simp [hb]));replace hd46:=hd46.grew2 hG51 (by first | exact mem_own | (intro b hb; simp [hb]));replace hm:=ho51'; clear ho51';clear hG51
      refine L.a rfl rfl<|L.nil<|X.blockEnd<|X.seq<|W.region<|L.m rfl rfl<|L.v (R1.addI (b:=1) rfl rfl (by omega)) rfl<|L.a rfl rfl<|L.nil<|X.next (i + 1,v51,css ++ [[.int .i64 0,.slice T46 z46.ts.length t46,.bool z46.k.s,.slice A46 z46.k.n.length c46,.slice B46 z46.k.d.length e46]]) ?_ ?_ ?_
      · exact ⟨rfl,rfl,rfl,rfl,rfl,trivial⟩
      ·
       exact ⟨hL.su,hv.su,own_congr hm (by rw [zqC_snoc hz46]; simp) (by simp),by rw [zqC_snoc hz46]; exact (hlm.su).append (LayL.one _ (zC0 z46) (rdC_mk (c:=zC0 z46) (ht46.su) (hn46.su) (hd46.su))),hbd.su,hm0,by omega⟩
      first | omega | (dsimp only; omega)
     intro hc40
     try simp only [bq,ne_eq] at hc40
     obtain rfl:i=cs.length:=by omega
     rw [List.take_length] at hm hlm
     have hM:Lay rdC [] w3 u (zqC cs):=Lay.of_own hm (LayL.sub hlm (fun b hb=>by cases hb)) (by simp)
     have hsR:=zqC_sm hsm;have hlR:=zqC_len cs;replace hv:=hv.sub (M':=[]) (fun b hb=>by cases hb);replace hbd:=hbd.sub (M':=[]) (fun b hb=>by cases hb);have oks:=oks12 (z0:=(val.length:Int)) hsR (by omega)
     refine W.exit<|X.thenExit<|X.nextExit<|X.here<|X.seq<|W.seq<|W.region<|L.m rfl rfl<|L.m rfl rfl<|L.call rfl (c_none hM (by omega)) rfl ?_
     rintro v55 w9 ⟨hO,hm9⟩
     replace hv:=hv.gr hm9;replace hbd:=hbd.gr hm9;replace hm0:=hm0.trans hm9;replace hM:=hM.gr hm9;clear hm9
     refine L.m rfl rfl<|L.v (R1.build (vs:=[v55,.slice TV val.length tV]) rfl (built_S9 (lay_form' hO) ⟨_,_,_,rfl⟩ built_S2)) rfl<|L.call rfl (c_Phase (hM.sub (M':=[]) (fun b hb=>by cases hb)) (hO.sub (M':=[]) (fun b hb=>by cases hb)) (hv.sub (M':=[]) (fun b hb=>by cases hb)) (hbd.sub (M':=[]) (fun b hb=>by cases hb)) hsR hsv (by rw [hlR]; omega)) rfl ?_
     rintro _ w10 ⟨a58,b58,rfl,hA,hB,hm10⟩
     replace hv:=hv.gr hm10;replace hbd:=hbd.gr hm10;replace hm0:=hm0.trans hm10;replace hM:=hM.gr hm10;clear hm10
     refine L.m rfl rfl<|L.v (R1.extract rfl rfl) rfl<|L.v (R1.extract rfl rfl) rfl<|L.v (R1.extract rfl rfl) rfl<|L.alloc tyZ34 rfl ?_
     intro g9 w11 hN9
     replace hv:=hv.new hN9;replace hbd:=hbd.new hN9;have hge_g9:=New.ge hN9 hm0.size;replace hm0:=hm0.trans (hN9.mod.mono (by simp));replace hM:=hM.new hN9;replace hA:=hA.new hN9;replace hB:=hB.new hN9;have hb9:=hN9.blk;clear hN9
     refine L.storeBox rfl rfl hb9 rfl (one_S (lay_form' hA) (lay_form' hB)) tyG34 ?_
     intro w12 hb9' hm12
     replace hv:=hv.mod hm12 (by simp);replace hbd:=hbd.gr hm12;replace hm0:=hm0.old1 hm12 hge_g9;replace hM:=hM.mod hm12 (by simp);clear hm12;replace hb9:=hb9'; clear hb9'
     refine L.a rfl rfl<|L.a rfl rfl<|L.nil<|X.seq<|W.seq<|W.seq<|W.cut (ι:=Nat) (fun d9=>[(1,.slice TV val.length tV),(5,.int .i64 ((val.length:Nat):Int)),(6,u),(11,.int .i64 (phZ (zqC cs) (List.replicate (zqC cs).length (-1)) val).2.2),(71,.bool (decide ((phZ (zqC cs) (List.replicate (zqC cs).length (-1)) val).2.2=9∨(phZ (zqC cs) (List.replicate (zqC cs).length (-1)) val).2.2=1∨(phZ (zqC cs) (List.replicate (zqC cs).length (-1)) val).2.2=8)))]) (fun d9 w_=>Lay rdC [] w_ u (zqC cs)∧Lay rdQ [] w_ (.slice TV val.length tV) val∧Bd [] w_∧Mod [] w w_) ?_ ?_
     ·
      refine W.region<|L.m rfl rfl<|L.v ((R1.eq rfl rfl).asB (c:=(decide ((phZ (zqC cs) (List.replicate (zqC cs).length (-1)) val).2.2=9))) (rfl)) rfl<|L.m rfl rfl ?_
      cases hgd64:(decide ((phZ (zqC cs) (List.replicate (zqC cs).length (-1)) val).2.2=9))
      ·
       try simp only [bq,ne_eq] at hgd64
       refine L.on rfl rfl rfl (R1.move rfl) rfl<|L.on rfl rfl rfl ((R1.eq rfl rfl).asB (c:=(decide ((phZ (zqC cs) (List.replicate (zqC cs).length (-1)) val).2.2=1))) (rfl)) rfl<|L.v (R1.pickF rfl rfl) rfl<|L.m rfl rfl ?_
       cases hgd68:(decide ((phZ (zqC cs) (List.replicate (zqC cs).length (-1)) val).2.2=1))
       ·
        try simp only [bq,ne_eq] at hgd68
        refine L.on rfl rfl rfl (R1.move rfl) rfl<|L.on rfl rfl rfl ((R1.eq rfl rfl).asB (c:=(decide ((phZ (zqC cs) (List.replicate (zqC cs).length (-1)) val).2.2=8))) (rfl)) rfl<|L.v (R1.pickF rfl rfl) rfl<|L.nil<|X.join 0 ?_ ?_
        · exact ⟨rfl,rfl,rfl,rfl,congrArg (fun b=>some (Value.bool b)) (by first | exact decide_eq_decide.2 ⟨fun h9=>.inr (.inr h9),fun h9=>(h9.resolve_left hgd64).resolve_left hgd68⟩ | exact (decide_eq_true (Or.inr (Or.inl (show _=(1:Int) from hgd68)))).symm | exact (decide_eq_true (Or.inl (show _=(9:Int) from hgd64))).symm),trivial⟩
        exact ⟨hM.sub (fun b hb=>by cases hb),hv.sub (fun b hb=>by cases hb),hbd.sub (fun b hb=>by cases hb),hm0⟩
       try simp only [bq,ne_eq] at hgd68
       refine L.off rfl rfl rfl rfl rfl<|L.off rfl rfl rfl rfl rfl<|L.v (R1.pickT rfl rfl) rfl<|L.nil<|X.join 0 ?_ ?_
       · exact ⟨rfl,rfl,rfl,rfl,congrArg (fun b=>some (Value.bool b)) (by first | exact decide_eq_decide.2 ⟨fun h9=>.inr (.inr h9),fun h9=>(h9.resolve_left hgd64).resolve_left hgd68⟩ | exact (decide_eq_true (Or.inr (Or.inl (show _=(1:Int) from hgd68)))).symm | exact (decide_eq_true (Or.inl (show _=(9:Int) from hgd64))).symm),trivial⟩
       exact ⟨hM.sub (fun b hb=>by cases hb),hv.sub (fun b hb=>by cases hb),hbd.sub (fun b hb=>by cases hb),hm0⟩
      try simp only [bq,ne_eq] at hgd64
      refine L.off rfl rfl rfl rfl rfl<|L.off rfl rfl rfl rfl rfl<|L.v (R1.pickT rfl rfl) rfl<|L.m rfl rfl<|L.off rfl rfl rfl rfl rfl<|L.off rfl rfl rfl rfl rfl<|L.v (R1.pickT rfl rfl) rfl<|L.nil<|X.join 0 ?_ ?_
      · exact ⟨rfl,rfl,rfl,rfl,congrArg (fun b=>some (Value.bool b)) (by first | exact decide_eq_decide.2 ⟨fun h9=>.inr (.inr h9),fun h9=>(h9.resolve_left hgd64).resolve_left hgd68⟩ | exact (decide_eq_true (Or.inr (Or.inl (show _=(1:Int) from hgd68)))).symm | exact (decide_eq_true (Or.inl (show _=(9:Int) from hgd64))).symm),trivial⟩
      exact ⟨hM.sub (fun b hb=>by cases hb),hv.sub (fun b hb=>by cases hb),hbd.sub (fun b hb=>by cases hb),hm0⟩
     rintro d9 wj ⟨hM,hv,hbd,hm0⟩
     refine X.seq<|W.cond rfl ?_ ?_
     ·
      intro hc71
      try simp only [bq,ne_eq] at hc71
      refine W.seq<|W.region<|L.m rfl rfl<|L.m rfl rfl<|L.call rfl (c_none hM (by omega)) rfl ?_
      rintro v75 w13 ⟨hO3,hm13⟩
      replace hM:=hM.gr hm13;replace hv:=hv.gr hm13;replace hbd:=hbd.gr hm13;replace hm0:=hm0.trans hm13;clear hm13
      refine L.m rfl rfl<|L.v (R1.build (vs:=[v75,.slice TV val.length tV]) rfl (built_S9 (lay_form' hO3) ⟨_,_,_,rfl⟩ built_T2)) rfl<|L.call rfl (c_r15_Phase (hM.sub (M':=[]) (fun b hb=>by cases hb)) (hO3.sub (M':=[]) (fun b hb=>by cases hb)) (hv.sub (M':=[]) (fun b hb=>by cases hb)) (hbd.sub (M':=[]) (fun b hb=>by cases hb)) hsR hsv) rfl ?_
      rintro _ w14 ⟨a78,b78,rfl,hA3,hB3,hm14⟩
      replace hm0:=hm0.trans hm14;clear hm14
      refine L.m rfl rfl<|L.v (R1.extract rfl rfl) rfl<|L.v (R1.extract rfl rfl) rfl<|L.v (R1.extract rfl rfl) rfl<|L.alloc tyZ39 rfl ?_
      intro g12 w15 hN12
      have hge_g12:=New.ge hN12 hm0.size;replace hm0:=hm0.trans (hN12.mod.mono (by simp));replace hA3:=hA3.new hN12;replace hB3:=hB3.new hN12;have hb12:=hN12.blk;clear hN12
      refine L.storeBox rfl rfl hb12 rfl (one_S (lay_form' hA3) (lay_form' hB3)) tyG39 ?_
      intro w16 hb12' hm16
      replace hm0:=hm0.old1 hm16 hge_g12;clear hm16;replace hb12:=hb12'; clear hb12'
      refine L.a rfl rfl<|L.a rfl rfl<|L.nil<|X.seq<|W.seq<|W.region<|L.m rfl rfl<|L.m rfl rfl<|L.v ((R1.eq rfl rfl).asB (c:=true) (decide_eq_true rfl)) rfl<|L.m rfl rfl<|L.callOn rfl rfl rfl rfl (c_known15) rfl ?_
      rintro _ w17 ⟨rfl,hm17⟩
      replace hm0:=hm0.trans hm17;clear hm17
      refine L.v (R1.pickT rfl rfl) rfl<|L.a rfl rfl<|L.nil<|X.seq<|W.ret<|X.thenRet<|X.result1 rfl (.tmp rfl .nil) ?_
      exact ⟨rfl,hm0⟩
     intro hc71
     try simp only [bq,ne_eq] at hc71
     refine W.skip<|X.seq<|W.seq<|W.region<|L.m rfl rfl<|L.m rfl rfl<|L.call rfl (c_Rank10 (z0:=(val.length:Int)) hM hbd oks) rfl ?_
     rintro _ w18 ⟨rs90,ok90,hP90,rfl,hm18⟩
     replace hM:=hM.gr hm18;replace hm0:=hm0.trans hm18;clear hm18
     refine L.m rfl rfl<|L.v (R1.lenLay rfl hM tyS22) rfl<|L.v ((R1.eq rfl rfl).asB (c:=(decide (rs90.length=(zqC cs).length))) (by rw [decide_eq_decide]; omega)) rfl<|L.a rfl rfl<|L.nil<|X.seq<|W.seq<|W.region<|L.m rfl rfl<|L.v (R1.not rfl) rfl<|L.m rfl rfl ?_
     cases hgd96:(!(decide (rs90.length=(zqC cs).length)))
     ·
      simp only [Bool.not_eq_true',Bool.not_eq_false'] at hgd96
      refine L.on rfl rfl rfl (R1.move rfl) rfl<|L.on rfl rfl rfl ((R1.eq rfl rfl).asB (c:=true) (decide_eq_true (req_ok hn1 (fun h9=>hc71 (.inl h9)) (fun h9=>hc71 (.inr (.inl h9))) (fun h9=>hc71 (.inr (.inr h9))) hP90 (of_decide_eq_true hgd96)))) rfl<|L.v (R1.pickF rfl rfl) rfl<|L.m rfl rfl<|L.callOn rfl rfl rfl rfl (c_known15) rfl ?_
      rintro _ w19 ⟨rfl,hm19⟩
      replace hm0:=hm0.trans hm19;clear hm19
      refine L.v (R1.pickT rfl rfl) rfl<|L.a rfl rfl<|L.nil<|X.seq<|W.ret<|X.result1 rfl (.tmp rfl .nil) ?_
      exact ⟨rfl,hm0⟩
     simp only [Bool.not_eq_true',Bool.not_eq_false'] at hgd96
     refine L.off rfl rfl rfl rfl rfl<|L.off rfl rfl rfl rfl rfl<|L.v (R1.pickT rfl rfl) rfl<|L.m rfl rfl<|L.callOn rfl rfl rfl rfl (c_known15) rfl ?_
     rintro _ w20 ⟨rfl,hm20⟩
     replace hm0:=hm0.trans hm20;clear hm20
     refine L.v (R1.pickT rfl rfl) rfl<|L.a rfl rfl<|L.nil<|X.seq<|W.ret<|X.result1 rfl (.tmp rfl .nil) ?_
     exact ⟨rfl,hm0⟩
    have hcc_:=hgd33
    refine L.off rfl rfl rfl rfl rfl<|L.off rfl rfl rfl rfl rfl<|L.v (R1.pickT rfl rfl) rfl<|L.nil<|X.seq<|W.condT rfl<|W.seq<|W.region<|L.a rfl rfl<|L.nil<|X.seq ?_
    refine W.ret<|X.thenRet<|X.result1 rfl (.tmp rfl .nil) ?_
    exact ⟨rfl,hm0⟩
   have hcc_:=hgd29
   refine L.off rfl rfl rfl rfl rfl<|L.off rfl rfl rfl rfl rfl<|L.v (R1.pickT rfl rfl) rfl<|L.m rfl rfl<|L.off rfl rfl rfl rfl rfl<|L.off rfl rfl rfl rfl rfl<|L.v (R1.pickT rfl rfl) rfl<|L.nil<|X.seq<|W.condT rfl<|W.seq ?_
   refine W.region<|L.a rfl rfl<|L.nil<|X.seq<|W.ret<|X.thenRet<|X.result1 rfl (.tmp rfl .nil) ?_
   exact ⟨rfl,hm0⟩
  have hcc_:=hgd24
  refine L.off rfl rfl rfl rfl rfl<|L.off rfl rfl rfl rfl rfl<|L.off rfl rfl rfl rfl rfl<|L.v (R1.pickT rfl rfl) rfl<|L.m rfl rfl<|L.off rfl rfl rfl rfl rfl<|L.off rfl rfl rfl rfl rfl<|L.v (R1.pickT rfl rfl) rfl<|L.m rfl rfl<|L.off rfl rfl rfl rfl rfl<|L.off rfl rfl rfl rfl rfl ?_
  refine L.v (R1.pickT rfl rfl) rfl<|L.nil<|X.seq<|W.condT rfl<|W.seq<|W.region<|L.a rfl rfl<|L.nil<|X.seq<|W.ret<|X.thenRet ?_
  refine X.result1 rfl (.tmp rfl .nil) ?_
  exact ⟨rfl,hm0⟩
 have hcc_:=hgd20
 refine L.off rfl rfl rfl rfl rfl<|L.off rfl rfl rfl rfl rfl<|L.v (R1.pickT rfl rfl) rfl<|L.m rfl rfl<|L.off rfl rfl rfl rfl rfl<|L.off rfl rfl rfl rfl rfl<|L.off rfl rfl rfl rfl rfl<|L.v (R1.pickT rfl rfl) rfl<|L.m rfl rfl<|L.off rfl rfl rfl rfl rfl<|L.off rfl rfl rfl rfl rfl ?_
 refine L.v (R1.pickT rfl rfl) rfl<|L.m rfl rfl<|L.off rfl rfl rfl rfl rfl<|L.off rfl rfl rfl rfl rfl<|L.v (R1.pickT rfl rfl) rfl<|L.nil<|X.seq<|W.condT rfl<|W.seq<|W.region<|L.a rfl rfl ?_
 refine L.nil<|X.seq<|W.ret<|X.thenRet<|X.result1 rfl (.tmp rfl .nil) ?_
 exact ⟨rfl,hm0⟩
end Go.Proofs.YtombbkdnehhonaaGreat
end
