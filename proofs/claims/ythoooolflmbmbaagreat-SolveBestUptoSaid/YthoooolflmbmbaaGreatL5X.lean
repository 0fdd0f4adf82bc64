/- Several texts in one. -/
import Derived.Test.YthoooolflmbmbaaGreatG1C
import Derived.Test.YthoooolflmbmbaaGreatL5K
section
namespace Go.Proofs.YthoooolflmbmbaaGreat
open Go.RowKit
set_option linter.unusedVariables false
set_option linter.unusedSimpArgs false
set_option maxRecDepth 10000
section
variable {n:Nat} {cs:List CR} {o:List Int}
def fvec (n:Nat) (c:CR):Vec:=cv n (conT c).1 (conT c).2
theorem co_ne {z:CR} {i:Nat} (hz:isC z (n:Int)=true) (h:i∈vsOf z):coef (conT z).1 i≠0:=by
  obtain ⟨t,ht,rfl⟩:=List.mem_map.1 h;obtain ⟨_,_,h4,_⟩:=isC_spec hz
  have h5:tv t∈(conT z).1:=List.mem_map.2 ⟨t,ht,rfl⟩
  have h6:coef (conT z).1 t.v.toNat=(tv t).2:=h4.coef_mem h5
  rw [h6]
  exact h4.ne _ h5
theorem ts_mem {z:CR} {s:Nat × Rat} (h:s∈(conT z).1):s.1∈vsOf z:=by
  obtain ⟨t,ht,rfl⟩:=List.mem_map.1 h
  exact List.mem_map.2 ⟨t,ht,rfl⟩
theorem sp_terms {L:List Vec} {u:Nat} (hu:u<n):∀ {l:Ts},Nice l→Below n l→(∀ t∈l,t.1≠u→∃ k,Sp L (fun i=>ev1 t.1 i + -1 * kv n k i))→∃ k,Sp L (fun i=>cv n l 0 i + -(coef l u) * ev1 u i + -1 * kv n k i)
  | [],_,_,_=>⟨0,by
      have e:(fun i=>cv n [] 0 i + -(coef [] u) * ev1 u i + -1 * kv n 0 i)=fun _=>(0:Rat):=by
        funext i
        simp only [cv,coef,kv]
        by_cases h:i=n
        · rw [if_pos h]; grind
        rw [if_neg h]; grind
      rw [e]; exact .zero⟩
  | t :: l,hN,hB,h=>by
    obtain ⟨k,hk⟩:=sp_terms hu hN.tail (fun s hs=>hB s (by simp [hs])) (fun s hs=>h s (by simp [hs]))
    have hlow:coef l t.1=0:=coef_low hN.head
    have hc:∀ i,coef (t :: l) i=(if t.1=i then t.2 else coef l i):=fun i=>rfl
    have htn:t.1<n:=hB t (by simp)
    by_cases e:t.1=u
    · refine ⟨k,?_⟩
      have e2:(fun i=>cv n (t :: l) 0 i + -(coef (t :: l) u) * ev1 u i + -1 * kv n k i)=(fun i=>cv n l 0 i + -(coef l u) * ev1 u i + -1 * kv n k i):=by
        funext i
        have h0:coef l u=0:=e ▸ hlow
        simp only [cv,hc,ev1]
        rw [h0,if_pos e]
        by_cases hi:i=n
        · rw [if_pos hi,if_pos hi,if_neg (by omega:¬ i=u)]; grind
        rw [if_neg hi,if_neg hi]
        by_cases h9:i=u
        · rw [if_pos (e.trans h9.symm),if_pos h9,h9,h0]; grind
        rw [if_neg (fun h8=>h9 (h8.symm.trans e)),if_neg h9]; grind
      rw [e2]; exact hk
    obtain ⟨k2,hk2⟩:=h t (by simp) e
    refine ⟨k + t.2 * k2,?_⟩
    have e2:(fun i=>cv n (t :: l) 0 i + -(coef (t :: l) u) * ev1 u i + -1 * kv n (k + t.2 * k2) i)=(fun i=>(cv n l 0 i + -(coef l u) * ev1 u i + -1 * kv n k i) + t.2 * (ev1 t.1 i + -1 * kv n k2 i)):=by
      funext i
      simp only [cv,hc,ev1,kv]
      rw [if_neg e]
      by_cases hi:i=n
      · rw [if_pos hi,if_pos hi,if_pos hi,if_pos hi,if_pos hi,if_neg (by omega:¬ i=t.1)]; grind
      rw [if_neg hi,if_neg hi,if_neg hi,if_neg hi,if_neg hi]
      by_cases h9:t.1=i
      · rw [if_pos h9,if_pos (show i=t.1 from h9.symm),← h9,hlow]; grind
      rw [if_neg h9,if_neg (show ¬ i=t.1 from fun h8=>h9 h8.symm)]; grind
    rw [e2]; exact hk.plus _ hk2
def rqI (cs:List CR) (o:List Int) (i:Nat):List Nat:=(List.range i).filter fun j=>decide ((cs.getD j c0R).st=0∧0≤o.getD j 0)
def rqC (cs:List CR) (o:List Int) (i:Nat):List CR:=(rqI cs o i).map fun j=>cs.getD j c0R
theorem out_ge {j u:Nat} (h:outF o j=some u):0≤o.getD j 0:=by
  have h7:o.getD j 0=(u:Int):=getD_of_get (outF_some.1 h)
  omega
end
theorem forced_wk {n a:Nat} {cs:List CR} {os:List Int} (h3:ChB (n:Int) cs os=true) (ha:a<cs.length) (h:(setZ (n:Int) cs os).getD a 0<0):wkZ n cs (setZ (n:Int) cs os) a []=none:=by
  have hC:=ChoZ.of (chb_set h3);have h1:=hC.idle ha;have h2:=hC.low ha;have hno:=h1.1 (by omega)
  rw [setZ_yes h3] at hno ⊢
  exact setl_idle (ChoZ.of h3).st (ChoZ.of h3).c (by rw [ws_len]; exact ha) hno
theorem sp_all {n:Nat} {L:List Vec} (h1:1≤n) {l:Ts} (hN:Nice l) (hB:Below n l) (h:∀ t∈l,∃ k,Sp L (fun i=>ev1 t.1 i + -1 * kv n k i)):∃ k,Sp L (fun i=>cv n l 0 i + -1 * kv n k i):=by
  obtain ⟨k,hk⟩:=sp_terms (L:=L) (u:=0) (by omega) hN hB (fun t ht _=>h t ht)
  by_cases h0:coef l 0=0
  · refine ⟨k,?_⟩
    have e:(fun i=>cv n l 0 i + -1 * kv n k i)=fun i=>cv n l 0 i + -(coef l 0) * ev1 0 i + -1 * kv n k i:=by funext i; rw [h0]; grind
    rw [e]; exact hk
  obtain ⟨t,ht,e0⟩:∃ t∈l,t.1=0:=Classical.byContradiction fun h9=>h0 (coef_none fun s hs e=>h9 ⟨s,hs,e⟩)
  obtain ⟨k2,hk2⟩:=h t ht
  rw [e0] at hk2
  refine ⟨k + coef l 0 * k2,?_⟩
  have e:(fun i=>cv n l 0 i + -1 * kv n (k + coef l 0 * k2) i)=fun i=>(cv n l 0 i + -(coef l 0) * ev1 0 i + -1 * kv n k i) + coef l 0 * (ev1 0 i + -1 * kv n k2 i):=by
    funext i
    simp only [kv]
    by_cases hi:i=n
    · rw [if_pos hi,if_pos hi,if_pos hi]; grind
    rw [if_neg hi,if_neg hi,if_neg hi]; grind
  rw [e]; exact hk.plus _ hk2
def hB (val:List QR) (c:CR):Bool:=decide (atG val c.ts (QR.val c.k)=0)
def okB (n:Nat) (val:List QR) (c:CR):Bool:=!(isC c (n:Int)) || hB val c
def stC (bs:List QR) (v:Nat):CR:=⟨4,[⟨(v:Int),QR.nf ((1:Int):Rat)⟩],QR.nf (-(valOf bs (v:Int)))⟩
def staysL (bs:List QR) (n:Nat):List CR:=(List.range n).map (stC bs)
theorem stays_succ (bs:List QR) (n:Nat):staysL bs (n + 1)=staysL bs n ++ [stC bs n]:=by simp [staysL,List.range_succ]
theorem stays_len (bs:List QR) (n:Nat):(staysL bs n).length=n:=by simp [staysL]
def bsd (n:Nat) (val:List QR) (c:CR) (al:List CR):List CR:=c :: al.filter (fun o=>decide (o.st≤c.st) && okB n val o)
def Cons (n:Nat) (l:List CR):Prop:=∀ k,Sp (vecs n l) (kv n k)→k=0
def Bt (n:Nat) (val:List QR) (al:List CR) (c:CR):Prop:=okB n val c=false∧Cons n (bsd n val c al)
def BeatR (n:Nat) (val:List QR) (al:List CR) (z:Int):Prop:=(z=-1∧∀ c∈al,¬ Bt n val al c)∨∃ i c,z=((i:Nat):Int)∧al[i]?=some c∧Bt n val al c∧∀ j d,j<i→al[j]?=some d→¬ Bt n val al d
theorem BeatR.uniq {n:Nat} {val:List QR} {al:List CR} {z z':Int} (h:BeatR n val al z) (h':BeatR n val al z'):z=z':=by
  rcases h with ⟨h1,h2⟩ | ⟨i,c,h1,h2,h3,h4⟩ <;> rcases h' with ⟨k1,k2⟩ | ⟨j,d,k1,k2,k3,k4⟩
  · rw [h1,k1]
  · exact absurd k3 (h2 d (List.mem_of_getElem? k2))
  · exact absurd h3 (k2 c (List.mem_of_getElem? h2))
  rcases Nat.lt_trichotomy i j with h5 | h5 | h5
  · exact absurd h3 (k4 i c h5 h2)
  · rw [h1,k1,h5]
  exact absurd k3 (h4 j d h5 k2)
theorem OkS.sub {z0:Int} {t:Nat} {l l':List CR} (h:OkS z0 t l) (hs:∀ c∈l',c∈l):OkS z0 t l':=⟨fun c hc=>h.sm c (hs c hc),fun c hc=>h.ov c (hs c hc),h.bn,h.t1⟩
theorem stay_sm {N:List Nat} {w:World} {vb:Value} {bs:List QR} (hv:Lay rdQ N w vb bs) (hs:∀ q∈bs,SmQ 3 q) (v:Nat):SmC 4 (stC bs v):=by
  have h1:=(valOf_fit hv hs (v:Int)).neg
  refine ⟨by show 1≤4; decide,⟨h1.1,h1.2⟩,fun t ht=>?_⟩
  rw [List.mem_singleton.1 ht]
  have h2:=nf_sm2 (z:=1) (by decide)
  exact ⟨Nat.le_trans h2.1 (by decide),Nat.le_trans h2.2 (by decide)⟩
theorem all_sm {N:List Nat} {w:World} {vb:Value} {bs:List QR} {cs:List CR} {n:Nat} (hv:Lay rdQ N w vb bs) (hs:∀ q∈bs,SmQ 3 q) (hc:∀ c∈cs,SmC 150 c):∀ c∈cs ++ staysL bs n,SmC 150 c:=fun c h=>by
  rcases List.mem_append.1 h with h1 | h1
  · exact hc c h1
  obtain ⟨v,_,rfl⟩:=List.mem_map.1 h1
  exact (stay_sm hv hs v).mono (by decide)
theorem not_own {v:Value} {g:Nat} (h:v.ownBlock≠some g):g ∉ ownL v:=by unfold ownL; simpa using h
def fz (n:Nat) (l:List CR):List (CR × Nat):=l.zipIdx.filter (fun p=>isC p.1 (n:Int))
def fzC (n:Nat) (l:List CR):List CR:=(fz n l).map (·.1)
def fzI (n:Nat) (l:List CR):List Nat:=(fz n l).map (·.2)
theorem fz_snoc (n:Nat) (l:List CR) (z:CR):fz n (l ++ [z])=fz n l ++ (if isC z (n:Int)=true then [(z,l.length)] else []):=by
  unfold fz
  rw [List.zipIdx_append,List.filter_append]
  congr 1
  simp only [List.zipIdx_singleton,List.filter_cons,List.filter_nil,Nat.zero_add]
theorem fz_yes {n:Nat} {l:List CR} {z:CR} (h:isC z (n:Int)=true):fzC n (l ++ [z])=fzC n l ++ [z]∧fzI n (l ++ [z])=fzI n l ++ [l.length]:=by
  unfold fzC fzI; rw [fz_snoc,if_pos h]; simp
theorem fz_no {n:Nat} {l:List CR} {z:CR} (h:isC z (n:Int)=false):fzC n (l ++ [z])=fzC n l∧fzI n (l ++ [z])=fzI n l:=by
  unfold fzC fzI; rw [fz_snoc,if_neg (by rw [h]; decide)]; simp
theorem fz_len (n:Nat) (l:List CR):(fz n l).length≤l.length:=by
  unfold fz; exact Nat.le_trans (List.length_filter_le _ _) (by simp)
theorem take_snoc {α:Type} {l:List α} {i:Nat} {z:α} (hz:l[i]?=some z):l.take (i + 1)=l.take i ++ [z]∧(l.take i).length=i:=by
  obtain ⟨hi,rfl⟩:=List.getElem?_eq_some_iff.1 hz
  exact ⟨List.take_succ_eq_append_getElem hi,by rw [List.length_take]; omega⟩
theorem fzC_filter (n:Nat) (l:List CR):fzC n l=l.filter (fun c=>isC c (n:Int)):=by
  unfold fzC fz
  have key:∀ (l:List CR) (k:Nat),((l.zipIdx k).filter (fun p=>isC p.1 (n:Int))).map (·.1)=l.filter (fun c=>isC c (n:Int)):=fun l=>by
    induction l with
    | nil=>intro k; rfl
    | cons x l ih =>
      intro k
      rw [List.zipIdx_cons]
      by_cases h:isC x (n:Int)=true
      · rw [List.filter_cons_of_pos (by exact h),List.filter_cons_of_pos (by exact h),List.map_cons,ih]
      rw [List.filter_cons_of_neg (by exact h),List.filter_cons_of_neg (by exact h),ih]
  exact key l 0
theorem fz_at {n:Nat} {l:List CR} {i:Nat} {p:CR × Nat} (h:(fz n l)[i]?=some p):l[p.2]?=some p.1∧isC p.1 (n:Int)=true:=by
  have h1:=List.mem_of_getElem? h;obtain ⟨h2,h3⟩:=List.mem_filter.1 h1;obtain ⟨x,k⟩:=p
  have:=List.mem_zipIdx_iff_getElem?.1 h2
  exact ⟨this,h3⟩
theorem fz_sorted (n:Nat) (l:List CR):(fz n l).Pairwise (fun p q=>p.2<q.2):=by
  unfold fz
  apply List.Pairwise.filter
  rw [List.pairwise_iff_getElem]
  intro i j hi hj hij
  simp only [List.getElem_zipIdx]; omega
theorem fz_before {n:Nat} {l:List CR} {i:Nat} {p:CR × Nat} (h:(fz n l)[i]?=some p) {j:Nat} {d:CR} (hj:j<p.2) (hd:l[j]?=some d) (hc:isC d (n:Int)=true):∃ k,k<i∧(fz n l)[k]?=some (d,j):=by
  have h1:(d,j)∈fz n l:=List.mem_filter.2 ⟨List.mem_zipIdx_iff_getElem?.2 hd,hc⟩
  obtain ⟨k,hk,e⟩:=List.mem_iff_getElem.1 h1
  refine ⟨k,?_,by rw [List.getElem?_eq_getElem hk,e]⟩
  obtain ⟨hi,e2⟩:=List.getElem?_eq_some_iff.1 h
  rcases Nat.lt_trichotomy k i with h2 | h2 | h2
  · exact h2
  · subst h2; rw [e] at e2; subst e2; simp at hj
  have h3:=List.pairwise_iff_getElem.1 (fz_sorted n l) i k hi hk h2
  rw [e,e2] at h3; simp only at h3; omega
def bsdF (n:Nat) (val:List QR) (c:CR) (al:List CR):List CR:=c :: al.filter (fun o=>decide (o.st≤c.st) && hB val o)
theorem bsdF_no {n:Nat} {val:List QR} {c z:CR} {al:List CR} {k:Nat} (hz:al[k]?=some z) (h:(decide (z.st≤c.st) && hB val z)=false):bsdF n val c (al.take (k + 1))=bsdF n val c (al.take k):=by
  obtain ⟨hi,rfl⟩:=List.getElem?_eq_some_iff.1 hz
  unfold bsdF
  rw [List.take_succ_eq_append_getElem hi,List.filter_append,List.filter_cons_of_neg (by simp only [h]; decide)]; simp
theorem bsdF_yes {n:Nat} {val:List QR} {c z:CR} {al:List CR} {k:Nat} (hz:al[k]?=some z) (h:(decide (z.st≤c.st) && hB val z)=true):bsdF n val c (al.take (k + 1))=bsdF n val c (al.take k) ++ [z]:=by
  obtain ⟨hi,rfl⟩:=List.getElem?_eq_some_iff.1 hz
  unfold bsdF
  rw [List.take_succ_eq_append_getElem hi,List.filter_append,List.filter_cons_of_pos (by exact h)]; rfl
theorem bsdF_len (n:Nat) (val:List QR) (c:CR) (al:List CR):(bsdF n val c al).length≤al.length + 1:=by
  unfold bsdF; rw [List.length_cons]; exact Nat.succ_le_succ (List.length_filter_le _ _)
theorem bsdF_mem {n:Nat} {val:List QR} {c:CR} {al l:List CR} (hc:c∈l) (hs:∀ o∈al,o∈l):∀ o∈bsdF n val c al,o∈l:=fun o ho=>by
  rcases List.mem_cons.1 ho with rfl | h
  · exact hc
  exact hs o (List.mem_filter.1 h).1
theorem vecs_cons_yes {n:Nat} {c:CR} (l:List CR) (h:isC c (n:Int)=true):vecs n (c :: l)=cv n (conT c).1 (conT c).2 :: vecs n l:=by
  unfold vecs; rw [List.filter_cons_of_pos (by exact h)]; rfl
theorem vecs_congr {n:Nat} {a b:List CR} (h:a.filter (fun c=>isC c (n:Int))=b.filter (fun c=>isC c (n:Int))):vecs n a=vecs n b:=by
  unfold vecs; rw [h]
theorem bsdF_vecs {n:Nat} {val:List QR} {c:CR} (al:List CR) (h:isC c (n:Int)=true):vecs n (bsdF n val c (fzC n al))=vecs n (bsd n val c al):=by
  unfold bsdF bsd
  rw [vecs_cons_yes _ h,vecs_cons_yes _ h]
  congr 1
  apply vecs_congr
  rw [fzC_filter,List.filter_filter,List.filter_filter,List.filter_filter]
  apply List.filter_congr
  intro o _
  unfold okB
  cases isC o (n:Int) <;> simp
theorem Bt_F {n:Nat} {val:List QR} {al:List CR} {c:CR} (h:isC c (n:Int)=true):Bt n val al c↔hB val c=false∧Cons n (bsdF n val c (fzC n al)):=by
  unfold Bt Cons
  rw [bsdF_vecs al h]
  unfold okB; rw [h]; simp
theorem beat_none {n:Nat} {val:List QR} {al:List CR} (h:∀ j p,j<(fz n al).length→(fz n al)[j]?=some p→¬ Bt n val al p.1):∀ c∈al,¬ Bt n val al c:=fun c hc hb=>by
  have h1:isC c (n:Int)=true:=by
    cases h2:isC c (n:Int) with
    | true=>rfl
    | false=>have:=hb.1; unfold okB at this; rw [h2] at this; simp at this
  obtain ⟨i,hi,rfl⟩:=List.mem_iff_getElem.1 hc
  have h2:(al[i],i)∈fz n al:=List.mem_filter.2 ⟨List.mem_zipIdx_iff_getElem?.2 (List.getElem?_eq_getElem hi),h1⟩
  obtain ⟨k,hk,e⟩:=List.mem_iff_getElem.1 h2
  exact h k _ hk (by rw [List.getElem?_eq_getElem hk,e]) hb
theorem beat_some {n:Nat} {val:List QR} {al:List CR} {i:Nat} {p:CR × Nat} (hp:(fz n al)[i]?=some p) (hb:Bt n val al p.1) (h:∀ j q,j<i→(fz n al)[j]?=some q→¬ Bt n val al q.1):BeatR n val al ((p.2:Nat):Int):=by
  refine .inr ⟨p.2,p.1,rfl,(fz_at hp).1,hb,fun j d hj hd hbd=>?_⟩
  have h1:isC d (n:Int)=true:=by
    cases h2:isC d (n:Int) with
    | true=>rfl
    | false=>have:=hbd.1; unfold okB at this; rw [h2] at this; simp at this
  obtain ⟨k,hk,e⟩:=fz_before hp hj hd h1
  exact h k _ hk e hbd
theorem no_step {α:Type} {P:α→Prop} {l:List α} {i:Nat} {z:α} (h:∀ j d,j<i→l[j]?=some d→¬ P d) (hz:l[i]?=some z) (hn:¬ P z):∀ j d,j<i + 1→l[j]?=some d→¬ P d:=fun j d hj hd=>by
  rcases Nat.lt_or_ge j i with h1 | h1
  · exact h j d h1 hd
  have:j=i:=by omega
  subst this
  rw [hz] at hd; injection hd with hd; subst hd; exact hn
theorem stay_isC {n v:Nat} (bs:List QR) (h:v<n):isC (stC bs v) (n:Int)=true:=by
  show (decide ((0:Int)≤4) && (decide ((4:Int)≤4) && ((QR.nf (-(valOf bs (v:Int)))).is && (decide ((0:Int)≤(v:Int)) && (decide ((v:Int)<(n:Int)) && ((QR.nf ((1:Int):Rat)).is && (decide ((QR.nf ((1:Int):Rat)).n.length≠0) && true)))))))=true
  rw [nf_is,nf_is,nf_len (by decide) (by decide),decide_eq_true (show (0:Int)≤(v:Int) by omega),decide_eq_true (show (v:Int)<(n:Int) by omega)]; decide
theorem ints_at {l:List Nat} {i:Nat} {p:Nat} (h:l[i]?=some p) (hi:i<(l.map fun (x:Nat)=>(x:Int)).length):(l.map fun (x:Nat)=>(x:Int))[i]=(p:Int):=by
  obtain ⟨h1,rfl⟩:=List.getElem?_eq_some_iff.1 h
  simp
theorem fzC_at {n:Nat} {l:List CR} {i:Nat} {z:CR} (h:(fzC n l)[i]?=some z):∃ p,(fz n l)[i]?=some p∧p.1=z∧(fzI n l)[i]?=some p.2:=by
  unfold fzC at h
  rw [List.getElem?_map,Option.map_eq_some_iff] at h
  obtain ⟨p,h1,h2⟩:=h
  refine ⟨p,h1,h2,?_⟩
  unfold fzI; rw [List.getElem?_map,h1]; rfl
theorem fz_lens (n:Nat) (l:List CR):(fzC n l).length=(fz n l).length∧(fzI n l).length=(fz n l).length:=by unfold fzC fzI; simp
theorem fzC_sub (n:Nat) (l:List CR):∀ c∈fzC n l,c∈l∧isC c (n:Int)=true:=fun c h=>by
  rw [fzC_filter] at h; exact List.mem_filter.1 h
def valF (val:List QR) (i:Nat):Rat:=valOf val (i:Int)
theorem atG_atT (val:List QR):∀ (l:List TR) (k:Rat),(∀ t∈l,0≤t.v)→atG val l k=atT (valF val) (l.map tv) k
  | [],_,_=>rfl
  | t :: l,k,h=>by
    have h0:=h t (by simp)
    have e:valF val (tv t).1=valOf val t.v:=by unfold valF tv; dsimp only; rw [Int.toNat_of_nonneg h0]
    simp only [atG,List.map_cons,atT]
    rw [atG_atT val l _ (fun s hs=>h s (by simp [hs])),e]; rfl
theorem hB_at {n:Nat} {val:List QR} {c:CR} (h:isC c (n:Int)=true):hB val c=true↔atv n (valF val) (cv n (conT c).1 (conT c).2)=0:=by
  obtain ⟨_,h2,h4,h5⟩:=isC_spec h
  unfold hB
  rw [decide_eq_true_eq,← atT_eq h4 h5,atG_atT val c.ts _ (fun t ht=>(h2 t ht).1)]; rfl
theorem stay_hB {val bs:List QR} {v:Nat}:hB val (stC bs v)=true↔valOf val (v:Int)=valOf bs (v:Int):=by
  unfold hB
  rw [decide_eq_true_eq]
  show atG val [⟨(v:Int),QR.nf ((1:Int):Rat)⟩] (QR.nf (-(valOf bs (v:Int)))).val=0↔_
  simp only [atG,QR.nf_val]
  constructor
  · intro h; grind
  intro h; rw [h]; grind
theorem okB_iff {n:Nat} {val:List QR} {c:CR}:okB n val c=false↔isC c (n:Int)=true∧hB val c=false:=by
  unfold okB; cases isC c (n:Int) <;> simp
theorem mem_al {bs:List QR} {cs:List CR} {n:Nat} {c:CR} (h:c∈cs ++ staysL bs n):c∈cs∨∃ v,v<n∧c=stC bs v:=by
  rcases List.mem_append.1 h with h1 | h1
  · exact .inl h1
  obtain ⟨v,hv,rfl⟩:=List.mem_map.1 h1
  exact .inr ⟨v,by simpa using hv,rfl⟩theorem oks_al {N:List Nat} {w:World} {vb:Value} {bs:List QR} {cs:List CR} {n:Nat} {z0:Int} (hv:Lay rdQ N w vb bs) (hs:∀ q∈bs,SmQ 3 q) (hc:∀ c∈cs,SmC 150 c) (hz:z0≤12):OkS z0 22651 (cs ++ staysL bs n):=oks12 (all_sm hv hs hc) hz
end Go.Proofs.YthoooolflmbmbaaGreat
end
section
namespace Go.Proofs.YthoooolflmbmbaaGreat
open Go.RowKit
set_option linter.unusedVariables false
set_option linter.unusedSimpArgs false
set_option maxRecDepth 10000
section
variable {n:Nat} {cs:List CR} {o:List Int}
theorem best_sp (hC:ChoZ n cs o) {B:Int} {L:List Vec} (hL:∀ j u z,outF o j=some u→cs[j]?=some z→z.st≤B→fvec n z∈L) (hS:∀ u,u<n→who o u=none→4≤B→∃ k,Sp L (fun i=>ev1 u i + -1 * kv n k i)):∀ f u,u<n→hvZ n cs o u<f→strZ n cs o u≤B→∃ k,Sp L (fun i=>ev1 u i + -1 * kv n k i)
  | 0,_,_,hf,_=>absurd hf (Nat.not_lt_zero _)
  | f + 1,u,hu,hf,hs=>by
    cases hw:who o u with
    | none=>exact hS u hu hw (by rw [hC.none_ hw] at hs; exact hs)
    | some j =>
      have hj:=(who_some hC.c.T).1 hw;obtain ⟨z,hz⟩:=hC.at_ (hC.lt hw)
      unfold strZ at hs
      rw [strong_some hC.c hw,fold_le,ws_getD hC.all hz,stS_get hz] at hs
      have P9:=hC.all z (List.mem_of_getElem? hz);obtain ⟨_,_,hN,hBl⟩:=isC_spec P9;obtain ⟨w,h6,h7,_⟩:=hC.c.get hj;have hws:=ws_at hC.all hz
      rw [hws] at h6; injection h6 with h6; subst h6
      have h0:=co_ne P9 h7
      obtain ⟨k,hk⟩:=sp_terms (L:=L) hu hN hBl (fun t ht hne=>best_sp hC hL hS f t.1 (hBl t ht) (by
        have h9:hvZ n cs o t.1<hvZ n cs o u:=hv_lt hC.c hj hws (ts_mem ht) hne
        omega) (hs.2 t.1 (ts_mem ht) hne))
      have h8:=Sp.scale (1 / coef (conT z).1 u) (Sp.sub 1 (Sp.mem (hL j u z hj hz hs.1)) hk)
      refine ⟨-(((conT z).2 + k) / coef (conT z).1 u),?_⟩
      generalize hcc:coef (conT z).1 u=c at *
      have e:(fun i=>ev1 u i + -1 * kv n (-(((conT z).2 + k) / c)) i)=fun i=>(1 / c) * vsub (fvec n z) (fun i=>cv n (conT z).1 0 i + -c * ev1 u i + -1 * kv n k i) 1 i:=by
        funext i
        simp only [vsub,fvec,cv,kv,ev1]
        by_cases hi:i=n
        · rw [if_pos hi,if_pos hi,if_pos hi,if_pos hi,if_neg (by omega:¬ i=u)]; grind
        rw [if_neg hi,if_neg hi,if_neg hi,if_neg hi]; grind
      rw [e]; exact h8
end
theorem str_le4 {n:Nat} {cs:List CR} {o:List Int} (hC:ChoZ n cs o) (v:Nat):strZ n cs o v≤4:=strong_le hC.c (fun s hs=>(hC.st.s s hs).2) v
theorem nv_val {val:List QR} (v:Int):valOf (nvL val) v=valOf val v:=by
  unfold valOf nvL
  split
  · rfl
  rw [List.getElem?_map]
  cases val[v.toNat]? with
  | none=>rfl
  | some q=>exact QR.nf_val _
theorem stay_conT (bs:List QR) (v:Nat):conT (stC bs v)=([(v,((1:Int):Rat))],-(valOf bs (v:Int))):=by
  show ([((v:Int).toNat,(QR.nf ((1:Int):Rat)).val)],(QR.nf (-(valOf bs (v:Int)))).val)=_
  rw [QR.nf_val,QR.nf_val,Int.toNat_natCast]
theorem stay_vec {n v:Nat} (bs:List QR) (hv:v<n):cv n (conT (stC bs v)).1 (conT (stC bs v)).2=fun i=>ev1 v i + -1 * kv n (valOf bs (v:Int)) i:=by
  rw [stay_conT]
  funext i
  simp only [cv,ev1,kv,coef]
  by_cases hi:i=n
  · rw [if_pos hi,if_pos hi,if_neg (by omega:¬ i=v)]; grind
  rw [if_neg hi,if_neg hi]
  by_cases h:v=i
  · rw [if_pos h,if_pos h.symm]; grind
  rw [if_neg h,if_neg (fun h9=>h h9.symm)]; grind
structure Bhd (n:Nat) (cs:List CR) (o:List Int) (val x:List QR):Prop where
  C:ChoZ n cs o
  n1:1≤n
  idle:∀ a z,cs[a]?=some z→outF o a=none→∀ t∈z.ts,strZ n cs o t.v.toNat≤z.st
  told:∀ j u z,outF o j=some u→cs[j]?=some z→hB x z=true
  stay:∀ v,v<n→who o v=none→valOf x (v:Int)=valOf val (v:Int)
theorem Bhd.best {n:Nat} {cs:List CR} {o:List Int} {val x:List QR} (h:Bhd n cs o val x):∀ c∈cs ++ staysL val n,¬ Bt n x (cs ++ staysL val n) c:=fun c hc hbt=>by
  obtain ⟨hic,hno⟩:=okB_iff.1 hbt.1;obtain ⟨_,_,hN,hBl⟩:=isC_spec hic
  have hL0:∀ v∈vecs n ((cs ++ staysL val n).filter fun o=>decide (o.st≤c.st) && okB n x o),atv n (valF x) v=0:=fun v hv=>by
    obtain ⟨d,h2,h3,h4⟩:=vecs_mem.1 hv;obtain ⟨_,h6⟩:=List.mem_filter.1 h2
    simp only [Bool.and_eq_true,decide_eq_true_eq] at h6
    have h7:=h6.2
    unfold okB at h7; rw [h3] at h7
    rw [← h4]; exact (hB_at h3).1 (by simpa using h7)
  have hin:∀ d∈cs ++ staysL val n,isC d (n:Int)=true→hB x d=true→d.st≤c.st→cv n (conT d).1 (conT d).2∈vecs n ((cs ++ staysL val n).filter fun o=>decide (o.st≤c.st) && okB n x o):=fun d h1 h2 h3 h4 =>
    vecs_mem.2 ⟨d,List.mem_filter.2 ⟨h1,by unfold okB; rw [decide_eq_true h4,h2,h3]; rfl⟩,h2,rfl⟩
  have hall:∀ t∈c.ts,strZ n cs o t.v.toNat≤c.st:=by
    rcases mem_al hc with h1 | ⟨v,hv,rfl⟩
    · obtain ⟨a,ha⟩:=List.getElem?_of_mem h1
      cases ho:outF o a with
      | none=>exact h.idle a c ha ho
      | some u=>rw [h.told a u c ho ha] at hno; cases hno
    exact fun t _=>str_le4 h.C _
  have hvr:∀ t∈c.ts,t.v.toNat<n:=fun t ht=>hBl (tv t) (List.mem_map.2 ⟨t,ht,rfl⟩)
  obtain ⟨k,hk⟩:=sp_all (L:=vecs n ((cs ++ staysL val n).filter fun o=>decide (o.st≤c.st) && okB n x o)) h.n1 hN hBl (fun s hs=>by
    obtain ⟨t,ht,rfl⟩:=List.mem_map.1 hs
    refine best_sp h.C (B:=c.st) (fun j u z hj hz hle=>?_) (fun u hu hw h4=>⟨valOf val (u:Int),?_⟩) _ t.v.toNat (hvr t ht) (Nat.lt_succ_self _) (hall t ht)
    · exact hin z (by simp [List.mem_of_getElem? hz]) (h.C.all z (List.mem_of_getElem? hz)) (h.told j u z hj hz) hle
    rw [← stay_vec val hu]
    exact Sp.mem (hin (stC val u) (List.mem_append_right _ (List.mem_map.2 ⟨u,by simpa using hu,rfl⟩)) (stay_isC val hu) (stay_hB.2 (h.stay u hu hw)) h4))
  have e:cv n (conT c).1 (conT c).2=fun i=>(cv n (conT c).1 0 i + -1 * kv n k i) + 1 * kv n ((conT c).2 + k) i:=by
    funext i
    simp only [cv,kv]
    by_cases hi:i=n
    · rw [if_pos hi,if_pos hi,if_pos hi,if_pos hi]; grind
    rw [if_neg hi,if_neg hi,if_neg hi,if_neg hi]; grind
  have hk0:(conT c).2 + k=0:=hbt.2 _ (by
    have h1:Sp (vecs n (bsd n x c (cs ++ staysL val n))) (cv n (conT c).1 (conT c).2):=Sp.mem (vecs_mem.2 ⟨c,List.mem_cons_self,hic,rfl⟩)
    have h2:Sp (vecs n (bsd n x c (cs ++ staysL val n))) (fun i=>cv n (conT c).1 0 i + -1 * kv n k i):=hk.mono fun v hv=>by
      obtain ⟨d,h2,h3,h4⟩:=vecs_mem.1 hv
      exact vecs_mem.2 ⟨d,List.mem_cons_of_mem _ h2,h3,h4⟩
    have h3:=Sp.sub 1 h1 h2
    have e2:vsub (cv n (conT c).1 (conT c).2) (fun i=>cv n (conT c).1 0 i + -1 * kv n k i) 1=kv n ((conT c).2 + k):=by
      funext i
      simp only [vsub,cv,kv]
      by_cases hi:i=n
      · simp only [if_pos hi]; grind
      simp only [if_neg hi]; grind
    rw [e2] at h3; exact h3)
  have h0:=Sp.at_ hL0 hk
  have h1:atv n (valF x) (cv n (conT c).1 (conT c).2)=0:=by
    rw [e,atv_add,h0,atv_kv,hk0]; grind
  rw [(hB_at hic).2 h1] at hno; cases hno
theorem Bhd.of {cs:List CR} {os:List Int} {val:List QR} (h:(phZ cs os val).2.2=0):Bhd val.length cs (setZ (val.length:Int) cs os) val (phZ cs os val).1.2:=by
  obtain ⟨h1,h2,h3,h4,h5,h6⟩:=phZ_ok h;have hC:=ChoZ.of (chb_set h3)
  rw [h6]
  refine ⟨hC,h1.1,fun a z hz ho=>?_,fun j u z hj hz=>?_,fun v hv hw=>?_⟩
  · have ha:=(List.getElem?_eq_some_iff.1 hz).1
    refine (hC.wk_no hz).1 (forced_wk h3 ha ?_)
    have:=(hC.idle ha).2 ho; omega
  · have hj9:=(List.getElem?_eq_some_iff.1 hz).1
    have h7:=run_holds h5 hj9 (out_ge hj)
    rw [getD_of_get hz] at h7
    unfold hB; exact decide_eq_true h7
  have h7:=run_stays h5 (v:=v) (fun i hi e=>(who_none hC.c.T).1 hw i (outF_some.2 (by rw [← e,List.getD_eq_getElem?_getD,List.getElem?_eq_getElem (by rw [hC.len]; exact hi)]; rfl)))
  rw [← nv_val (val:=val)]
  unfold valOf
  rw [Int.toNat_natCast,h7]
theorem best_len {cs:List CR} {os:List Int} {val:List QR} (h:(phZ cs os val).2.2=0):(phZ cs os val).1.2.length=val.length:=by
  obtain ⟨_,_,_,_,h5,h6⟩:=phZ_ok h
  rw [h6]; exact run_len h5
theorem best_beat {cs:List CR} {os:List Int} {val:List QR} (h:(phZ cs os val).2.2=0) {z:Int} (hb:BeatR val.length (phZ cs os val).1.2 (cs ++ staysL val val.length) z):z=-1 :=
  hb.uniq (.inl ⟨rfl,(Bhd.of h).best⟩)
theorem best_req {cs:List CR} {os:List Int} {val:List QR} (h:(phZ cs os val).2.2=0) {i:Nat} {c:CR} (hc:cs[i]?=some c) (hs:c.st=0):hB (phZ cs os val).1.2 c=true:=by
  obtain ⟨h1,h2,h3,h4,h5,h6⟩:=phZ_ok h;have hi:=(List.getElem?_eq_some_iff.1 hc).1;have hC:=ChoZ.of (chb_set h3)
  cases ho:outF (setZ (val.length:Int) cs os) i with
  | some u=>exact (Bhd.of h).told i u c ho hc
  | none =>
    have h7:badB cs (setZ (val.length:Int) cs os) i=false:=by
      have h8:=List.find?_eq_none.1 (show (List.range cs.length).find? _=none from h4) i (by simpa using hi)
      simpa using h8
    have h9:=(hC.idle hi).2 ho
    unfold badB at h7
    rw [getD_of_get hc,decide_eq_true hs,decide_eq_true (by omega:(setZ (val.length:Int) cs os).getD i 0<0)] at h7
    have h10:emptyB c=true:=by simpa using h7
    unfold emptyB at h10
    simp only [Bool.and_eq_true,decide_eq_true_eq] at h10
    unfold hB
    rw [List.length_eq_zero_iff.1 h10.1]
    exact decide_eq_true h10.2
end Go.Proofs.YthoooolflmbmbaaGreat
end
