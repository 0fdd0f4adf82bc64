/- Several texts in one. -/
import Derived.Test.YthoooolflmbmbaaGreatNorm
import Derived.Test.YthoooolflmbmbaaGreatSoC
import Derived.Test.YthoooolflmbmbaaGreatRefE
import Derived.Test.YthoooolflmbmbaaGreatSzA
section
namespace Go.Proofs.YthoooolflmbmbaaGreat
open Go.RowKit
set_option linter.unusedVariables false
set_option linter.unusedSimpArgs false
set_option maxRecDepth 10000
theorem own_lay {α:Type} {R:Rd α} {M N:List Nat} {w w0:World} {el:Nat} {v:Value} {xs:List α} {css:List (List Value)} (hbd:Bd M w0) (h:w.ownsRow w0.heap.size el R.size v xs.length css.flatten) (hl:LayL R N w css xs) (hs:∀ g∈M,g∈N):Lay R M w v xs :=
  Lay.of_own h (hl.sub hs) (fun g hg=>hbd.not (own_ge h g hg).1)
def heldG (z:Int):Nat:=(min (max z 0) 64).toNat
structure OkT (c:Ts × Rat):Prop where
  nice:Nice c.1
  fit:∀ x∈c.1,Fit x.2 17179869184
  fk:Fit c.2 17179869184
  len:c.1.length≤17179869184
def updT (rs:List (Ts × Rat)) (d:Ts × Rat) (i:Nat):List (Ts × Rat):=(rs.take i).map (fun r=>lessT r.1 r.2 d.1 d.2) ++ rs.drop i
theorem own_read {α:Type} {R:Rd α} {N:List Nat} {w:World} {B el:Nat} {v:Value} {xs:List α} {css:List (List Value)} (h:w.ownsRow B el R.size v xs.length css.flatten) (hl:LayL R N w css xs):Lay R [] w v xs:=Lay.of_own h (hl.sub (by simp)) (by simp)
theorem nice_len {n:Nat} {l:Ts} (h:Nice l) (hb:Below n l):l.length≤n:=by
  have:=nodup_le (xs:=l.map (·.1)) (ys:=List.range n) (by
    rw [List.Nodup,List.pairwise_map]
    exact h.up.imp (fun h1 h2=>by omega)) (fun p hp=>by
    obtain ⟨r,hr,e⟩:=List.mem_map.1 hp
    have:=hb r hr
    simp only [List.mem_range]; omega)
  simpa using this
theorem Reps.of_mem {n S:Nat}:∀ {rs:List (Ts × Rat)} {R:List Row},Reps n S rs R→∀ {x:Ts × Rat},x∈rs→∃ r∈R,Rep n S x r
  | _,_,.cons h1 h2,x,hx=>by
    rcases List.mem_cons.1 hx with rfl | h3
    · exact ⟨_,by simp,h1⟩
    obtain ⟨r,h4,h5⟩:=h2.of_mem h3; exact ⟨r,by simp [h4],h5⟩
theorem PInv.row_ok {n t:Nat} {L:List Vec} {rs:List (Ts × Rat)} {ok:Bool} (h:PInv n t L rs ok) (hn:n≤64) (hb:4 * bnd t n + 4 * t + 8≤17179869184):∀ r∈rs,OkT r∧r.1≠[]:=fun x hx=>by
  obtain ⟨R,D,h1,h2,h3⟩:=h;obtain ⟨r,hr,h4⟩:=h1.of_mem hx
  obtain ⟨f,rest,e,hp⟩:=h4.first
  obtain ⟨y,hy,hv⟩:=h4.mul;have hl:=h2.good.lead r hr;have hlt:=hl.lt;have hT:=bnd_mono (t:=t) h2.rank_n;have hov:=h3.ov r hr
  have hft:∀ i,Fit (r.v i) (bnd t n):=fun i=>by
    obtain ⟨z,h5,h6⟩:=hov i
    exact (Fit.ov h5 h3.pos h3.lt h6).mono hT
  have hyf:y=f.2:=by
    have h5:=hv r.p
    simp only [cv] at h5
    have h6:=h4.nice
    rw [e] at h5 h6
    rw [if_neg (by omega),hl.one,hp,h6.first.1] at h5
    rw [h5]; grind
  have hF:Fit y (t + bnd t n + 1):=hyf ▸ h4.sz f rest e
  have hall:∀ i,Fit (cv n x.1 x.2 i) 17179869184:=fun i=>by
    rw [hv i]; exact (hF.mul (hft i)).mono (by omega)
  refine ⟨⟨h4.nice,fun z hz=>?_,?_,?_⟩,by rw [e]; simp⟩
  · have h5:=hall z.1
    have:=h4.below z hz
    simp only [cv] at h5
    rw [if_neg (by omega),h4.nice.coef_mem hz] at h5
    exact h5
  · have h5:=hall n
    simp only [cv,if_true] at h5
    exact h5
  have:=nice_len h4.nice h4.below; omega
def conT (c:CR):Ts × Rat:=(c.ts.map tv,c.k.val)
theorem isT_spec {n:Int}:∀ {ts:List TR} {least:Int},isT n least ts=true→(∀ t∈ts,least≤t.v∧t.v<n∧t.c.is=true∧t.c.n.length≠0)∧ts.Pairwise (fun s t=>s.v<t.v)
  | [],_,_=>⟨by simp,List.Pairwise.nil⟩
  | t :: r,least,h=>by
    simp only [isT,Bool.and_eq_true,decide_eq_true_eq] at h
    obtain ⟨h1,h2,h3,h4,h5⟩:=h;obtain ⟨h6,h7⟩:=isT_spec h5
    refine ⟨fun x hx=>?_,List.pairwise_cons.2 ⟨fun x hx=>by have:=(h6 x hx).1; omega,h7⟩⟩
    rcases List.mem_cons.1 hx with rfl | h8
    · exact ⟨h1,h2,h3,h4⟩
    have:=h6 x h8; exact ⟨by omega,this.2⟩
theorem isC_spec {c:CR} {n:Nat} (h:isC c (n:Int)=true):c.k.is=true∧(∀ t∈c.ts,0≤t.v∧t.c.is=true)∧Nice (conT c).1∧Below n (conT c).1:=by
  simp only [isC,Bool.and_eq_true,decide_eq_true_eq] at h
  obtain ⟨_,_,h3,h4⟩:=h;obtain ⟨h5,h6⟩:=isT_spec h4
  refine ⟨h3,fun t ht=>⟨(h5 t ht).1,(h5 t ht).2.2.1⟩,⟨?_,fun x hx=>?_⟩,fun x hx=>?_⟩
  · show (c.ts.map tv).Pairwise _
    rw [List.pairwise_map]
    refine h6.imp_of_mem (fun {s t} hs ht hst=>?_)
    have:=h5 s hs; have:=h5 t ht
    simp only [tv]; omega
  · obtain ⟨t,ht,rfl⟩:=List.mem_map.1 hx
    have h7:=h5 t ht
    intro h8
    have h9:=QR.is_nf h7.2.2.1
    apply h7.2.2.2
    have h8:t.c.val=0:=h8
    rw [h9,h8]
    show (toL (0:Rat).num.natAbs).length=0
    rw [show (0:Rat).num=0 from rfl]; simp [toL_zero]
  obtain ⟨t,ht,rfl⟩:=List.mem_map.1 hx;have h7:=h5 t ht
  simp only [tv]; omega
def vecs (n:Nat) (cs:List CR):List Vec:=(cs.filter fun c=>isC c (n:Int)).map fun c=>cv n (conT c).1 (conT c).2
theorem vecs_yes {n:Nat} {cs:List CR} {i:Nat} {z:CR} (hz:cs[i]?=some z) (h:isC z (n:Int)=true):vecs n (cs.take (i + 1))=vecs n (cs.take i) ++ [cv n (conT z).1 (conT z).2]:=by
  obtain ⟨hi,rfl⟩:=List.getElem?_eq_some_iff.1 hz
  unfold vecs
  rw [List.take_succ_eq_append_getElem hi,List.filter_append,List.map_append,List.filter_cons_of_pos (by exact h)]; rfl
theorem vecs_no {n:Nat} {cs:List CR} {i:Nat} {z:CR} (hz:cs[i]?=some z) (h:isC z (n:Int)=false):vecs n (cs.take (i + 1))=vecs n (cs.take i):=by
  obtain ⟨hi,rfl⟩:=List.getElem?_eq_some_iff.1 hz
  unfold vecs
  rw [List.take_succ_eq_append_getElem hi,List.filter_append,List.map_append,List.filter_cons_of_neg (by simp [h])]; simp
def OvC (n t:Nat) (c:Ts × Rat):Prop:=∃ d,0<d∧d<4294967296 ^ t∧Ov d t (cv n c.1 c.2)
theorem Lay.laid {α:Type} {R:Rd α} {N G:List Nat} {w w':World} {u u' v:Value} {xs:List α} (h:Lay R N w v xs) (hm:Mod G w w') (hg:∀ g∈G,g∈N) (hu:∀ g∈ownL u,g∈N) (hpr:∀ g,u'.ownBlock=some g→u.ownBlock=some g∨w.heap.size≤g):Lay R (ownL u' ++ N) w' v xs:=by
  cases e:u'.ownBlock with
  | none=>rw [show ownL u'=[] by unfold ownL; rw [e]; rfl]; exact h.mod hm hg
  | some g =>
    rw [show ownL u'=[g] by unfold ownL; rw [e]; rfl]
    rcases hpr g e with h1 | h1
    · exact (h.mod hm hg).sub (fun b hb=>by
        rcases List.mem_append.1 hb with h2 | h2
        · rw [List.mem_singleton.1 h2]; exact hu g (by unfold ownL; rw [h1]; simp)
        exact h2)
    exact (h.more h1).mod hm (fun b hb=>List.mem_cons_of_mem _ (hg b hb))
theorem Bd.laid {N G:List Nat} {w w':World} {u':Value} {B el s k:Nat} {xs:List Value} (h:Bd N w) (hm:Mod G w w') (ho:w'.ownsRow B el s u' k xs):Bd (ownL u' ++ N) w':=fun m hh=>by
  rcases List.mem_append.1 hh with h1 | h1
  · unfold ownL at h1; exact (own_ge ho m (by simpa using h1)).2
  exact Nat.lt_of_lt_of_le (h m h1) hm.size
theorem heldG_le (z:Int):heldG z≤64:=by unfold heldG; omega
def Srow (RW:Nat) (M:List Nat) (w w':World) (z0:Int) (t:Nat) (cs:List CR) (gR:Nat) (vR:Value) (rs:List (Ts × Rat)) (ok:Bool):Prop :=
  w.heap.size≤gR∧Blk w' gR RW #[vR,.bool ok]∧Lay rdK M w' vR rs∧PInv (heldG z0) t (vecs (heldG z0) cs) rs ok∧rs.length≤(vecs (heldG z0) cs).length
structure OkS (z0:Int) (t:Nat) (cs:List CR):Prop where
  sm:∀ c∈cs,SmC 1099511627776 c
  ov:∀ c∈cs,isC c (heldG z0:Int)=true→OvC (heldG z0) t (conT c)
  bn:4 * bnd t (heldG z0) + 4 * t + 8≤17179869184
  t1:1≤t
theorem OkS.step {z0:Int} {t:Nat} {cs:List CR} {L:List Vec} {rs:List (Ts × Rat)} {ok:Bool} (hP:PInv (heldG z0) t L rs ok) {c:CR} (hc:isC c (heldG z0:Int)=true) (hv:OvC (heldG z0) t (conT c)):PInv (heldG z0) t (L ++ [cv (heldG z0) (conT c).1 (conT c).2]) (laysT rs ok ((conT c).1,(conT c).2)).1 (laysT rs ok ((conT c).1,(conT c).2)).2:=by
  obtain ⟨d,h1,h2,h3⟩:=hv;obtain ⟨_,_,h4,h5⟩:=isC_spec hc
  exact hP.step (heldG_le z0) h4 h5 h1 h2 h3
theorem PInv.len {n t:Nat} {L:List Vec} {rs:List (Ts × Rat)} {ok:Bool} (h:PInv n t L rs ok) (hn:n≤64):rs.length≤64:=by
  obtain ⟨R,h1,h2⟩:=h.rank
  have:=h1.rank_n; omega
def impT (z0:Int) (rs:List (Ts × Rat)) (ok:Bool) (c:CR):Bool:=!ok || (isC c (heldG z0:Int) && (decide ((leftT rs (conT c)).1.length=0) && decide ((leftT rs (conT c)).2=0)))
def fixT (z0 v:Int) (rs:List (Ts × Rat)) (ok:Bool):Option Rat:=if ok=true∧0≤v∧v<(heldG z0:Int)∧(leftT rs ([(v.toNat,1)],0)).1.length=0 then some (leftT rs ([(v.toNat,1)],0)).2 else none
def RV (M:List Nat) (w:World) (v:Value) (q:Rat):Prop:=∃ s A a B b xs ys,v=.agg #[.bool s,.slice A xs.length a,.slice B ys.length b]∧U32 M w (.slice A xs.length a) xs∧U32 M w (.slice B ys.length b) ys∧rv s (val xs) (val ys)=q∧xs.length≤17179869184∧ys.length≤17179869184
theorem RV.zero {M:List Nat} {w:World}:RV M w (.agg #[.bool false,.slice none 0 0,.slice none 0 0]) 0:=⟨false,none,0,none,0,[],[],rfl,U32.nil,U32.nil,by rw [show val ([]:List Nat)=0 from rfl,rv_d0],by decide,by decide⟩
theorem RV.of {M:List Nat} {w:World} {A B:Option Addr} {a b:Nat} {q:Rat} (h1:U32 M w (.slice A (toL q.num.natAbs).length a) (toL q.num.natAbs)) (h2:U32 M w (.slice B (toL q.den).length b) (toL q.den)) (hf:Fit q 17179869184):RV M w (.agg #[.bool (decide (q.num<0)),.slice A (toL q.num.natAbs).length a,.slice B (toL q.den).length b]) q :=
  ⟨_,A,a,B,b,_,_,rfl,h1,h2,rv_toL q,hf.1,hf.2⟩
def FitL (a:List Rat):Prop:=∀ x∈a,Fit x 17179869184
def rowD (n:Nat) (c:Ts × Rat):List Rat:=(List.range (n + 1)).map (cv n c.1 c.2)
def upd {α:Type} (f:α→α) (l:List α) (j:Nat):List α:=(l.take j).map f ++ l.drop j
section
variable {α:Type} {f:α→α} {l:List α} {j:Nat} {z:α}
theorem upd_length (f:α→α) (l:List α) (j:Nat):(upd f l j).length=l.length:=by unfold upd; simp; omega
theorem upd_get (hi:j<l.length):(upd f l j)[j]?=l[j]?:=by
  unfold upd
  rw [List.getElem?_append_right (by simp; omega),List.getElem?_drop]
  congr 1; simp; omega
theorem upd_set (hz:l[j]?=some z):(upd f l j).set j (f z)=upd f l (j + 1):=by
  obtain ⟨hi,rfl⟩:=List.getElem?_eq_some_iff.1 hz
  unfold upd
  have h1:((l.take j).map f).length=j:=by simp; omega
  rw [List.set_append_right _ _ (by omega),h1,Nat.sub_self,List.drop_eq_getElem_cons hi,List.set_cons_zero,List.take_succ_eq_append_getElem hi,List.map_append]
  simp
theorem upd_same (hz:l[j]?=some z) (h:f z=z):upd f l j=upd f l (j + 1):=by
  rw [← upd_set hz,h]
  have hi:j<l.length:=(List.getElem?_eq_some_iff.1 hz).1
  apply List.ext_getElem?
  intro i
  rw [List.getElem?_set]
  split
  · rename_i e; subst e
    rw [if_pos (by rw [upd_length]; exact hi),upd_get hi,hz]
  rfl
theorem upd_all (f:α→α) (l:List α):upd f l l.length=l.map f:=by unfold upd; simp
theorem upd_zero (f:α→α) (l:List α):upd f l 0=l:=by unfold upd; simp
end
theorem rowD_length (n:Nat) (c:Ts × Rat):(rowD n c).length=n + 1:=by simp [rowD]
theorem rowD_dv {n:Nat} {c:Ts × Rat} (h:Below n c.1):dv (rowD n c)=cv n c.1 c.2:=by
  funext i
  simp only [dv,rowD]
  rcases Nat.lt_or_ge i (n + 1) with h1 | h1
  · rw [List.getD_eq_getElem?_getD,List.getElem?_map,List.getElem?_range h1]; rfl
  rw [List.getD_eq_getElem?_getD,List.getElem?_eq_none (by simpa using h1)]
  simp only [cv]
  rw [if_neg (by omega),coef_none (fun s hs=>by have:=h s hs; omega)]; rfl
def rowP (n:Nat) (l:Ts):List Rat:=(List.range (n + 1)).map (coef l)
theorem rowP_length (n:Nat) (l:Ts):(rowP n l).length=n + 1:=by simp [rowP]
theorem rowP_nil (n:Nat):rowP n []=List.replicate (n + 1) 0:=by
  unfold rowP
  apply List.ext_getElem?
  intro i
  rw [List.getElem?_map,List.getElem?_replicate]
  split
  · rename_i h; rw [List.getElem?_range h]; rfl
  rename_i h; rw [List.getElem?_eq_none (by simpa using h)]; rfl
theorem coef_snoc {l:Ts} (x:Nat × Rat) (h:∀ s∈l,s.1≠x.1) (i:Nat):coef (l ++ [x]) i=if i=x.1 then x.2 else coef l i:=by
  induction l with
  | nil=>simp only [List.nil_append,coef]; by_cases e:x.1=i <;> simp [e]; intro e2; exact absurd e2.symm e
  | cons t l ih =>
    simp only [List.cons_append,coef]
    have h1:=h t (by simp)
    by_cases e:t.1=i
    · rw [if_pos e,if_pos e,if_neg (by omega)]
    rw [if_neg e,if_neg e,ih (fun s hs=>h s (by simp [hs]))]
theorem rowP_set {n:Nat} {l:Ts} (hl:Nice l) {i:Nat} {x:Nat × Rat} (hx:l[i]?=some x) (hn:x.1<n):(rowP n (l.take i)).set x.1 x.2=rowP n (l.take (i + 1)):=by
  obtain ⟨hi,rfl⟩:=List.getElem?_eq_some_iff.1 hx
  rw [List.take_succ_eq_append_getElem hi]
  have hne:∀ s∈l.take i,s.1≠l[i].1:=fun s hs e=>by
    obtain ⟨j,hj,rfl⟩:=List.mem_iff_getElem.1 hs
    have hji:j<i:=by simp at hj; omega
    have h2:=List.pairwise_iff_getElem.1 hl.up j i (by omega) hi hji
    rw [List.getElem_take] at e; omega
  unfold rowP
  apply List.ext_getElem?
  intro j
  rw [List.getElem?_set,List.getElem?_map,List.getElem?_map]
  split
  · rename_i e; subst e
    rw [if_pos (by simp; omega),List.getElem?_range (by omega)]
    simp only [Option.map_some]
    rw [coef_snoc _ hne,if_pos rfl]
  rename_i e
  rcases Nat.lt_or_ge j (n + 1) with h1 | h1
  · rw [List.getElem?_range h1]
    simp only [Option.map_some]
    rw [coef_snoc _ hne,if_neg (fun h=>e h.symm)]
  rw [List.getElem?_eq_none (by simpa using h1)]; rfl
theorem rowP_end {n:Nat} {l:Ts} {k:Rat}:(rowP n l).set n k=rowD n (l,k):=by
  unfold rowP rowD
  apply List.ext_getElem?
  intro j
  rw [List.getElem?_set,List.getElem?_map,List.getElem?_map]
  split
  · rename_i e; subst e
    rw [if_pos (by simp),List.getElem?_range (by omega)]
    simp [cv]
  rename_i e
  rcases Nat.lt_or_ge j (n + 1) with h1 | h1
  · rw [List.getElem?_range h1]
    simp only [Option.map_some,cv]
    rw [if_neg (fun h=>e h.symm)]
  rw [List.getElem?_eq_none (by simpa using h1)]; rfl
theorem rep_snoc (i:Nat):List.replicate i (0:Rat) ++ [((0:Int):Rat)]=List.replicate (i + 1) 0:=by
  rw [show (((0:Int)):Rat)=0 from rfl]; exact (List.replicate_succ').symm
theorem lessD_snoc {a b:List Rat} {x y z:Rat} {i:Nat} (h1:a[i]?=some y) (h2:b[i]?=some z):(lessD a b x).take i ++ [y - x * z]=(lessD a b x).take (i + 1):=by
  have hi:i<a.length:=(List.getElem?_eq_some_iff.1 h1).1
  have hl:i<(lessD a b x).length:=by rw [lessD_length]; exact hi
  rw [List.take_succ_eq_append_getElem hl]
  have e:(lessD a b x)[i]=y - x * z:=by
    simp only [lessD,List.getElem_map,List.getElem_range,List.getD_eq_getElem?_getD,h1,h2,Option.getD_some]
  rw [e]
theorem lead_stop {a:List Rat} {i:Nat} (h0:∀ j,j<i→a.getD j 0=0) (hi:i<a.length) (h:¬ i + 1<a.length∨a.getD i 0≠0):leadD a=i:=by
  have hs:=leadD_spec (l:=a) (by intro e; rw [e] at hi; simp at hi)
  rcases Nat.lt_trichotomy (leadD a) i with h1 | h1 | h1
  · exact absurd (h0 _ h1) (hs.2.2 (by omega))
  · exact h1
  rcases h with h2 | h2
  · omega
  exact absurd (hs.2.1 i h1) h2
theorem getD_of {a:List Rat} {i:Nat} {z:Rat} (h:a[i]?=some z):a.getD i 0=z:=by rw [List.getD_eq_getElem?_getD,h]; rfl
theorem reduceD_app:∀ (r s:List (List Rat)) (a:List Rat),reduceD (r ++ s) a=reduceD s (reduceD r a)
  | [],_,_=>rfl
  | x :: r,s,a=>by simp only [List.cons_append,reduceD]; rw [reduceD_app r s]
theorem reduceD_snoc {rs:List (List Rat)} {i:Nat} {z:List Rat} (hz:rs[i]?=some z) (a:List Rat):reduceD (rs.take (i + 1)) a=if (reduceD (rs.take i) a).getD (leadD z) 0=0 then reduceD (rs.take i) a else lessD (reduceD (rs.take i) a) z ((reduceD (rs.take i) a).getD (leadD z) 0):=by
  obtain ⟨hi,rfl⟩:=List.getElem?_eq_some_iff.1 hz
  rw [List.take_succ_eq_append_getElem hi,reduceD_app]; rfl
theorem fillP1 (s:Bool) (A:Option Addr) (n c:Nat) (B:Option Addr) (m d:Nat):Instr.fill (fun i=>some (i * 3,3)) ((Array.range (1 * 3)).map ((Value.agg #[.bool false,.slice none 0 0,.slice none 0 0]).cells[· % (Value.agg #[.bool false,.slice none 0 0,.slice none 0 0]).cells.size]!)) [(0,.agg #[.bool s,.slice A n c,.slice B m d])]=some #[.bool s,.slice A n c,.slice B m d]:=by kernel_rfl
set_option maxHeartbeats 1000000 in
theorem c_row {M : List Nat} {w : World} {c : CR} {vt vn vd : Value} {n : Nat} (ht : Lay rdT M w vt c.ts) (h : U32 M w vn c.k.n) (k : U32 M w vd c.k.d) (hbd : Bd M w) (hn : n ≤ 64) (hC : isC c (n : Int) = true) (hln : c.ts.length ≤ 1099511627776) :
    Ret Tryz.prog 98 #[.agg #[.int .i64 c.st,vt,.bool c.k.s,vn,vd],.int .i64 (n:Int)] w (fun r w'=>∃ css,w'.ownsRow w.heap.size 40 3 r (rowD n (conT c)).length css.flatten∧LayL rdP (ownL r ++ M) w' css (rowD n (conT c))∧Mod [] w w'):=by
 obtain ⟨T9,t9,rfl⟩:=ht.form;obtain ⟨A9,c9,rfl⟩:=h.form;obtain ⟨B9,e9,rfl⟩:=k.form;obtain ⟨hk1,hts,hN,hB⟩:=isC_spec hC
 have hlc:(conT c).1.length=c.ts.length:=by simp [conT]
 refine Ret.of (vs:=[.agg #[.int .i64 c.st,.slice T9 c.ts.length t9,.bool c.k.s,.slice A9 c.k.n.length c9,.slice B9 c.k.d.length e9],.int .i64 (n:Int)]) (n:=44) Tryz.func98 rfl rfl rfl rfl ?_
 have C0:Mod [] w w:=Mod.refl _ _
 refine W.sr<|L.box rfl rfl ?_
 intro g2 w1 D2
 replace ht:=ht.new D2;replace h:=h.new D2;replace k:=k.new D2;replace hbd:=hbd.new D2;replace C0:=C0.tn D2;have E2:=D2.blk;clear D2
 refine L.b rfl<|L.z<|W.sr<|L.b rfl<|L.z<|W.seq<|W.seq<|W.region ?_
 refine L.b rfl<|L.z<|W.block<|W.loop (ι:=Nat × Value × List (List Value)) (fun (i,u,css)=>[(1,.int .i64 (n:Int)),(2,.pointer (some ⟨g2,0,none⟩)),(5,u),(6,.int .i64 (i:Int))]) (fun (i,u,css) w_=>Lay rdT (ownL u ++ M) w_ (.slice T9 c.ts.length t9) c.ts∧U32 (ownL u ++ M) w_ (.slice A9 c.k.n.length c9) c.k.n∧U32 (ownL u ++ M) w_ (.slice B9 c.k.d.length e9) c.k.d∧Blk w_ g2 42 #[.int .i64 c.st,.slice T9 c.ts.length t9,.bool c.k.s,.slice A9 c.k.n.length c9,.slice B9 c.k.d.length e9]∧u.ownBlock≠some g2∧w_.ownsRow w.heap.size 40 3 u (List.replicate i (0:Rat)).length css.flatten∧LayL rdP (ownL u ++ M) w_ css (List.replicate i (0:Rat))∧Bd (ownL u ++ M) w_∧Mod [] w w_∧i≤n + 1) (fun (i,u,css)=>n + 1 - i) (0,.slice none 0 0,[]) ?_ ?_ ?_
 · repeat' constructor
 ·
  exact ⟨ht.su,h.su,k.su,E2,(fun h=>by cases h),own_nil _ _ _ _,LayL.nil,hbd.su,C0,Nat.zero_le _⟩
 rintro ⟨i,u,css⟩ w2 ⟨ht,h,k,E2,hno_ho_g2,ho,hl,hbd,C0,hi⟩
 have hrl:(List.replicate i (0:Rat)).length=i:=List.length_replicate
 refine W.seq<|W.sr<|L.k rfl<|L.k rfl<|L.v ((R1.le rfl rfl).asB (c:=decide (i≤n)) (by congr 1; apply propext; omega)) rfl<|L.z<|W.cond rfl ?_ ?_
 ·
  intro J10
  try simp only [bq,ne_eq] at J10
  refine W.skip<|X.seq<|W.seq<|W.block<|W.region<|L.k rfl<|L.c rfl (c_ref2_Int (n:=0) (by decide) (by decide) hbd) ?_
  rintro _ w3 ⟨⟨A14,c14,B14,e14,rfl,I14,H14⟩,C3⟩
  replace ht:=ht.gr C3;replace h:=h.gr C3;replace k:=k.gr C3;replace E2:=E2.gr C3;replace ho:=own_gs ho C3;replace hl:=hl.gr C3;replace hbd:=hbd.gr C3;replace C0:=C0.trans C3;clear C3;have F14:=Fit.int (n:=0) (by decide) (by decide)
  refine L.buildSlice (cells:=[.bool (decide ((((0:Int)):Rat).num<0)),.slice A14 (toL (((0:Int)):Rat).num.natAbs).length c14,.slice B14 (toL (((0:Int)):Rat).den).length e14]) rfl Q23 tyZ40 (fillP1 _ _ _ _ _ _ _) (by decide) (by decide) rfl ?_
  intro g15 w4 D15
  replace ht:=ht.gr D15.mod;replace h:=h.gr D15.mod;replace k:=k.gr D15.mod;replace E2:=E2.gr D15.mod;replace ho:=own_gs ho D15.mod;replace hl:=hl.gr D15.mod;replace hbd:=hbd.gr D15.mod;replace C0:=C0.trans D15.mod;replace I14:=I14.gr D15.mod;replace H14:=H14.gr D15.mod
  have hrow:Sl [] w4 3 (.slice (some ⟨g15,0,none⟩) 1 1) 1 [.bool (decide ((((0:Int)):Rat).num<0)),.slice A14 (toL (((0:Int)):Rat).num.natAbs).length c14,.slice B14 (toL (((0:Int)):Rat).den).length e14]:=Sl.of_blk D15.blk 0 (Nat.le_refl _) (by decide) rfl (by simp) (fun j hj=>by simp)
  clear D15
  refine L.append rfl rfl ho hrow (by intro c hc; simp only [List.mem_cons,List.not_mem_nil,or_false] at hc; rcases hc with rfl | rfl | rfl <;> rfl) Q23 tyZ40 (by omega) (by unfold maxLen; omega) C0.size rfl ?_
  intro v16 w5 O16' X16
  replace ht:=ht.gw X16;replace h:=h.gw X16;replace k:=k.gw X16;have hnn_g2:=X16.ne hno_ho_g2 E2;replace E2:=Blk.grew E2 X16 hno_ho_g2;replace hno_ho_g2:=hnn_g2;replace hl:=hl.gw X16;replace hbd:=hbd.gw X16;replace C0:=Mod.oldOwn C0 X16.mod ho;replace I14:=I14.gw X16;replace H14:=H14.gw X16;replace ho:=O16'; clear O16';clear X16
  refine L.b rfl<|L.nil<|X.blockEnd<|X.seq<|W.region<|L.k rfl<|L.inc rfl rfl (by omega)<|L.b rfl<|L.nil<|X.next (i + 1,v16,css ++ [[.bool (decide ((((0:Int)):Rat).num<0)),.slice A14 (toL (((0:Int)):Rat).num.natAbs).length c14,.slice B14 (toL (((0:Int)):Rat).den).length e14]]) ?_ ?_ ?_
  · repeat' constructor
  ·
   exact ⟨ht.su,h.su,k.su,E2,hno_ho_g2,own_congr ho (by simp) (by simp),by rw [← rep_snoc]; exact (hl.su).append (LayL.one _ (((0:Int)):Rat) ⟨_,_,_,_,rfl,I14.su,H14.su⟩),hbd.su,C0,by omega⟩
  first | omega | (dsimp only; omega)
 intro J10
 try simp only [bq,ne_eq] at J10
 obtain rfl:n + 1=i:=by omega
 rw [← rowP_nil] at ho hl
 refine W.brk<|W.seq<|W.sr<|L.b rfl<|L.z ?_
 refine W.block<|W.loop (ι:=Nat × List (List Value)) (fun (i,css)=>[(1,.int .i64 (n:Int)),(2,.pointer (some ⟨g2,0,none⟩)),(5,u),(7,.int .i64 (i:Int))]) (fun (i,css) w_=>Lay rdT (ownL u ++ M) w_ (.slice T9 c.ts.length t9) c.ts∧U32 (ownL u ++ M) w_ (.slice A9 c.k.n.length c9) c.k.n∧U32 (ownL u ++ M) w_ (.slice B9 c.k.d.length e9) c.k.d∧Blk w_ g2 42 #[.int .i64 c.st,.slice T9 c.ts.length t9,.bool c.k.s,.slice A9 c.k.n.length c9,.slice B9 c.k.d.length e9]∧u.ownBlock≠some g2∧w_.ownsRow w.heap.size 40 3 u (rowP n ((conT c).1.take i)).length css.flatten∧LayL rdP (ownL u ++ M) w_ css (rowP n ((conT c).1.take i))∧Bd (ownL u ++ M) w_∧Mod [] w w_∧i≤c.ts.length) (fun (i,css)=>c.ts.length - i) (0,css) ?_ ?_ ?_
 · repeat' constructor
 ·
  exact ⟨ht.su,h.su,k.su,E2,hno_ho_g2,ho,hl.su,hbd.su,C0,Nat.zero_le _⟩
 rintro ⟨i,css⟩ w6 ⟨ht,h,k,E2,hno_ho_g2,ho,hl,hbd,C0,hi⟩
 refine W.seq<|W.sr<|L.k rfl<|L.fA rfl tyF42_1<|L.lF rfl E2 rfl tyP37<|L.lL rfl ht Q37<|L.lt rfl rfl<|L.z<|W.cond rfl ?_ ?_
 ·
  intro J21
  try simp only [bq,ne_eq] at J21
  refine W.skip<|X.seq<|W.seq<|W.block<|W.drawW (T:=[14]) rfl (by decide +kernel) (NoHang.block (NoHang.then (NoHang.next (NoHang.block (NoHang.then NoHang.post))))) (fun w7 C7=>?_)
  replace ht:=ht.gr C7;replace h:=h.gr C7;replace k:=k.gr C7;replace E2:=E2.gr C7;replace ho:=own_gs ho C7;replace hl:=hl.gr C7;replace hbd:=hbd.gr C7;replace C0:=C0.trans C7
  have G1:Mod [] w7 w7:=Mod.refl _ _
  clear C7;have hb2_s:=E2
  refine D.z 0 rfl (by kernel_rfl) rfl G1<|D.t 1 rfl (by kernel_rfl) (fun _ hS=>R1.fieldAt rfl tyF42_1) G1<|D.t 2 rfl (by kernel_rfl) (fun _ hS=>R1.loadFld rfl (hb2_s.gr hS) rfl tyP37) G1<|D.z 3 rfl (by kernel_rfl) rfl G1<|D.t 4 rfl (by kernel_rfl) (fun _ hS=>R1.atLay (j:=i) rfl rfl (Lay.gr ht hS) Q37 rfl (by omega)) G1<|D.t 5 rfl (by kernel_rfl) (fun _ hS=>R1.fieldAddr rfl tyF47_0) G1 ?_
  obtain ⟨z30,cs30,P30,V30,ds30,rfl,vn30,vd30,rfl,I30,H30⟩:=Lay.elemQ ht (j:=i) (by omega);obtain ⟨A30,c30,rfl⟩:=I30.form;obtain ⟨B30,e30,rfl⟩:=H30.form
  refine D.t 6 rfl (by kernel_rfl) (fun _ hS=>(R1.loadEF rfl (SlE.gr V30 hS) rfl tyP3).asV (v:=.int .i64 ((z30.v.toNat:Nat):Int)) (by have h9:=(hts _ (List.mem_of_getElem? P30)).1; congr 1; omega)) G1<|D.t 7 rfl (by kernel_rfl) (fun _ hS=>R1.fieldAt rfl tyF42_1) G1<|D.t 8 rfl (by kernel_rfl) (fun _ hS=>R1.loadFld rfl (hb2_s.gr hS) rfl tyP37) G1<|D.z 9 rfl (by kernel_rfl) rfl G1<|D.t 10 rfl (by kernel_rfl) (fun _ hS=>R1.atLay (j:=i) rfl rfl (Lay.gr ht hS) Q37 rfl (by omega)) G1<|D.t 11 rfl (by kernel_rfl) (fun _ hS=>R1.fieldAddr rfl tyF47_1) G1 ?_
  obtain ⟨z36,cs36,P36,V36,ds36,rfl,vn36,vd36,rfl,I36,H36⟩:=Lay.elemQ ht (j:=i) (by omega);obtain ⟨A36,c36,rfl⟩:=I36.form;obtain ⟨B36,e36,rfl⟩:=H36.form
  obtain rfl:z30=z36:=by have h9:=P36; rw [P30] at h9; injection h9
  refine D.t 12 rfl (by kernel_rfl) (fun _ hS=>R1.loadEA (ds:=[.bool z30.c.s,.slice A36 z30.c.n.length c36,.slice B36 z30.c.d.length e36]) rfl (SlE.gr V36 hS) rfl tyG40) G1 ?_
  have hzx:(conT c).1[i]?=some (tv z30):=by simp only [conT]; rw [List.getElem?_map,P30]; rfl
  have hzn:(tv z30).1<n:=hB _ (List.mem_of_getElem? hzx)
  have hzv:z30.v.toNat<n + 1:=by simp only [tv] at hzn; omega
  refine D.t 13 rfl (by kernel_rfl) (fun _ hS=>R1.atOwn (i:=z30.v.toNat) rfl rfl (own_gs ho hS) Q23 rfl (by rw [rowP_length]; exact hzv)) G1<|D.one 14 rfl (by kernel_rfl) (fun hX=>?_)
  refine L.storeOwnA rfl rfl rfl ho hl (by first | exact mem_own | (intro b hb; simp [hb])) (by rw [rowP_length]; exact hzv) ((rdP_of ⟨_,_,rfl,I36,H36⟩ (hts _ (List.mem_of_getElem? P30)).2)) tyG40 ?_
  intro w8 ho' hl' C8
  replace ht:=ht.mo C8;replace h:=h.mo C8;replace k:=k.mo C8;replace E2:=Blk.ownfar E2 C8 hno_ho_g2;replace hbd:=hbd.gr C8;replace C0:=Mod.oldOwn C0 C8 ho;replace I30:=I30.mo C8;replace H30:=H30.mo C8;replace I36:=I36.mo C8;replace H36:=H36.mo C8;clear C8 hl;replace ho:=ho'; clear ho';have hl:=hl'; clear hl'
  refine L.nil (hX _ _ ⟨.inl rfl,?_⟩)
  refine D.done (by decide +kernel) ?_ _
  refine X.blockEnd<|X.seq<|W.region<|L.k rfl<|L.inc rfl rfl (by omega)<|L.b rfl<|L.nil<|X.next (i + 1,css.set z30.v.toNat [.bool z30.c.s,.slice A36 z30.c.n.length c36,.slice B36 z30.c.d.length e36]) ?_ ?_ ?_
  · repeat' constructor
  ·
   exact ⟨ht.su,h.su,k.su,E2,hno_ho_g2,own_congr ho (by rw [rowP_length,rowP_length]) rfl,by rw [← rowP_set hN hzx hzn]; exact hl.su,hbd.su,C0,by omega⟩
  first | omega | (dsimp only; omega)
 intro J21
 try simp only [bq,ne_eq] at J21
 obtain rfl:i=c.ts.length:=by omega
 rw [← hlc,List.take_length] at ho hl
 refine W.brk<|W.sr<|L.k rfl<|L.k rfl<|L.fA rfl tyF42_2<|L.v (R1.loadBoxAt (ds:=[.bool c.k.s,.slice A9 c.k.n.length c9,.slice B9 c.k.d.length e9]) rfl E2 rfl tyG40) rfl ?_
 refine L.v (R1.atOwn (i:=n) rfl rfl ho Q23 rfl (by rw [rowP_length]; omega)) rfl<|L.storeOwnA rfl rfl rfl ho hl (by first | exact mem_own | (intro b hb; simp [hb])) (by rw [rowP_length]; omega) ((rdP_of ⟨_,_,rfl,h,k⟩ hk1)) tyG40 ?_
 intro w9 ho' hl' C9
 replace ht:=ht.mo C9;replace h:=h.mo C9;replace k:=k.mo C9;replace C0:=Mod.oldOwn C0 C9 ho;clear C9 hl;replace ho:=ho'; clear ho';have hl:=hl'; clear hl'
 refine L.z<|W.sr<|L.k rfl<|L.b rfl<|L.z<|W.ret<|X.result1 rfl (.tmp rfl .nil) ?_
 have e1:(rowP n (conT c).1).set n (conT c).2=rowD n (conT c):=rowP_end
 refine ⟨_,own_congr ho (by rw [rowP_length,rowD_length]) rfl,?_,C0⟩
 rw [← e1]; exact hl.su
set_option maxHeartbeats 1000000 in
theorem c_lessD {M N1 N2 N3 : List Nat} {w : World} {va vb vx : Value} {a b : List Rat} {x : Rat} (ha : Lay rdP N1 w va a) (hb : Lay rdP N2 w vb b) (hx : RN N3 w vx x) (hbd : Bd M w) (fa : FitL a) (fb : FitL b) (fx : Fit x 17179869184) (hab : b.length = a.length) (hal : a.length ≤ 65) :
    Ret Tryz.prog 100 #[va,vb,vx] w (fun r w'=>∃ css,w'.ownsRow w.heap.size 40 3 r (lessD a b x).length css.flatten∧LayL rdP (ownL r ++ M) w' css (lessD a b x)∧Mod [] w w'):=by
 obtain ⟨TA,tA,rfl⟩:=ha.form;obtain ⟨TB,tB,rfl⟩:=hb.form;obtain ⟨A3,c3,B3,e3,rfl,I3,H3⟩:=hx;have hll:=lessD_length a b x
 refine Ret.of (vs:=[.slice TA a.length tA,.slice TB b.length tB,.agg #[.bool (decide (x.num<0)),.slice A3 (toL x.num.natAbs).length c3,.slice B3 (toL x.den).length e3]]) (n:=30) Tryz.func100 rfl rfl rfl rfl ?_
 have C0:Mod [] w w:=Mod.refl _ _
 refine W.sr<|L.box rfl rfl ?_
 intro g5 w1 D5
 replace ha:=ha.new D5;replace hb:=hb.new D5;replace I3:=I3.new D5;replace H3:=H3.new D5;replace hbd:=hbd.new D5;replace C0:=C0.tn D5;have E5:=D5.blk;clear D5
 refine L.b rfl<|L.z<|W.sr<|L.b rfl<|L.z<|W.seq<|W.seq<|W.region ?_
 refine L.b rfl<|L.z<|W.block<|W.loop (ι:=Nat × Value × List (List Value)) (fun (i,u,css)=>[(0,.slice TA a.length tA),(1,.slice TB b.length tB),(5,.pointer (some ⟨g5,0,none⟩)),(7,u),(8,.int .i64 (i:Int))]) (fun (i,u,css) w_=>Lay rdP (ownL u ++ N1) w_ (.slice TA a.length tA) a∧Lay rdP (ownL u ++ N2) w_ (.slice TB b.length tB) b∧U32 (ownL u ++ N3) w_ (.slice A3 (toL x.num.natAbs).length c3) (toL x.num.natAbs)∧U32 (ownL u ++ N3) w_ (.slice B3 (toL x.den).length e3) (toL x.den)∧Blk w_ g5 40 #[.bool (decide (x.num<0)),.slice A3 (toL x.num.natAbs).length c3,.slice B3 (toL x.den).length e3]∧u.ownBlock≠some g5∧w_.ownsRow w.heap.size 40 3 u ((lessD a b x).take i).length css.flatten∧LayL rdP (ownL u ++ M) w_ css ((lessD a b x).take i)∧Bd (ownL u ++ M) w_∧Mod [] w w_∧i≤a.length) (fun (i,u,css)=>a.length - i) (0,.slice none 0 0,[]) ?_ ?_ ?_
 · repeat' constructor
 ·
  exact ⟨ha.su,hb.su,I3.su,H3.su,E5,(fun h=>by cases h),own_nil _ _ _ _,LayL.nil,hbd.su,C0,Nat.zero_le _⟩
 rintro ⟨i,u,css⟩ w2 ⟨ha,hb,I3,H3,E5,hno_ho_g5,ho,hl,hbd,C0,hi⟩
 have htk:((lessD a b x).take i).length=i:=by rw [List.length_take]; omega
 refine W.seq<|W.sr<|L.k rfl<|L.k rfl<|L.lL rfl ha Q23<|L.lt rfl rfl<|L.z<|W.cond rfl ?_ ?_
 ·
  intro J12
  try simp only [bq,ne_eq] at J12
  refine W.skip<|X.seq<|W.seq<|W.block<|W.drawG (ownL u) (T:=[]) rfl (by decide +kernel) (NoHang.block (NoHang.then (NoHang.next (NoHang.block (NoHang.then NoHang.post))))) (fun w3 C3=>?_)
  replace ha:=ha.gr C3;replace hb:=hb.gr C3;replace I3:=I3.gr C3;replace H3:=H3.gr C3;replace E5:=E5.gr C3;replace ho:=own_gs ho C3;replace hl:=hl.gr C3;replace hbd:=hbd.gr C3;replace C0:=C0.trans C3
  have G1:Mod (ownL u) w3 w3:=Mod.refl _ _
  clear C3;have hb5_s:=E5
  refine D.z 0 rfl (by kernel_rfl) rfl G1<|D.z 1 rfl (by kernel_rfl) rfl G1<|D.z 2 rfl (by kernel_rfl) rfl G1<|D.t 3 rfl (by kernel_rfl) (fun _ hS=>R1.atLay (j:=i) rfl rfl (Lay.mod ha hS (by first | exact mem_own | (intro b hb; simp [hb]))) Q23 rfl (by omega)) G1 ?_
  obtain ⟨z19,cs19,P19,V19,A19,a19,B19,b19,rfl,I19,H19⟩:=Lay.elemQ ha (j:=i) (by omega)
  refine D.t 4 rfl (by kernel_rfl) (fun _ hS=>R1.loadE rfl (SlE.mod V19 hS (by first | exact mem_own | (intro b hb; simp [hb]))) tyG40) G1<|D.t 5 rfl (by kernel_rfl) (fun _ hS=>R1.loadBox rfl (Blk.ownfar hb5_s hS hno_ho_g5) tyG40) G1<|D.z 6 rfl (by kernel_rfl) rfl G1<|D.z 7 rfl (by kernel_rfl) rfl G1<|D.t 8 rfl (by kernel_rfl) (fun _ hS=>R1.atLay (j:=i) rfl rfl (Lay.mod hb hS (by first | exact mem_own | (intro b hb; simp [hb]))) Q23 rfl (by omega)) G1 ?_
  obtain ⟨z24,cs24,P24,V24,A24,a24,B24,b24,rfl,I24,H24⟩:=Lay.elemQ hb (j:=i) (by omega)
  refine D.t 9 rfl (by kernel_rfl) (fun _ hS=>R1.loadE rfl (SlE.mod V24 hS (by first | exact mem_own | (intro b hb; simp [hb]))) tyG40) G1<|D.one 10 rfl (by kernel_rfl) (fun hX=>?_)
  refine L.c rfl (c_ref2_Mul (qa:=x) (qb:=z24) (rv_toL _) (rv_toL _) I3 H3 I24 H24 hbd (Nat.le_trans fx.1 (by decide)) (Nat.le_trans fx.2 (by decide)) (Nat.le_trans (fb _ (List.mem_of_getElem? P24)).1 (by decide)) (Nat.le_trans (fb _ (List.mem_of_getElem? P24)).2 (by decide))) ?_
  rintro _ w4 ⟨⟨A25,c25,B25,e25,rfl,I25,H25⟩,C4⟩
  replace ha:=ha.gr C4;replace hb:=hb.gr C4;replace I3:=I3.gr C4;replace H3:=H3.gr C4;replace E5:=E5.gr C4;replace ho:=own_gs ho C4;replace hl:=hl.gr C4;replace hbd:=hbd.gr C4;replace C0:=C0.trans C4;replace I19:=I19.gr C4;replace H19:=H19.gr C4;replace I24:=I24.gr C4;replace H24:=H24.gr C4;replace G1:=G1.trans (C4.mono (by simp));clear C4;have F25:=Fit.mul fx (fb _ (List.mem_of_getElem? P24))
  refine L.nil (hX _ _ ⟨.inr G1,?_⟩)
  refine D.one 11 rfl (by kernel_rfl) (fun hX=>?_)
  refine L.c rfl (c_ref2_Sub (qa:=z19) (qb:=(x * z24)) (rv_toL _) (rv_toL _) I19 H19 I25 H25 hbd (Nat.le_trans (fa _ (List.mem_of_getElem? P19)).1 (by decide)) (Nat.le_trans (fa _ (List.mem_of_getElem? P19)).2 (by decide)) (Nat.le_trans F25.1 (by decide)) (Nat.le_trans F25.2 (by decide))) ?_
  rintro _ w5 ⟨⟨A26,c26,B26,e26,rfl,I26,H26⟩,C5⟩
  replace ha:=ha.gr C5;replace hb:=hb.gr C5;replace I3:=I3.gr C5;replace H3:=H3.gr C5;replace E5:=E5.gr C5;replace ho:=own_gs ho C5;replace hl:=hl.gr C5;replace hbd:=hbd.gr C5;replace C0:=C0.trans C5;replace I19:=I19.gr C5;replace H19:=H19.gr C5;replace I24:=I24.gr C5;replace H24:=H24.gr C5;replace I25:=I25.gr C5;replace H25:=H25.gr C5;replace G1:=G1.trans (C5.mono (by simp));clear C5;have F26:=Fit.sub (fa _ (List.mem_of_getElem? P19)) F25
  refine L.nil (hX _ _ ⟨.inr G1,?_⟩)
  refine D.one 12 rfl (by kernel_rfl) (fun hX=>?_)
  refine L.buildSlice (cells:=[.bool (decide ((z19 - x * z24).num<0)),.slice A26 (toL (z19 - x * z24).num.natAbs).length c26,.slice B26 (toL (z19 - x * z24).den).length e26]) rfl Q23 tyZ40 (fillP1 _ _ _ _ _ _ _) (by decide) (by decide) rfl ?_
  intro g27 w6 D27
  replace ha:=ha.gr D27.mod;replace hb:=hb.gr D27.mod;replace I3:=I3.gr D27.mod;replace H3:=H3.gr D27.mod;replace E5:=E5.gr D27.mod;replace ho:=own_gs ho D27.mod;replace hl:=hl.gr D27.mod;replace hbd:=hbd.gr D27.mod;replace C0:=C0.trans D27.mod;replace I19:=I19.gr D27.mod;replace H19:=H19.gr D27.mod;replace I24:=I24.gr D27.mod;replace H24:=H24.gr D27.mod;replace I25:=I25.gr D27.mod;replace H25:=H25.gr D27.mod;replace I26:=I26.gr D27.mod;replace H26:=H26.gr D27.mod;replace G1:=G1.tn D27
  have hrow:Sl [] w6 3 (.slice (some ⟨g27,0,none⟩) 1 1) 1 [.bool (decide ((z19 - x * z24).num<0)),.slice A26 (toL (z19 - x * z24).num.natAbs).length c26,.slice B26 (toL (z19 - x * z24).den).length e26]:=Sl.of_blk D27.blk 0 (Nat.le_refl _) (by decide) rfl (by simp) (fun j hj=>by simp)
  clear D27
  refine L.nil (hX _ _ ⟨.inr G1,?_⟩)
  refine D.one 13 rfl (by kernel_rfl) (fun hX=>?_)
  refine L.append rfl rfl ho hrow (by intro c hc; simp only [List.mem_cons,List.not_mem_nil,or_false] at hc; rcases hc with rfl | rfl | rfl <;> rfl) Q23 tyZ40 (by omega) (by unfold maxLen; omega) C0.size rfl ?_
  intro v28 w7 O28' X28
  replace ha:=ha.gw X28;replace hb:=hb.gw X28;replace I3:=I3.gw X28;replace H3:=H3.gw X28;have hnn_g5:=X28.ne hno_ho_g5 E5;replace E5:=Blk.grew E5 X28 hno_ho_g5;replace hno_ho_g5:=hnn_g5;replace hl:=hl.gw X28;replace hbd:=hbd.gw X28;replace C0:=Mod.oldOwn C0 X28.mod ho;replace I19:=I19.gw X28;replace H19:=H19.gw X28;replace I24:=I24.gw X28;replace H24:=H24.gw X28;replace I25:=I25.gw X28;replace H25:=H25.gw X28;replace I26:=I26.gw X28;replace H26:=H26.gw X28;replace ho:=O28'; clear O28';replace G1:=G1.trans X28.mod;clear X28
  refine L.nil (hX _ _ ⟨.inr G1,?_⟩)
  refine D.t 14 rfl (by kernel_rfl) (fun _ hS=>R1.assign rfl) G1<|D.done (by decide +kernel) ?_ _
  refine X.blockEnd<|X.seq<|W.region<|L.k rfl<|L.inc rfl rfl (by omega)<|L.b rfl<|L.nil<|X.next (i + 1,v28,css ++ [[.bool (decide ((z19 - x * z24).num<0)),.slice A26 (toL (z19 - x * z24).num.natAbs).length c26,.slice B26 (toL (z19 - x * z24).den).length e26]]) ?_ ?_ ?_
  · repeat' constructor
  ·
   have htk2:((lessD a b x).take (i + 1)).length=i + 1:=by rw [List.length_take]; omega
   exact ⟨ha.su,hb.su,I3.su,H3.su,E5,hno_ho_g5,own_congr ho (by omega) (by simp),by rw [← lessD_snoc P19 P24]; exact (hl.su).append (LayL.one _ (z19 - x * z24) ⟨_,_,_,_,rfl,I26.su,H26.su⟩),hbd.su,C0,by omega⟩
  first | omega | (dsimp only; omega)
 intro J12
 try simp only [bq,ne_eq] at J12
 obtain rfl:i=a.length:=by omega
 rw [← hll,List.take_length] at ho hl
 refine W.brk<|W.sr<|L.k rfl<|L.b rfl<|L.z ?_
 refine W.ret<|X.result1 rfl (.tmp rfl .nil) ?_
 exact ⟨css,ho,hl.su,C0⟩
theorem c_lessR {M N1 N2 N3 : List Nat} {w : World} {va vb vx : Value} {a b : List Rat} {x : Rat} (ha : Lay rdP N1 w va a) (hb : Lay rdP N2 w vb b) (hx : RN N3 w vx x) (hbd : Bd M w) (fa : FitL a) (fb : FitL b) (fx : Fit x 17179869184) (hab : b.length = a.length) (hal : a.length ≤ 65) :
    Ret Tryz.prog 100 #[va,vb,vx] w (fun r w'=>Lay rdP M w' r (lessD a b x)∧Mod [] w w') :=
  (c_lessD ha hb hx hbd fa fb fx hab hal).mono fun r w' ⟨css,h1,h2,h3⟩=>⟨own_lay hbd h1 h2 (fun g hg=>List.mem_append.2 (.inr hg)),h3⟩
theorem c_lead {M N1 : List Nat} {w : World} {va : Value} {a : List Rat} (ha : Lay rdP N1 w va a) (hbd : Bd M w) (fa : FitL a) (hal : a.length ≤ 65) (ha0 : 0 < a.length) :
    Ret Tryz.prog 99 #[va] w (fun r w'=>r=.int .i64 ((leadD a:Nat):Int)∧Mod [] w w'):=by
 obtain ⟨TA,tA,rfl⟩:=ha.form
 refine Ret.of (vs:=[.slice TA a.length tA]) (n:=19) Tryz.func99 rfl rfl rfl rfl ?_
 have C0:Mod [] w w:=Mod.refl _ _
 refine W.sr<|L.b rfl<|L.z<|W.sr<|L.b rfl<|L.z<|W.seq ?_
 refine W.block<|W.loop (ι:=Nat) (fun i=>[(0,.slice TA a.length tA),(3,.int .i64 (i:Int))]) (fun i w_=>Lay rdP N1 w_ (.slice TA a.length tA) a∧Bd M w_∧Mod [] w w_∧i<a.length∧(∀ j,j<i→a.getD j 0=0)) (fun i=>a.length - i) 0 ?_ ?_ ?_
 · exact ⟨rfl,rfl,trivial⟩
 ·
  exact ⟨ha.su,hbd.su,C0,ha0,(fun j hj=>by omega)⟩
 rintro i w1 ⟨ha,hbd,C0,hi,h0⟩
 refine W.seq<|W.sr<|L.k rfl<|L.inc rfl rfl (by omega)<|L.k rfl<|L.lL rfl ha Q23<|L.v ((R1.lt rfl rfl).asB (c:=decide (i + 1<a.length)) (by congr 1; apply propext; omega)) rfl<|L.k rfl ?_
 cases W9:decide (i + 1<a.length)
 ·
  try simp only [bq,ne_eq] at W9
  refine L.o rfl<|L.o rfl<|L.o rfl<|L.o rfl<|L.o rfl<|L.pF rfl rfl<|L.z<|W.condF rfl<|W.exit<|X.thenExit ?_
  refine X.nextExit<|X.here<|X.seq<|W.sr<|L.k rfl<|L.b rfl<|L.z<|W.ret<|X.result1 rfl (.tmp rfl .nil) ?_
  have e9:leadD a=i:=lead_stop h0 hi (by first | exact .inl W9 | exact .inr (by rw [getD_of P13]; exact J15))
  exact ⟨by rw [e9],C0⟩
 try simp only [bq,ne_eq] at W9
 refine L.p rfl (R1.move rfl)<|L.p rfl (R1.move rfl)<|L.p rfl (R1.atLay (j:=i) rfl rfl ha Q23 rfl (by omega)) ?_
 obtain ⟨z13,cs13,P13,V13,A13,a13,B13,b13,rfl,I13,H13⟩:=Lay.elemQ ha (j:=i) (by omega)
 refine L.p rfl (R1.loadE rfl V13 tyG40)<|L.callOn rfl rfl rfl rfl (c_ref2_Zero (q:=z13) (rv_toL _) I13 H13 hbd (Nat.le_trans (fa _ (List.mem_of_getElem? P13)).1 (by decide)) (Nat.le_trans (fa _ (List.mem_of_getElem? P13)).2 (by decide))) rfl ?_
 rintro _ w2 ⟨rfl,C2⟩
 replace ha:=ha.gr C2;replace hbd:=hbd.gr C2;replace C0:=C0.trans C2;clear C2
 refine L.pT rfl rfl<|L.z<|W.cond rfl ?_ ?_
 ·
  intro J15
  try simp only [bq,ne_eq] at J15
  refine W.skip<|X.seq<|W.block<|W.region<|L.k rfl<|L.inc rfl rfl (by omega)<|L.b rfl<|L.nil<|X.blockEnd<|X.next (i + 1) ?_ ?_ ?_
  · exact ⟨rfl,rfl,trivial⟩
  ·
   refine ⟨ha,hbd,C0,by omega,fun j hj=>?_⟩
   rcases Nat.lt_or_ge j i with h9 | h9
   · exact h0 j h9
   obtain rfl:j=i:=by omega
   rw [getD_of P13]; exact J15
  first | omega | (dsimp only; omega)
 intro J15
 try simp only [bq,ne_eq] at J15
 refine W.brk<|W.sr<|L.k rfl<|L.b rfl<|L.z ?_
 refine W.ret<|X.result1 rfl (.tmp rfl .nil) ?_
 have e9:leadD a=i:=lead_stop h0 hi (by first | exact .inl W9 | exact .inr (by rw [getD_of P13]; exact J15))
 exact ⟨by rw [e9],C0⟩
set_option maxHeartbeats 1000000 in
theorem c_reduce {M N2 : List Nat} {w : World} {va vr : Value} {a : List Rat} {rs : List (List Rat)} {css : List (List Value)} {B : Nat} (hR : Lay (rdR rdP) (ownL va ++ N2) w vr rs) (ho : w.ownsRow B 40 3 va a.length css.flatten) (hl : LayL rdP (ownL va ++ M) w css a) (hB : B ≤ w.heap.size) (hbd : Bd (ownL va ++ M) w) (hal : 0 < a.length ∧ a.length ≤ 65) (ok : ∀ i, i ≤ rs.length → FitL (reduceD (rs.take i) a) ∧ (reduceD (rs.take i) a).length = a.length) (okr : ∀ r ∈ rs, FitL r ∧ r.length = a.length) (hrl : rs.length ≤ 64) :
    Ret Tryz.prog 97 #[vr,va] w (fun r w'=>∃ css',w'.ownsRow B 40 3 r (reduceD rs a).length css'.flatten∧LayL rdP (ownL r ++ M) w' css' (reduceD rs a)∧Mod [] w w'):=by
 obtain ⟨TR,tR,rfl⟩:=hR.form
 refine Ret.of (vs:=[.slice TR rs.length tR,va]) (n:=35) Tryz.func97 rfl rfl rfl rfl ?_
 have C0:Mod [] w w:=Mod.refl _ _
 refine W.sr<|L.b rfl<|L.z<|W.seq<|W.sr<|L.b rfl<|L.z ?_
 refine W.block<|W.loop (ι:=Nat × Value × List (List Value) × List Rat) (fun (i,u,css,d)=>[(0,.slice TR rs.length tR),(1,u),(5,.int .i64 (i:Int))]) (fun (i,u,css,d) w_=>Lay (rdR rdP) (ownL u ++ N2) w_ (.slice TR rs.length tR) rs∧w_.ownsRow B 40 3 u d.length css.flatten∧LayL rdP (ownL u ++ M) w_ css d∧Bd (ownL u ++ M) w_∧Mod [] w w_∧i≤rs.length∧d=(reduceD (rs.take i) a)) (fun (i,u,css,d)=>rs.length - i) (0,va,css,a) ?_ ?_ ?_
 · exact ⟨rfl,rfl,rfl,trivial⟩
 ·
  exact ⟨hR.su,ho,hl.su,hbd.su,C0,Nat.zero_le _,rfl⟩
 rintro ⟨i,u,css,d⟩ w1 ⟨hR,ho,hl,hbd,C0,hi,hd⟩
 obtain ⟨hfd,hdl⟩:=ok i hi
 rw [← hd] at hfd hdl
 refine W.seq<|W.sr<|L.k rfl<|L.k rfl<|L.lL rfl hR Q92<|L.lt rfl rfl<|L.z<|W.cond rfl ?_ ?_
 ·
  intro J10
  try simp only [bq,ne_eq] at J10
  refine W.skip<|X.seq<|W.seq<|W.block<|W.sr<|L.k rfl<|L.k rfl<|L.aL (j:=i) rfl rfl hR Q92 rfl (by omega) ?_
  obtain ⟨z16,cs16,P16,V16,v16,rfl,hl16⟩:=Lay.elemQ hR (j:=i) (by omega);obtain ⟨A16,a16,rfl⟩:=hl16.form
  refine L.v (R1.loadE1 rfl V16 tyP23) rfl<|L.c rfl (c_lead hl16 hbd (okr _ (List.mem_of_getElem? P16)).1 (by have h9:=(okr _ (List.mem_of_getElem? P16)).2; omega) (by have h9:=(okr _ (List.mem_of_getElem? P16)).2; omega)) ?_
  rintro _ w2 ⟨rfl,C2⟩
  replace hR:=hR.gr C2;replace ho:=own_gs ho C2;replace hl:=hl.gr C2;replace hbd:=hbd.gr C2;replace C0:=C0.trans C2;clear C2
  refine L.b rfl<|L.z<|W.seq ?_
  have hkl:leadD z16<d.length:=by
    have h8:=(okr _ (List.mem_of_getElem? P16)).2;have h9:=(leadD_spec (l:=z16) (by intro e; rw [e] at h8; simp at h8; omega)).1
    omega
  refine W.region<|L.k rfl<|L.k rfl<|L.v (R1.atOwn (i:=(leadD z16)) rfl rfl ho Q23 rfl hkl) rfl ?_
  obtain ⟨z21,cs21,P21,V21,A21,a21,B21,b21,rfl,I21,H21⟩:=own_elemQ ho rfl hl (j:=(leadD z16)) hkl
  refine L.v (R1.loadE rfl V21 tyG40) rfl<|L.c rfl (c_ref2_Zero (q:=z21) (rv_toL _) I21 H21 hbd (Nat.le_trans (hfd _ (List.mem_of_getElem? P21)).1 (by decide)) (Nat.le_trans (hfd _ (List.mem_of_getElem? P21)).2 (by decide))) ?_
  rintro _ w3 ⟨rfl,C3⟩
  replace hR:=hR.gr C3;replace ho:=own_gs ho C3;replace hl:=hl.gr C3;replace hbd:=hbd.gr C3;replace C0:=C0.trans C3;clear C3
  refine L.v (R1.not rfl) rfl<|L.z<|W.cond rfl ?_ ?_
  ·
   intro J23
   simp only [Bool.not_eq_true',Bool.not_eq_false',decide_eq_true_eq,decide_eq_false_iff_not] at J23
   refine W.drawW (T:=[9,10]) rfl (by decide +kernel) (NoHang.block (NoHang.then (NoHang.next (NoHang.block (NoHang.then NoHang.post))))) (fun w4 C4=>?_)
   replace hR:=hR.gr C4;replace ho:=own_gs ho C4;replace hl:=hl.gr C4;replace hbd:=hbd.gr C4;replace C0:=C0.trans C4
   have G1:Mod [] w4 w4:=Mod.refl _ _
   clear C4
   refine D.z 0 rfl (by kernel_rfl) rfl G1<|D.z 1 rfl (by kernel_rfl) rfl G1<|D.z 2 rfl (by kernel_rfl) rfl G1<|D.t 3 rfl (by kernel_rfl) (fun _ hS=>R1.atLay (j:=i) rfl rfl (Lay.gr hR hS) Q92 rfl (by omega)) G1 ?_
   obtain ⟨z28,cs28,P28,V28,v28,rfl,hl28⟩:=Lay.elemQ hR (j:=i) (by omega);obtain ⟨A28,a28,rfl⟩:=hl28.form
   obtain rfl:z16=z28:=by have h9:=P28; rw [P16] at h9; injection h9
   refine D.t 4 rfl (by kernel_rfl) (fun _ hS=>R1.loadE1 rfl (SlE.gr V28 hS) tyP23) G1<|D.z 5 rfl (by kernel_rfl) rfl G1<|D.z 6 rfl (by kernel_rfl) rfl G1<|D.t 7 rfl (by kernel_rfl) (fun _ hS=>R1.atOwn (i:=(leadD z16)) rfl rfl (own_gs ho hS) Q23 rfl hkl) G1 ?_
   obtain ⟨z32,cs32,P32,V32,A32,a32,B32,b32,rfl,I32,H32⟩:=own_elemQ ho rfl hl (j:=(leadD z16)) hkl
   refine D.t 8 rfl (by kernel_rfl) (fun _ hS=>R1.loadE rfl (SlE.gr V32 hS) tyG40) G1<|D.one 9 rfl (by kernel_rfl) (fun hX=>?_)
   refine L.c rfl (c_lessD (M:=M) (own_read ho hl) hl28 ⟨_,_,_,_,rfl,I32,H32⟩ (hbd.su) hfd (okr _ (List.mem_of_getElem? P16)).1 (hfd _ (List.mem_of_getElem? P32)) (by have h9:=(okr _ (List.mem_of_getElem? P16)).2; omega) (by omega)) ?_
   rintro v33 w5 ⟨css2,O2,hl2,hmX⟩
   have hB2:=Nat.le_trans hB C0.size;have hR2:=hR.ownd O2 hmX;have hbd2:=(hbd.sub (M':=M) (by intro b hb; first | exact hb | (simp only [mq] at hb ⊢; grind))).ownd O2 hmX;replace C0:=C0.trans hmX;replace O2:=own_less O2 hB2
   refine L.nil (hX _ _ ⟨.inl rfl,?_⟩)
   refine D.one 10 rfl (by kernel_rfl) (fun hX=>?_)
   refine L.a rfl rfl (L.nil (hX _ _ ⟨.inl rfl,?_⟩))
   refine D.done (by decide +kernel) ?_ _
   refine X.blockEnd<|X.seq<|W.region<|L.k rfl<|L.inc rfl rfl (by omega)<|L.b rfl<|L.nil<|X.next (i + 1,v33,css2,lessD d z16 z32) ?_ ?_ ?_
   · exact ⟨rfl,rfl,rfl,trivial⟩
   ·
    exact ⟨hR2.su,O2,hl2,hbd2,C0,by omega,by rw [reduceD_snoc P16,← hd,getD_of P32,if_neg (by rw [P32] at P21; injection P21 with h9; rw [h9]; exact J23)]⟩
   first | omega | (dsimp only; omega)
  intro J23
  simp only [Bool.not_eq_true',Bool.not_eq_false',decide_eq_true_eq,decide_eq_false_iff_not] at J23
  refine W.skip<|X.blockEnd<|X.seq<|W.region<|L.k rfl<|L.inc rfl rfl (by omega)<|L.b rfl<|L.nil<|X.next (i + 1,u,css,d) ?_ ?_ ?_
  · exact ⟨rfl,rfl,rfl,trivial⟩
  ·
   exact ⟨hR.su,ho,hl.su,hbd.su,C0,by omega,by rw [reduceD_snoc P16,← hd,getD_of P21,if_pos J23]⟩
  first | omega | (dsimp only; omega)
 intro J10
 try simp only [bq,ne_eq] at J10
 obtain rfl:i=rs.length:=by omega
 rw [List.take_length] at hd
 refine W.brk<|W.sr<|L.k rfl<|L.b rfl<|L.z ?_
 refine W.ret<|X.result1 rfl (.tmp rfl .nil) ?_
 rw [← hd]
 exact ⟨css,ho,hl.su,C0⟩
end Go.Proofs.YthoooolflmbmbaaGreat
end
section
namespace Go.Proofs.YthoooolflmbmbaaGreat
open Go.RowKit
set_option linter.unusedVariables false
set_option linter.unusedSimpArgs false
set_option maxRecDepth 10000
theorem RepDs.of_mem {n:Nat}:∀ {rs:List (List Rat)} {R:List Row},RepDs n rs R→∀ {x:List Rat},x∈rs→∃ r∈R,RepD n x r
  | _,_,.cons h1 h2,x,hx=>by
    rcases List.mem_cons.1 hx with rfl | h3
    · exact ⟨_,by simp,h1⟩
    obtain ⟨r,h4,h5⟩:=h2.of_mem h3; exact ⟨r,by simp [h4],h5⟩
theorem RepDs.split {n:Nat}:∀ {rs1 rs2:List (List Rat)} {R:List Row},RepDs n (rs1 ++ rs2) R→∃ R1 R2,R=R1 ++ R2∧RepDs n rs1 R1
  | [],_,R,_=>⟨[],R,rfl,.nil⟩
  | r :: rs1,rs2,_,.cons h1 h2=>by
    obtain ⟨R1,R2,e,h3⟩:=RepDs.split h2
    exact ⟨_ :: R1,R2,by rw [e]; rfl,.cons h1 h3⟩
theorem fitL_dv {a:List Rat} {D T:Nat} (hD:0<D) (hlt:D<4294967296 ^ T) (h:Ov D T (dv a)) (hT:T≤17179869184):FitL a:=fun x hx=>by
  obtain ⟨i,hi,rfl⟩:=List.mem_iff_getElem.1 hx;obtain ⟨z,h1,h2⟩:=h i
  have e:dv a i=a[i]:=by simp [dv,List.getD,hi]
  rw [e] at h1
  exact (Fit.ov h1 hD hlt h2).mono hT
theorem AInv.row_ok {n t:Nat} {L:List Vec} {rs:List (List Rat)} {ok:Bool} (h:AInv n t L rs ok) (hb:4 * bnd t n + 4 * t + 8≤17179869184):∀ r∈rs,FitL r∧r.length=n + 1:=fun x hx=>by
  obtain ⟨R,D,h1,h2,h3⟩:=h;obtain ⟨r,hr,h4⟩:=h1.of_mem hx;have hT:=bnd_mono (t:=t) h2.rank_n;have hov:=h3.ov r hr
  rw [← h4.vec] at hov
  exact ⟨fitL_dv h3.pos h3.lt hov (by omega),h4.len⟩
theorem AInv.red_fit {n t d:Nat} {L:List Vec} {rs:List (List Rat)} {ok:Bool} {c:List Rat} (h:AInv n t L rs ok) (hn:n≤64) (hb:4 * bnd t n + 4 * t + 8≤17179869184) (hc:c.length=n + 1) (hd:0<d) (hdt:d<4294967296 ^ t) (ho:Ov d t (dv c)):∀ i,(∀ x∈reduceD (rs.take i) c,Fit x (t + bnd t n + 1))∧(reduceD (rs.take i) c).length=c.length:=fun i=>by
  obtain ⟨R,D,h1,h2,h3⟩:=h;have hr:=h2.rank_n;have hT:=bnd_mono (t:=t) hr
  have h1':RepDs n (rs.take i ++ rs.drop i) R:=by rw [List.take_append_drop]; exact h1
  obtain ⟨R1,R2,e,h4⟩:=h1'.split;obtain ⟨h5,h6⟩:=reduceD_spec h4 hc
  subst e
  have hlen:R1.length<4294967295:=by simp at hr; omega
  have h7:=red_ov h2.good.take hlen h3.lt (fun r hr=>h3.ov r (by simp [hr])) ho
  rw [← h6] at h7
  refine ⟨fun x hx=>?_,by rw [h5,hc]⟩
  obtain ⟨j,hj,rfl⟩:=List.mem_iff_getElem.1 hx;obtain ⟨z,h8,h9⟩:=h7 j
  have e:dv (reduceD (rs.take i) c) j=(reduceD (rs.take i) c)[j]:=by simp [dv,List.getD,hj]
  rw [e] at h8
  have hlt:D * d<4294967296 ^ (t + bnd t (R1 ++ R2).length + 1):=by
    have h10:D * d<4294967296 ^ bnd t (R1 ++ R2).length * 4294967296 ^ t:=Nat.mul_lt_mul'' h3.lt hdt
    have h11:4294967296 ^ (t + bnd t (R1 ++ R2).length + 1)=4294967296 ^ bnd t (R1 ++ R2).length * 4294967296 ^ t * 4294967296:=by rw [Nat.pow_succ,Nat.pow_add,Nat.mul_comm (4294967296 ^ t)]
    omega
  exact (Fit.ov h8 (Nat.mul_pos h3.pos hd) hlt h9).mono (by omega)
theorem AInv.red_ok {n t d:Nat} {L:List Vec} {rs:List (List Rat)} {ok:Bool} {c:List Rat} (h:AInv n t L rs ok) (hn:n≤64) (hb:4 * bnd t n + 4 * t + 8≤17179869184) (hc:c.length=n + 1) (hd:0<d) (hdt:d<4294967296 ^ t) (ho:Ov d t (dv c)):∀ i,i≤rs.length→FitL (reduceD (rs.take i) c)∧(reduceD (rs.take i) c).length=c.length:=fun i _ =>
  let ⟨h1,h2⟩:=h.red_fit hn hb hc hd hdt ho i
  ⟨fun x hx=>(h1 x hx).mono (by omega),h2⟩
theorem AInv.len {n t:Nat} {L:List Vec} {rs:List (List Rat)} {ok:Bool} (h:AInv n t L rs ok) (hn:n≤64):rs.length≤64:=by
  obtain ⟨R,h1,h2⟩:=h.rank
  have:=h1.rank_n; omega
theorem OkS.red_ok {z0:Int} {t:Nat} {cs:List CR} (h:OkS z0 t cs) {L:List Vec} {rs:List (List Rat)} {ok:Bool} (hA:AInv (heldG z0) t L rs ok) {c:CR} (hc:isC c (heldG z0:Int)=true) (hv:OvC (heldG z0) t (conT c)):∀ i,i≤rs.length→FitL (reduceD (rs.take i) (rowD (heldG z0) (conT c)))∧(reduceD (rs.take i) (rowD (heldG z0) (conT c))).length=(rowD (heldG z0) (conT c)).length:=by
  obtain ⟨d,h1,h2,h3⟩:=hv;obtain ⟨_,_,h4,h5⟩:=isC_spec hc
  exact hA.red_ok (heldG_le z0) h.bn (rowD_length _ _) h1 h2 (by rw [rowD_dv h5]; exact h3)
theorem OkS.red_fit {z0:Int} {t:Nat} {cs:List CR} (h:OkS z0 t cs) {L:List Vec} {rs:List (List Rat)} {ok:Bool} (hA:AInv (heldG z0) t L rs ok) {c:CR} (hc:isC c (heldG z0:Int)=true) (hv:OvC (heldG z0) t (conT c)):∀ x∈reduceD rs (rowD (heldG z0) (conT c)),Fit x (t + bnd t (heldG z0) + 1):=by
  obtain ⟨d,h1,h2,h3⟩:=hv;obtain ⟨_,_,h4,h5⟩:=isC_spec hc;have h6:=(hA.red_fit (heldG_le z0) h.bn (rowD_length _ _) h1 h2 (by rw [rowD_dv h5]; exact h3) rs.length).1
  rwa [List.take_length] at h6
theorem OkS.stepD {z0:Int} {t:Nat} {cs:List CR} {L:List Vec} {rs:List (List Rat)} {ok:Bool} (hA:AInv (heldG z0) t L rs ok) {c:CR} (hc:isC c (heldG z0:Int)=true) (hv:OvC (heldG z0) t (conT c)):AInv (heldG z0) t (L ++ [cv (heldG z0) (conT c).1 (conT c).2]) (solveD (heldG z0) rs ok (rowD (heldG z0) (conT c))).1 (solveD (heldG z0) rs ok (rowD (heldG z0) (conT c))).2:=by
  obtain ⟨d,h1,h2,h3⟩:=hv;obtain ⟨_,_,h4,h5⟩:=isC_spec hc;have h6:=hA.step (heldG_le z0) (rowD_length (heldG z0) (conT c)) h1 (by rw [rowD_dv h5]; exact h3)
  rwa [rowD_dv h5] at h6
def stepD (k:Nat) (b:List Rat) (r:List Rat):List Rat:=if r.getD k 0=0 then r else lessD r b (r.getD k 0)
theorem solveD_n {n:Nat} {rs:List (List Rat)} {ok:Bool} {c a:List Rat} (ha:a=reduceD rs c) (h:leadD a=n):solveD n rs ok c=(rs,ok && decide (a.getD n 0=0)):=by
  subst ha
  unfold solveD
  simp only [if_pos h]
theorem solveD_k {n:Nat} {rs:List (List Rat)} {ok:Bool} {c a b:List Rat} {k:Nat} {x:Rat} (ha:a=reduceD rs c) (hk:k=leadD a) (h:¬ k=n) (hx:x=1 / a.getD k 0) (hb:b=a.map fun z=>z * x):solveD n rs ok c=(rs.map (stepD k b) ++ [b],ok):=by
  subst ha; subst hk; subst hx; subst hb
  unfold solveD
  simp only [if_neg h]
  rfl
theorem updD_T {rs:List (List Rat)} {j k:Nat} {b z:List Rat} {y:Rat} (hz:rs[j]?=some z) (hk:z[k]?=some y) (hy:y≠0):(upd (stepD k b) rs j).set j (lessD z b y)=upd (stepD k b) rs (j + 1):=by
  rw [← upd_set hz]
  congr 1
  unfold stepD; rw [getD_of hk,if_neg hy]
theorem updD_F {rs:List (List Rat)} {j k:Nat} {b z:List Rat} {y:Rat} (hz:rs[j]?=some z) (hk:z[k]?=some y) (hy:y=0):upd (stepD k b) rs j=upd (stepD k b) rs (j + 1) :=
  upd_same hz (by unfold stepD; rw [getD_of hk,if_pos hy])
theorem leadD_lt {a:List Rat} (h:0<a.length):leadD a<a.length:=(leadD_spec (l:=a) (by intro e; rw [e] at h; simp at h)).1
set_option maxHeartbeats 2000000 in
theorem c_solve10 {M : List Nat} {w : World} {vl : Value} {cs : List CR} {z0 : Int} {t : Nat} (hL : Lay rdC M w vl cs) (hbd : Bd M w) (oks : OkS z0 t cs) :
    Ret Tryz.prog 61 #[vl,.int .i64 (((heldG z0):Nat):Int)] w (fun r w'=>∃ vR rs ok,r=.tuple #[vR,.bool ok]∧Lay (rdR rdP) M w' vR rs∧AInv (heldG z0) t (vecs (heldG z0) cs) rs ok∧Mod [] w w'):=by
 have hbd0:=hbd;obtain ⟨TL,tL,rfl⟩:=hL.form;have hmx:=hL.max; unfold maxLen at hmx;have hhd:=heldG_le z0;have hbn:=oks.bn
 refine Ret.of (vs:=[.slice TL cs.length tL,.int .i64 (((heldG z0):Nat):Int)]) (n:=110) Tryz.func61 rfl rfl rfl rfl ?_
 have C0:Mod [] w w:=Mod.refl _ _
 refine W.sr<|L.b rfl<|L.b rfl<|L.z<|W.sr<|L.b rfl<|L.z ?_
 refine W.sr<|L.b rfl<|L.z<|W.seq<|W.sr<|L.b rfl<|L.z ?_
 refine W.block<|W.loop (ι:=Nat × Value × List (List Value) × List (List Rat) × Bool) (fun (i,u,css,rs,ok)=>[(0,.slice TL cs.length tL),(1,.int .i64 (((heldG z0):Nat):Int)),(6,u),(7,.bool ok),(8,.int .i64 (i:Int))]) (fun (i,u,css,rs,ok) w_=>Lay rdC (ownL u ++ M) w_ (.slice TL cs.length tL) cs∧w_.ownsRow w.heap.size 23 1 u rs.length css.flatten∧LayL (rdR rdP) (ownL u ++ M) w_ css rs∧Bd (ownL u ++ M) w_∧Mod [] w w_∧i≤cs.length∧AInv (heldG z0) t (vecs (heldG z0) (cs.take i)) rs ok) (fun (i,u,css,rs,ok)=>cs.length - i) (0,.slice none 0 0,[],[],true) ?_ ?_ ?_
 · repeat' constructor
 ·
  exact ⟨hL.su,own_nil _ _ _ _,LayL.nil,hbd.su,C0,Nat.zero_le _,AInv.nil _ _⟩
 rintro ⟨i,u,css,rs,ok⟩ w1 ⟨hL,ho,hl,hbd,C0,hi,hA⟩
 refine W.seq<|W.sr<|L.k rfl<|L.k rfl<|L.lL rfl hL Q22<|L.lt rfl rfl<|L.z<|W.cond rfl ?_ ?_
 ·
  intro J18
  try simp only [bq,ne_eq] at J18
  refine W.skip<|X.seq<|W.seq<|W.block<|W.seq<|W.sr<|L.k rfl<|L.k rfl<|L.aL (j:=i) rfl rfl hL Q22 rfl (by omega) ?_
  obtain ⟨z24,cs24,P24,V24,vt24,ds24,rfl,Y24,vn24,vd24,rfl,I24,H24⟩:=Lay.elemQ hL (j:=i) (by omega);obtain ⟨T24,t24,rfl⟩:=Y24.form;obtain ⟨A24,c24,rfl⟩:=I24.form;obtain ⟨B24,e24,rfl⟩:=H24.form
  refine L.v (R1.loadE rfl V24 tyG42) rfl<|L.k rfl<|L.c rfl (c_ref8_Is Y24 I24 H24 (n:=((heldG z0):Int)) (by omega) hbd (oks.sm _ (List.mem_of_getElem? P24))) ?_
  rintro _ w2 ⟨rfl,C2⟩
  replace hL:=hL.gr C2;replace ho:=own_gs ho C2;replace hl:=hl.gr C2;replace hbd:=hbd.gr C2;replace C0:=C0.trans C2;replace Y24:=Y24.gr C2;replace I24:=I24.gr C2;replace H24:=H24.gr C2;clear C2
  refine L.v (R1.not rfl) rfl<|L.z<|W.cond rfl ?_ ?_
  ·
   intro J27
   simp only [Bool.not_eq_true',Bool.not_eq_false'] at J27
   refine W.exit<|X.thenExit<|X.here<|X.seq<|W.region<|L.k rfl<|L.inc rfl rfl (by omega)<|L.b rfl<|L.nil<|X.next (i + 1,u,css,rs,ok) ?_ ?_ ?_
   · repeat' constructor
   ·
    exact ⟨hL.su,ho,hl.su,hbd.su,C0,by omega,by rw [vecs_no P24 J27]; exact hA⟩
   first | omega | (dsimp only; omega)
  intro J27
  simp only [Bool.not_eq_true',Bool.not_eq_false'] at J27
  refine W.skip<|X.seq<|W.sr<|L.k rfl<|L.k rfl<|L.k rfl<|L.aL (j:=i) rfl rfl hL Q22 rfl (by omega) ?_
  obtain ⟨z32,cs32,P32,V32,vt32,ds32,rfl,Y32,vn32,vd32,rfl,I32,H32⟩:=Lay.elemQ hL (j:=i) (by omega);obtain ⟨T32,t32,rfl⟩:=Y32.form;obtain ⟨A32,c32,rfl⟩:=I32.form;obtain ⟨B32,e32,rfl⟩:=H32.form
  obtain rfl:z24=z32:=by have h9:=P32; rw [P24] at h9; injection h9
  refine L.v (R1.loadE rfl V32 tyG42) rfl<|L.k rfl<|L.c rfl (c_row Y32 I32 H32 hbd (heldG_le _) J27 (oks.sm _ (List.mem_of_getElem? P24)).1) ?_
  rintro v34 w3 ⟨css6,O6,hl6,hmX⟩
  refine L.c rfl (c_reduce (M:=(ownL u ++ M)) ((own_read ho hl).ownd O6 hmX) O6 hl6 hmX.size (hbd.ownd O6 hmX) (by rw [rowD_length]; omega) (oks.red_ok hA J27 (oks.ov _ (List.mem_of_getElem? P24) J27)) (fun r hr=>⟨(hA.row_ok oks.bn r hr).1,by rw [(hA.row_ok oks.bn r hr).2,rowD_length]⟩) (hA.len (heldG_le _))) ?_
  rintro a9 w4 ⟨css7,O7,hl7,C4⟩
  replace C4:=hmX.trans C4;replace hL:=hL.ownd O7 C4;replace hl:=hl.ownd O7 C4;replace hbd:=hbd.ownd O7 C4;replace Y24:=Y24.ownd O7 C4;replace I24:=I24.ownd O7 C4;replace H24:=H24.ownd O7 C4;replace Y32:=Y32.ownd O7 C4;replace I32:=I32.ownd O7 C4;replace H32:=H32.ownd O7 C4;have haw_ho_ho7:=own_away_res ho O7;replace O7:=own_less O7 C0.size;replace ho:=own_gs ho C4;replace C0:=C0.trans C4;clear C4
  obtain ⟨a,hae⟩:∃ a,a=reduceD rs (rowD (heldG z0) (conT z24)):=⟨_,rfl⟩
  rw [← hae] at O7 hl7
  have hok9:=oks.red_ok hA J27 (oks.ov _ (List.mem_of_getElem? P24) J27) rs.length (Nat.le_refl _)
  rw [List.take_length,← hae,rowD_length] at hok9
  obtain ⟨hfa,hal⟩:=hok9;have hft:=oks.red_fit hA J27 (oks.ov _ (List.mem_of_getElem? P24) J27)
  rw [← hae] at hft
  refine L.b rfl<|L.z<|W.sr<|L.k rfl<|L.c rfl (c_lead (own_read O7 hl7) hbd hfa (by omega) (by omega)) ?_
  rintro _ w5 ⟨rfl,C5⟩
  replace hL:=hL.gr C5;replace ho:=own_gs ho C5;replace hl:=hl.gr C5;replace hbd:=hbd.gr C5;replace C0:=C0.trans C5;replace Y24:=Y24.gr C5;replace I24:=I24.gr C5;replace H24:=H24.gr C5;replace Y32:=Y32.gr C5;replace I32:=I32.gr C5;replace H32:=H32.gr C5;replace O7:=own_gs O7 C5;replace hl7:=hl7.gr C5;clear C5
  obtain ⟨kk,hkk⟩:∃ kk,kk=leadD a:=⟨_,rfl⟩
  rw [← hkk]
  have hkl:kk<a.length:=by rw [hkk]; exact leadD_lt (by omega)
  refine L.b rfl<|L.z<|W.seq<|W.sr<|L.k rfl<|L.k rfl<|L.v ((R1.eq rfl rfl).asB (c:=decide (kk=(heldG z0))) (by congr 1; apply propext; omega)) rfl<|L.z ?_
  refine W.cond rfl ?_ ?_
  ·
   intro J40
   try simp only [bq,ne_eq] at J40
   refine W.sr<|L.k rfl<|L.k rfl ?_
   cases ok
   ·
    try simp only [bq,ne_eq] at W42
    refine L.o rfl<|L.o rfl<|L.o rfl<|L.o rfl<|L.o rfl<|L.pF rfl rfl<|L.b rfl<|L.z<|W.exit<|X.thenExit ?_
    refine X.here<|X.seq<|W.region<|L.k rfl<|L.inc rfl rfl (by omega)<|L.b rfl<|L.nil<|X.next (i + 1,u,css,rs,false) ?_ ?_ ?_
    · repeat' constructor
    ·
     exact ⟨hL.su,ho,hl.su,hbd.su,C0,by omega,by have h9:=OkS.stepD (cs:=cs) (ok:=false) hA J27 (oks.ov _ (List.mem_of_getElem? P24) J27); rw [solveD_n hae (hkk.symm.trans J40)] at h9; rw [vecs_yes P24 J27]; exact h9⟩
    first | omega | (dsimp only; omega)
   try simp only [bq,ne_eq] at W42
   refine L.p rfl (R1.move rfl)<|L.p rfl (R1.move rfl)<|L.p rfl (R1.atOwn (i:=(heldG z0)) rfl rfl O7 Q23 rfl (by omega)) ?_
   obtain ⟨z46,cs46,P46,V46,A46,a46,B46,b46,rfl,I46,H46⟩:=own_elemQ O7 rfl hl7 (j:=(heldG z0)) (by omega)
   refine L.p rfl (R1.loadE rfl V46 tyG40)<|L.callOn rfl rfl rfl rfl (c_ref2_Zero (q:=z46) (rv_toL _) I46 H46 hbd (Nat.le_trans (hfa _ (List.mem_of_getElem? P46)).1 (by decide)) (Nat.le_trans (hfa _ (List.mem_of_getElem? P46)).2 (by decide))) rfl ?_
   rintro _ w6 ⟨rfl,C6⟩
   replace hL:=hL.gr C6;replace ho:=own_gs ho C6;replace hl:=hl.gr C6;replace hbd:=hbd.gr C6;replace C0:=C0.trans C6;clear C6
   refine L.pT rfl rfl<|L.b rfl<|L.z<|W.exit<|X.thenExit<|X.here<|X.seq<|W.region<|L.k rfl<|L.inc rfl rfl (by omega) ?_
   refine L.b rfl<|L.nil<|X.next (i + 1,u,css,rs,decide (z46=0)) ?_ ?_ ?_
   · repeat' constructor
   ·
    exact ⟨hL.su,ho,hl.su,hbd.su,C0,by omega,by have h9:=OkS.stepD (cs:=cs) (ok:=true) hA J27 (oks.ov _ (List.mem_of_getElem? P24) J27); rw [solveD_n hae (hkk.symm.trans J40)] at h9; rw [vecs_yes P24 J27]; rw [getD_of P46] at h9; exact h9⟩
   first | omega | (dsimp only; omega)
  intro J40
  try simp only [bq,ne_eq] at J40
  refine W.skip<|X.seq<|W.seq<|W.cut (ι:=Rat × Option Addr × Nat × Option Addr × Nat × Nat) (fun (x,A55,c55,B55,e55,g11)=>[(0,.slice TL cs.length tL),(1,.int .i64 (((heldG z0):Nat):Int)),(6,u),(7,.bool ok),(8,.int .i64 (i:Int)),(9,a9),(10,.int .i64 (kk:Int)),(11,.pointer (some ⟨g11,0,none⟩))]) (fun (x,A55,c55,B55,e55,g11) w_=>Lay rdC (ownL a9 ++ (ownL u ++ M)) w_ (.slice TL cs.length tL) cs∧w_.ownsRow w.heap.size 23 1 u rs.length css.flatten∧LayL (rdR rdP) (ownL a9 ++ (ownL u ++ M)) w_ css rs∧Bd (ownL a9 ++ (ownL u ++ M)) w_∧Mod [] w w_∧Away u a9∧w_.ownsRow w.heap.size 40 3 a9 a.length css7.flatten∧LayL rdP (ownL a9 ++ (ownL u ++ M)) w_ css7 a∧Blk w_ g11 40 #[.bool (decide (x.num<0)),.slice A55 (toL x.num.natAbs).length c55,.slice B55 (toL x.den).length e55]∧u.ownBlock≠some g11∧a9.ownBlock≠some g11∧U32 (ownL a9 ++ (ownL u ++ M)) w_ (.slice A55 (toL x.num.natAbs).length c55) (toL x.num.natAbs)∧U32 (ownL a9 ++ (ownL u ++ M)) w_ (.slice B55 (toL x.den).length e55) (toL x.den)∧x=1 / a.getD kk 0∧Fit x (2 + (t + bnd t (heldG z0) + 1))) ?_ ?_
  ·
   refine W.drawW (T:=[]) rfl (by decide +kernel) (NoHang.join (NoHang.then (NoHang.block (NoHang.then (NoHang.next (NoHang.block (NoHang.then NoHang.post))))))) (fun w7 C7=>?_)
   replace hL:=hL.gr C7;replace ho:=own_gs ho C7;replace hl:=hl.gr C7;replace hbd:=hbd.gr C7;replace C0:=C0.trans C7;replace O7:=own_gs O7 C7;replace hl7:=hl7.gr C7
   have G1:Mod [] w7 w7:=Mod.refl _ _
   clear C7
   refine D.z 1 rfl (by kernel_rfl) rfl G1<|D.z 2 rfl (by kernel_rfl) rfl G1<|D.t 3 rfl (by kernel_rfl) (fun _ hS=>R1.atOwn (i:=kk) rfl rfl (own_gs O7 hS) Q23 rfl (by omega)) G1 ?_
   obtain ⟨z54,cs54,P54,V54,A54,a54,B54,b54,rfl,I54,H54⟩:=own_elemQ O7 rfl hl7 (j:=kk) (by omega)
   refine D.t 4 rfl (by kernel_rfl) (fun _ hS=>R1.loadE rfl (SlE.gr V54 hS) tyG40) G1<|D.many (rs:=[0,9]) (by decide +kernel) rfl ?_
   intro i_ hi_
   simp only [List.mem_cons,List.not_mem_nil,or_false] at hi_
   rcases hi_ with rfl | rfl
   ·
    refine ⟨_,rfl,fun hX=>?_⟩
    refine L.c rfl (c_ref2_Int (n:=1) (by decide) (by decide) hbd) ?_
    rintro _ w8 ⟨⟨A50,c50,B50,e50,rfl,I50,H50⟩,C8⟩
    replace hL:=hL.gr C8;replace ho:=own_gs ho C8;replace hl:=hl.gr C8;replace hbd:=hbd.gr C8;replace C0:=C0.trans C8;replace O7:=own_gs O7 C8;replace hl7:=hl7.gr C8;replace I54:=I54.gr C8;replace H54:=H54.gr C8;replace G1:=G1.trans C8;clear C8;have F50:=Fit.int (n:=1) (by decide) (by decide)
    refine L.nil (hX _ _ ⟨.inr G1,?_⟩)
    refine D.many (rs:=[5,9]) (by decide +kernel) rfl ?_
    intro i_ hi_
    simp only [List.mem_cons,List.not_mem_nil,or_false] at hi_
    rcases hi_ with rfl | rfl
    ·
     refine ⟨_,rfl,fun hX=>?_⟩
     refine L.c rfl (c_ref2_Div (qa:=(((1:Int)):Rat)) (qb:=z54) (rv_toL _) (rv_toL _) I50 H50 I54 H54 hbd (Nat.le_trans F50.1 (by decide)) (Nat.le_trans F50.2 (by decide)) (Nat.le_trans (hfa _ (List.mem_of_getElem? P54)).1 (by decide)) (Nat.le_trans (hfa _ (List.mem_of_getElem? P54)).2 (by decide))) ?_
     rintro _ w9 ⟨v55,rfl,⟨A55,c55,B55,e55,rfl,I55,H55⟩,C9⟩
     replace hL:=hL.gr C9;replace ho:=own_gs ho C9;replace hl:=hl.gr C9;replace hbd:=hbd.gr C9;replace C0:=C0.trans C9;replace O7:=own_gs O7 C9;replace hl7:=hl7.gr C9;replace G1:=G1.trans C9;clear C9;have F55:=Fit.div F50 (hfa _ (List.mem_of_getElem? P54)) (by decide)
     refine L.nil (hX _ _ ⟨.inr G1,?_⟩)
     refine D.z 6 rfl (by kernel_rfl) rfl G1<|D.t 7 rfl (by kernel_rfl) (fun _ hS=>R1.extract rfl rfl) G1<|D.t 8 rfl (by kernel_rfl) (fun _ hS=>R1.extract rfl rfl) G1<|D.one 9 rfl (by kernel_rfl) (fun hX=>?_)
     refine L.alloc tyZ40 rfl ?_
     intro g11 w10 D11
     have hgs_g11:=New.ge D11 G1.size;replace G1:=G1.trans D11.mod;replace hL:=hL.new D11;have hno_ho_g11:=own_ne_new ho D11;replace ho:=own_gs ho D11.mod;replace hl:=hl.new D11;replace hbd:=hbd.new D11;have K11:=New.ge D11 C0.size;replace C0:=C0.tn D11;have hno_ho7_g11:=own_ne_new O7 D11;replace O7:=own_gs O7 D11.mod;replace hl7:=hl7.new D11;replace I55:=I55.new D11;replace H55:=H55.new D11;have E11:=D11.blk;clear D11
     refine L.nil (hX _ _ ⟨.inr G1,?_⟩)
     refine D.one 10 rfl (by kernel_rfl) (fun hX=>?_)
     refine L.storeBox rfl rfl E11 rfl rfl tyG40 ?_
     intro w11 E11' C11
     replace G1:=G1.old1 C11 hgs_g11;replace hL:=hL.ms C11;replace ho:=own_far ho C11 hno_ho_g11;replace hl:=hl.ms C11;replace hbd:=hbd.gr C11;replace C0:=C0.old1 C11 K11;replace O7:=own_far O7 C11 hno_ho7_g11;replace hl7:=hl7.ms C11;replace I55:=I55.ms C11;replace H55:=H55.ms C11;clear C11;replace E11:=E11'; clear E11'
     refine L.nil (hX _ _ ⟨.inr G1,?_⟩)
     refine D.t 11 rfl (by kernel_rfl) (fun _ hS=>R1.assign rfl) G1<|D.done (by decide +kernel) ?_ _
     refine X.join ((((1:Int)):Rat) / z54,A55,c55,B55,e55,g11) ?_ ?_
     · repeat' constructor
     exact ⟨hL.su,ho,hl.su,hbd.su,C0,haw_ho_ho7,O7,hl7.su,E11,hno_ho_g11,hno_ho7_g11,I55.su,H55.su,by rw [getD_of P54]; rfl,(Fit.div (Fit.int (n:=1) (by decide) (by decide)) (hft _ (List.mem_of_getElem? P54)) (by decide))⟩
    refine ⟨_,rfl,fun hX=>?_⟩
    refine L.alloc tyZ40 rfl ?_
    intro g11 w12 D11
    have hgs_g11:=New.ge D11 G1.size;replace G1:=G1.trans D11.mod;replace hL:=hL.new D11;have hno_ho_g11:=own_ne_new ho D11;replace ho:=own_gs ho D11.mod;replace hl:=hl.new D11;replace hbd:=hbd.new D11;have K11:=New.ge D11 C0.size;replace C0:=C0.tn D11;have hno_ho7_g11:=own_ne_new O7 D11;replace O7:=own_gs O7 D11.mod;replace hl7:=hl7.new D11;replace I54:=I54.new D11;replace H54:=H54.new D11;replace I50:=I50.new D11;replace H50:=H50.new D11;have E11:=D11.blk;clear D11
    refine L.nil (hX _ _ ⟨.inr G1,?_⟩)
    refine D.one 5 rfl (by kernel_rfl) (fun hX=>?_)
    refine L.c rfl (c_ref2_Div (qa:=(((1:Int)):Rat)) (qb:=z54) (rv_toL _) (rv_toL _) I50 H50 I54 H54 hbd (Nat.le_trans F50.1 (by decide)) (Nat.le_trans F50.2 (by decide)) (Nat.le_trans (hfa _ (List.mem_of_getElem? P54)).1 (by decide)) (Nat.le_trans (hfa _ (List.mem_of_getElem? P54)).2 (by decide))) ?_
    rintro _ w13 ⟨v55,rfl,⟨A55,c55,B55,e55,rfl,I55,H55⟩,C13⟩
    replace hL:=hL.gr C13;replace ho:=own_gs ho C13;replace hl:=hl.gr C13;replace hbd:=hbd.gr C13;replace C0:=C0.trans C13;replace O7:=own_gs O7 C13;replace hl7:=hl7.gr C13;replace E11:=E11.gr C13;replace G1:=G1.trans C13;clear C13;have F55:=Fit.div F50 (hfa _ (List.mem_of_getElem? P54)) (by decide)
    refine L.nil (hX _ _ ⟨.inr G1,?_⟩)
    refine D.z 6 rfl (by kernel_rfl) rfl G1<|D.t 7 rfl (by kernel_rfl) (fun _ hS=>R1.extract rfl rfl) G1<|D.t 8 rfl (by kernel_rfl) (fun _ hS=>R1.extract rfl rfl) G1<|D.one 10 rfl (by kernel_rfl) (fun hX=>?_)
    refine L.storeBox rfl rfl E11 rfl rfl tyG40 ?_
    intro w14 E11' C14
    replace G1:=G1.old1 C14 hgs_g11;replace hL:=hL.ms C14;replace ho:=own_far ho C14 hno_ho_g11;replace hl:=hl.ms C14;replace hbd:=hbd.gr C14;replace C0:=C0.old1 C14 K11;replace O7:=own_far O7 C14 hno_ho7_g11;replace hl7:=hl7.ms C14;replace I55:=I55.ms C14;replace H55:=H55.ms C14;clear C14;replace E11:=E11'; clear E11'
    refine L.nil (hX _ _ ⟨.inr G1,?_⟩)
    refine D.t 11 rfl (by kernel_rfl) (fun _ hS=>R1.assign rfl) G1<|D.done (by decide +kernel) ?_ _
    refine X.join ((((1:Int)):Rat) / z54,A55,c55,B55,e55,g11) ?_ ?_
    · repeat' constructor
    exact ⟨hL.su,ho,hl.su,hbd.su,C0,haw_ho_ho7,O7,hl7.su,E11,hno_ho_g11,hno_ho7_g11,I55.su,H55.su,by rw [getD_of P54]; rfl,(Fit.div (Fit.int (n:=1) (by decide) (by decide)) (hft _ (List.mem_of_getElem? P54)) (by decide))⟩
   refine ⟨_,rfl,fun hX=>?_⟩
   refine L.alloc tyZ40 rfl ?_
   intro g11 w15 D11
   have hgs_g11:=New.ge D11 G1.size;replace G1:=G1.trans D11.mod;replace hL:=hL.new D11;have hno_ho_g11:=own_ne_new ho D11;replace ho:=own_gs ho D11.mod;replace hl:=hl.new D11;replace hbd:=hbd.new D11;have K11:=New.ge D11 C0.size;replace C0:=C0.tn D11;have hno_ho7_g11:=own_ne_new O7 D11;replace O7:=own_gs O7 D11.mod;replace hl7:=hl7.new D11;replace I54:=I54.new D11;replace H54:=H54.new D11;have E11:=D11.blk;clear D11
   refine L.nil (hX _ _ ⟨.inr G1,?_⟩)
   refine D.one 0 rfl (by kernel_rfl) (fun hX=>?_)
   refine L.c rfl (c_ref2_Int (n:=1) (by decide) (by decide) hbd) ?_
   rintro _ w16 ⟨⟨A50,c50,B50,e50,rfl,I50,H50⟩,C16⟩
   replace hL:=hL.gr C16;replace ho:=own_gs ho C16;replace hl:=hl.gr C16;replace hbd:=hbd.gr C16;replace C0:=C0.trans C16;replace O7:=own_gs O7 C16;replace hl7:=hl7.gr C16;replace I54:=I54.gr C16;replace H54:=H54.gr C16;replace E11:=E11.gr C16;replace G1:=G1.trans C16;clear C16;have F50:=Fit.int (n:=1) (by decide) (by decide)
   refine L.nil (hX _ _ ⟨.inr G1,?_⟩)
   refine D.one 5 rfl (by kernel_rfl) (fun hX=>?_)
   refine L.c rfl (c_ref2_Div (qa:=(((1:Int)):Rat)) (qb:=z54) (rv_toL _) (rv_toL _) I50 H50 I54 H54 hbd (Nat.le_trans F50.1 (by decide)) (Nat.le_trans F50.2 (by decide)) (Nat.le_trans (hfa _ (List.mem_of_getElem? P54)).1 (by decide)) (Nat.le_trans (hfa _ (List.mem_of_getElem? P54)).2 (by decide))) ?_
   rintro _ w17 ⟨v55,rfl,⟨A55,c55,B55,e55,rfl,I55,H55⟩,C17⟩
   replace hL:=hL.gr C17;replace ho:=own_gs ho C17;replace hl:=hl.gr C17;replace hbd:=hbd.gr C17;replace C0:=C0.trans C17;replace O7:=own_gs O7 C17;replace hl7:=hl7.gr C17;replace E11:=E11.gr C17;replace G1:=G1.trans C17;clear C17;have F55:=Fit.div F50 (hfa _ (List.mem_of_getElem? P54)) (by decide)
   refine L.nil (hX _ _ ⟨.inr G1,?_⟩)
   refine D.z 6 rfl (by kernel_rfl) rfl G1<|D.t 7 rfl (by kernel_rfl) (fun _ hS=>R1.extract rfl rfl) G1<|D.t 8 rfl (by kernel_rfl) (fun _ hS=>R1.extract rfl rfl) G1<|D.one 10 rfl (by kernel_rfl) (fun hX=>?_)
   refine L.storeBox rfl rfl E11 rfl rfl tyG40 ?_
   intro w18 E11' C18
   replace G1:=G1.old1 C18 hgs_g11;replace hL:=hL.ms C18;replace ho:=own_far ho C18 hno_ho_g11;replace hl:=hl.ms C18;replace hbd:=hbd.gr C18;replace C0:=C0.old1 C18 K11;replace O7:=own_far O7 C18 hno_ho7_g11;replace hl7:=hl7.ms C18;replace I55:=I55.ms C18;replace H55:=H55.ms C18;clear C18;replace E11:=E11'; clear E11'
   refine L.nil (hX _ _ ⟨.inr G1,?_⟩)
   refine D.t 11 rfl (by kernel_rfl) (fun _ hS=>R1.assign rfl) G1<|D.done (by decide +kernel) ?_ _
   refine X.join ((((1:Int)):Rat) / z54,A55,c55,B55,e55,g11) ?_ ?_
   · repeat' constructor
   exact ⟨hL.su,ho,hl.su,hbd.su,C0,haw_ho_ho7,O7,hl7.su,E11,hno_ho_g11,hno_ho7_g11,I55.su,H55.su,by rw [getD_of P54]; rfl,(Fit.div (Fit.int (n:=1) (by decide) (by decide)) (hft _ (List.mem_of_getElem? P54)) (by decide))⟩
  rintro ⟨x,A55,c55,B55,e55,g11⟩ wj ⟨hL,ho,hl,hbd,C0,haw_ho_ho7,O7,hl7,E11,hno_ho_g11,hno_ho7_g11,I55,H55,hx,Fx⟩
  refine X.seq<|W.seq<|W.sr<|L.b rfl<|L.z<|W.block<|W.loop (ι:=Nat × List (List Value)) (fun (j,css7)=>[(0,.slice TL cs.length tL),(1,.int .i64 (((heldG z0):Nat):Int)),(6,u),(7,.bool ok),(8,.int .i64 (i:Int)),(9,a9),(10,.int .i64 (kk:Int)),(11,.pointer (some ⟨g11,0,none⟩)),(13,.int .i64 (j:Int))]) (fun (j,css7) w_=>Lay rdC (ownL a9 ++ (ownL u ++ M)) w_ (.slice TL cs.length tL) cs∧w_.ownsRow w.heap.size 23 1 u rs.length css.flatten∧LayL (rdR rdP) (ownL a9 ++ (ownL u ++ M)) w_ css rs∧Bd (ownL a9 ++ (ownL u ++ M)) w_∧Mod [] w w_∧Away u a9∧w_.ownsRow w.heap.size 40 3 a9 a.length css7.flatten∧LayL rdP (ownL a9 ++ (ownL u ++ M)) w_ css7 (upd (fun z=>z * x) a j)∧Blk w_ g11 40 #[.bool (decide (x.num<0)),.slice A55 (toL x.num.natAbs).length c55,.slice B55 (toL x.den).length e55]∧u.ownBlock≠some g11∧a9.ownBlock≠some g11∧U32 (ownL a9 ++ (ownL u ++ M)) w_ (.slice A55 (toL x.num.natAbs).length c55) (toL x.num.natAbs)∧U32 (ownL a9 ++ (ownL u ++ M)) w_ (.slice B55 (toL x.den).length e55) (toL x.den)∧j≤a.length) (fun (j,css7)=>a.length - j) (0,css7) ?_ ?_ ?_
  · repeat' constructor
  ·
   exact ⟨hL.su,ho,hl.su,hbd.su,C0,haw_ho_ho7,O7,by rw [upd_zero]; exact hl7.su,E11,hno_ho_g11,hno_ho7_g11,I55.su,H55.su,Nat.zero_le _⟩
  rintro ⟨j,css7⟩ w19 ⟨hL,ho,hl,hbd,C0,haw_ho_ho7,O7,hl7,E11,hno_ho_g11,hno_ho7_g11,I55,H55,hj⟩
  refine W.seq<|W.sr<|L.k rfl<|L.k rfl<|L.v (R1.lenOwn rfl O7 Q23) rfl<|L.lt rfl rfl<|L.z<|W.cond rfl ?_ ?_
  ·
   intro J61
   try simp only [bq,ne_eq] at J61
   refine W.skip<|X.seq<|W.seq<|W.block<|W.drawW (T:=[9]) rfl (by decide +kernel) (NoHang.block (NoHang.then (NoHang.next (NoHang.block (NoHang.then (NoHang.block (NoHang.then (NoHang.next (NoHang.block (NoHang.then NoHang.post)))))))))) (fun w20 C20=>?_)
   replace hL:=hL.gr C20;replace ho:=own_gs ho C20;replace hl:=hl.gr C20;replace hbd:=hbd.gr C20;replace C0:=C0.trans C20;replace O7:=own_gs O7 C20;replace hl7:=hl7.gr C20;replace E11:=E11.gr C20;replace I55:=I55.gr C20;replace H55:=H55.gr C20
   have G2:Mod [] w20 w20:=Mod.refl _ _
   clear C20;have hL_s:=hL;have ho_s:=ho;have hl_s:=hl;have ho7_s:=O7;have hl7_s:=hl7;have hb11_s:=E11;have hn55_s:=I55;have hd55_s:=H55
   refine D.z 0 rfl (by kernel_rfl) rfl G2<|D.z 1 rfl (by kernel_rfl) rfl G2<|D.z 2 rfl (by kernel_rfl) rfl G2<|D.z 3 rfl (by kernel_rfl) rfl G2<|D.t 4 rfl (by kernel_rfl) (fun _ hS=>R1.atOwn (i:=j) rfl rfl (own_gs ho7_s hS) Q23 rfl (by omega)) G2 ?_
   obtain ⟨z69,cs69,P69,V69,A69,a69,B69,b69,rfl,I69,H69⟩:=own_elemQ O7 rfl hl7 (j:=j) (by rw [upd_length]; omega)
   refine D.t 5 rfl (by kernel_rfl) (fun _ hS=>R1.loadE rfl (SlE.gr V69 hS) tyG40) G2 ?_
   have hzr:=P69
   rw [upd_get (by omega)] at hzr
   refine D.t 6 rfl (by kernel_rfl) (fun _ hS=>R1.loadBox rfl (hb11_s.gr hS) tyG40) G2<|D.one 7 rfl (by kernel_rfl) (fun hX=>?_)
   refine L.c rfl (c_ref2_Mul (qa:=z69) (qb:=x) (rv_toL _) (rv_toL _) I69 H69 I55 H55 hbd (Nat.le_trans (hfa _ (List.mem_of_getElem? hzr)).1 (by decide)) (Nat.le_trans (hfa _ (List.mem_of_getElem? hzr)).2 (by decide)) (Nat.le_trans Fx.1 (by omega)) (Nat.le_trans Fx.2 (by omega))) ?_
   rintro _ w21 ⟨⟨A71,c71,B71,e71,rfl,I71,H71⟩,C21⟩
   replace hL:=hL.gr C21;replace ho:=own_gs ho C21;replace hl:=hl.gr C21;replace hbd:=hbd.gr C21;replace C0:=C0.trans C21;replace O7:=own_gs O7 C21;replace hl7:=hl7.gr C21;replace E11:=E11.gr C21;replace I55:=I55.gr C21;replace H55:=H55.gr C21;replace I69:=I69.gr C21;replace H69:=H69.gr C21;replace G2:=G2.trans C21;clear C21;have F71:=Fit.mul (hfa _ (List.mem_of_getElem? hzr)) Fx
   refine L.nil (hX _ _ ⟨.inr G2,?_⟩)
   refine D.t 8 rfl (by kernel_rfl) (fun _ hS=>R1.atOwn (i:=j) rfl rfl (own_gs ho7_s hS) Q23 rfl (by omega)) G2<|D.one 9 rfl (by kernel_rfl) (fun hX=>?_)
   refine L.storeOwnA rfl rfl rfl O7 hl7 (by first | exact mem_own | (intro b hb; simp [hb])) (by rw [upd_length]; omega) ((⟨_,_,_,_,rfl,I71,H71⟩:rdP.rd _ _ _ (z69 * x))) tyG40 ?_
   intro w22 O7' hl7' C22
   replace hL:=hL.mo C22;replace ho:=own_away (s':=1) (el':=0) (k':=0) (B':=0) (ys:=[]) ho C22 (by first | assumption | exact Away.symm (by assumption));replace hl:=hl.mo C22;replace hbd:=hbd.gr C22;replace C0:=Mod.oldOwn C0 C22 O7;replace E11:=Blk.ownfar E11 C22 hno_ho7_g11;replace I55:=I55.mo C22;replace H55:=H55.mo C22;replace I69:=I69.mo C22;replace H69:=H69.mo C22;replace I71:=I71.mo C22;replace H71:=H71.mo C22;clear C22 hl7;replace O7:=O7'; clear O7';have hl7:=hl7'; clear hl7'
   refine L.nil (hX _ _ ⟨.inl rfl,?_⟩)
   refine D.done (by decide +kernel) ?_ _
   refine X.blockEnd<|X.seq<|W.region<|L.k rfl<|L.inc rfl rfl (by omega)<|L.b rfl<|L.nil<|X.next (j + 1,css7.set j [.bool (decide ((z69 * x).num<0)),.slice A71 (toL (z69 * x).num.natAbs).length c71,.slice B71 (toL (z69 * x).den).length e71]) ?_ ?_ ?_
   · repeat' constructor
   ·
    exact ⟨hL.su,ho,hl.su,hbd.su,C0,haw_ho_ho7,O7,by rw [← upd_set hzr]; exact hl7.su,E11,hno_ho_g11,hno_ho7_g11,I55.su,H55.su,by omega⟩
   first | omega | (dsimp only; omega)
  intro J61
  try simp only [bq,ne_eq] at J61
  obtain rfl:j=a.length:=by omega
  rw [upd_all] at hl7
  obtain ⟨b,hbe⟩:∃ b,b=a.map (fun z=>z * x):=⟨_,rfl⟩
  rw [← hbe] at hl7
  have hbl:b.length=(heldG z0) + 1:=by rw [hbe,List.length_map]; exact hal
  have hAb:Lay rdP (ownL u ++ M) w19 a9 b:=own_lay2 hbd0 O7 (by rw [hbl,hal]) hl7 haw_ho_ho7 (by intro b hb; first | exact hb | (simp only [mq] at hb ⊢; grind))
  have hfb:FitL b:=fun y hy=>by rw [hbe] at hy; obtain ⟨z,hz,rfl⟩:=List.mem_map.1 hy; exact ((hft z hz).mul Fx).mono (by omega)
  have okr:=hA.row_ok oks.bn;have hrl9:=hA.len (heldG_le z0)
  refine W.brk<|W.seq<|W.sr<|L.b rfl<|L.z ?_
  refine W.block<|W.loop (ι:=Nat × List (List Value)) (fun (j,css)=>[(0,.slice TL cs.length tL),(1,.int .i64 (((heldG z0):Nat):Int)),(6,u),(7,.bool ok),(8,.int .i64 (i:Int)),(9,a9),(10,.int .i64 (kk:Int)),(14,.int .i64 (j:Int))]) (fun (j,css) w_=>Lay rdC (ownL u ++ M) w_ (.slice TL cs.length tL) cs∧w_.ownsRow w.heap.size 23 1 u rs.length css.flatten∧LayL (rdR rdP) (ownL u ++ M) w_ css (upd (stepD kk b) rs j)∧Lay rdP (ownL u ++ M) w_ a9 b∧Bd (ownL u ++ M) w_∧Mod [] w w_∧j≤rs.length) (fun (j,css)=>rs.length - j) (0,css) ?_ ?_ ?_
  · repeat' constructor
  ·
   exact ⟨hL.su,ho,by rw [upd_zero]; exact hl.su,hAb.su,hbd.su,C0,Nat.zero_le _⟩
  rintro ⟨j,css⟩ w23 ⟨hL,ho,hl,hAb,hbd,C0,hj⟩
  refine W.seq<|W.sr<|L.k rfl<|L.k rfl<|L.v (R1.lenOwn rfl ho Q92) rfl<|L.lt rfl rfl<|L.z<|W.cond rfl ?_ ?_
  ·
   intro J76
   try simp only [bq,ne_eq] at J76
   refine W.skip<|X.seq<|W.seq<|W.block<|W.sr<|L.k rfl<|L.k rfl<|L.v (R1.atOwn (i:=j) rfl rfl ho Q92 rfl (by omega)) rfl ?_
   obtain ⟨z82,cs82,P82,V82,v82,rfl,hl82⟩:=own_elemQ ho rfl hl (j:=j) (by rw [upd_length]; omega);obtain ⟨A82,a82,rfl⟩:=hl82.form
   refine L.v (R1.loadE1 rfl V82 tyP23) rfl ?_
   have hzr:=P82
   rw [upd_get (by omega)] at hzr
   have hkz:kk<z82.length:=by rw [(okr _ (List.mem_of_getElem? hzr)).2]; omega
   refine L.k rfl<|L.aL (j:=kk) rfl rfl hl82 Q23 rfl hkz ?_
   obtain ⟨z85,cs85,P85,V85,A85,a85,B85,b85,rfl,I85,H85⟩:=Lay.elemQ hl82 (j:=kk) hkz
   refine L.v (R1.loadE rfl V85 tyG40) rfl<|L.c rfl (c_ref2_Zero (q:=z85) (rv_toL _) I85 H85 hbd (Nat.le_trans ((okr _ (List.mem_of_getElem? hzr)).1 _ (List.mem_of_getElem? P85)).1 (by decide)) (Nat.le_trans ((okr _ (List.mem_of_getElem? hzr)).1 _ (List.mem_of_getElem? P85)).2 (by decide))) ?_
   rintro _ w24 ⟨rfl,C24⟩
   replace hL:=hL.gr C24;replace ho:=own_gs ho C24;replace hl:=hl.gr C24;replace hAb:=hAb.gr C24;replace hbd:=hbd.gr C24;replace C0:=C0.trans C24;replace hl82:=hl82.gr C24;replace I85:=I85.gr C24;replace H85:=H85.gr C24;clear C24
   refine L.v (R1.not rfl) rfl<|L.z<|W.cond rfl ?_ ?_
   ·
    intro J87
    simp only [Bool.not_eq_true',Bool.not_eq_false',decide_eq_true_eq,decide_eq_false_iff_not] at J87
    refine W.drawW (T:=[16]) rfl (by decide +kernel) (NoHang.block (NoHang.then (NoHang.next (NoHang.block (NoHang.then (NoHang.block (NoHang.then (NoHang.next (NoHang.block (NoHang.then NoHang.post)))))))))) (fun w25 C25=>?_)
    replace hL:=hL.gr C25;replace ho:=own_gs ho C25;replace hl:=hl.gr C25;replace hAb:=hAb.gr C25;replace hbd:=hbd.gr C25;replace C0:=C0.trans C25;replace hl82:=hl82.gr C25;replace I85:=I85.gr C25;replace H85:=H85.gr C25
    have G3:Mod [] w25 w25:=Mod.refl _ _
    clear C25;have ho_s:=ho
    refine D.z 0 rfl (by kernel_rfl) rfl G3<|D.z 1 rfl (by kernel_rfl) rfl G3<|D.z 2 rfl (by kernel_rfl) rfl G3<|D.z 3 rfl (by kernel_rfl) rfl G3<|D.t 4 rfl (by kernel_rfl) (fun _ hS=>R1.atOwn (i:=j) rfl rfl (own_gs ho_s hS) Q92 rfl (by omega)) G3 ?_
    obtain ⟨z93,cs93,P93,V93,v93,rfl,hl93⟩:=own_elemQ ho rfl hl (j:=j) (by rw [upd_length]; omega);obtain ⟨A93,a93,rfl⟩:=hl93.form
    obtain rfl:z82=z93:=by have h9:=P93; rw [P82] at h9; injection h9
    refine D.t 5 rfl (by kernel_rfl) (fun _ hS=>R1.loadE1 rfl (SlE.gr V93 hS) tyP23) G3<|D.z 6 rfl (by kernel_rfl) rfl G3<|D.z 7 rfl (by kernel_rfl) rfl G3<|D.z 8 rfl (by kernel_rfl) rfl G3<|D.t 9 rfl (by kernel_rfl) (fun _ hS=>R1.atOwn (i:=j) rfl rfl (own_gs ho_s hS) Q92 rfl (by omega)) G3 ?_
    obtain ⟨z98,cs98,P98,V98,v98,rfl,hl98⟩:=own_elemQ ho rfl hl (j:=j) (by rw [upd_length]; omega);obtain ⟨A98,a98,rfl⟩:=hl98.form
    obtain rfl:z82=z98:=by have h9:=P98; rw [P82] at h9; injection h9
    refine D.t 10 rfl (by kernel_rfl) (fun _ hS=>R1.loadE1 rfl (SlE.gr V98 hS) tyP23) G3<|D.z 11 rfl (by kernel_rfl) rfl G3<|D.t 12 rfl (by kernel_rfl) (fun _ hS=>R1.atLay (j:=kk) rfl rfl (Lay.gr hl98 hS) Q23 rfl hkz) G3 ?_
    obtain ⟨z101,cs101,P101,V101,A101,a101,B101,b101,rfl,I101,H101⟩:=Lay.elemQ hl98 (j:=kk) hkz
    obtain rfl:z85=z101:=by have h9:=P101; rw [P85] at h9; injection h9
    refine D.t 13 rfl (by kernel_rfl) (fun _ hS=>R1.loadE rfl (SlE.gr V101 hS) tyG40) G3<|D.one 14 rfl (by kernel_rfl) (fun hX=>?_)
    refine L.c rfl (c_lessR hl93 hAb ⟨_,_,_,_,rfl,I101,H101⟩ hbd (okr _ (List.mem_of_getElem? hzr)).1 hfb ((okr _ (List.mem_of_getElem? hzr)).1 _ (List.mem_of_getElem? P101)) (by rw [(okr _ (List.mem_of_getElem? hzr)).2,hbl]) (by rw [(okr _ (List.mem_of_getElem? hzr)).2]; omega)) ?_
    rintro v102 w26 ⟨hl102,C26⟩
    replace hL:=hL.gr C26;replace ho:=own_gs ho C26;replace hl:=hl.gr C26;replace hAb:=hAb.gr C26;replace hbd:=hbd.gr C26;replace C0:=C0.trans C26;replace hl82:=hl82.gr C26;replace I85:=I85.gr C26;replace H85:=H85.gr C26;replace hl93:=hl93.gr C26;replace hl98:=hl98.gr C26;replace I101:=I101.gr C26;replace H101:=H101.gr C26;replace G3:=G3.trans C26;clear C26
    refine L.nil (hX _ _ ⟨.inr G3,?_⟩)
    refine D.t 15 rfl (by kernel_rfl) (fun _ hS=>R1.atOwn (i:=j) rfl rfl (own_gs ho_s hS) Q92 rfl (by omega)) G3<|D.one 16 rfl (by kernel_rfl) (fun hX=>?_)
    refine L.storeOwnS rfl rfl ho hl (by first | exact mem_own | (intro b hb; simp [hb])) (by rw [upd_length]; omega) (hl102) tyP23 ?_
    intro w27 ho' hl' C27
    replace hL:=hL.mo C27;replace hAb:=hAb.mo C27;replace hbd:=hbd.gr C27;replace C0:=Mod.oldOwn C0 C27 ho;replace hl82:=hl82.mo C27;replace I85:=I85.mo C27;replace H85:=H85.mo C27;replace hl93:=hl93.mo C27;replace hl98:=hl98.mo C27;replace I101:=I101.mo C27;replace H101:=H101.mo C27;replace hl102:=hl102.mo C27;clear C27 hl;replace ho:=ho'; clear ho';have hl:=hl'; clear hl'
    refine L.nil (hX _ _ ⟨.inl rfl,?_⟩)
    refine D.done (by decide +kernel) ?_ _
    refine X.blockEnd<|X.seq<|W.region<|L.k rfl<|L.inc rfl rfl (by omega)<|L.b rfl<|L.nil<|X.next (j + 1,css.set j [v102]) ?_ ?_ ?_
    · repeat' constructor
    ·
     exact ⟨hL.su,ho,by rw [← updD_T hzr P85 J87]; exact hl.su,hAb.su,hbd.su,C0,by omega⟩
    first | omega | (dsimp only; omega)
   intro J87
   simp only [Bool.not_eq_true',Bool.not_eq_false',decide_eq_true_eq,decide_eq_false_iff_not] at J87
   refine W.skip<|X.blockEnd<|X.seq<|W.region<|L.k rfl<|L.inc rfl rfl (by omega)<|L.b rfl<|L.nil<|X.next (j + 1,css) ?_ ?_ ?_
   · repeat' constructor
   ·
    exact ⟨hL.su,ho,by rw [← updD_F hzr P85 J87]; exact hl.su,hAb.su,hbd.su,C0,by omega⟩
   first | omega | (dsimp only; omega)
  intro J76
  try simp only [bq,ne_eq] at J76
  obtain rfl:j=rs.length:=by omega
  rw [upd_all] at hl
  refine W.exit<|X.thenExit<|X.nextExit<|X.here<|X.seq ?_
  have hok10:=hA.len (heldG_le z0)
  refine W.region<|L.k rfl<|L.k rfl<|L.build1 rfl (lay_one hAb) Q92 tyZ23 rfl ?_
  intro g106 w28 D106
  replace hL:=hL.gr D106.mod;replace ho:=own_gs ho D106.mod;replace hl:=hl.gr D106.mod;replace hAb:=hAb.gr D106.mod;replace hbd:=hbd.gr D106.mod;replace C0:=C0.trans D106.mod
  have hrow:Sl [] w28 1 (.slice (some ⟨g106,0,none⟩) 1 1) 1 [a9]:=Sl.row1 D106.blk (by simp)
  clear D106
  refine L.append rfl rfl ho hrow (by intro c hc; rw [List.mem_singleton.1 hc]; exact lay_one hAb) Q92 tyZ23 (by omega) (by unfold maxLen; omega) C0.size rfl ?_
  intro v107 w29 O107' X107
  replace hL:=hL.gw X107;replace hl:=hl.gw X107;replace hAb:=hAb.gw X107;replace hbd:=hbd.gw X107;replace C0:=Mod.oldOwn C0 X107.mod ho;replace ho:=O107'; clear O107';clear X107
  refine L.b rfl<|L.nil<|X.blockEnd<|X.seq<|W.region<|L.k rfl<|L.inc rfl rfl (by omega)<|L.b rfl<|L.nil<|X.next (i + 1,v107,css ++ [[a9]],(solveD (heldG z0) rs ok (rowD (heldG z0) (conT z24))).1,ok) ?_ ?_ ?_
  · repeat' constructor
  ·
   have hsk:=solveD_k (n:=(heldG z0)) (ok:=ok) hae hkk J40 hx hbe;have h9:=OkS.stepD (cs:=cs) (ok:=ok) hA J27 (oks.ov _ (List.mem_of_getElem? P24) J27)
   have e9:(solveD (heldG z0) rs ok (rowD (heldG z0) (conT z24))).2=ok:=by rw [hsk]
   rw [e9] at h9
   exact ⟨hL.su,own_congr ho (by rw [hsk]; simp) (by simp),by rw [hsk]; exact (hl.su).append (LayL.one _ b ⟨a9,rfl,hAb.su⟩),hbd.su,C0,by omega,by rw [vecs_yes P24 J27]; exact h9⟩
  first | omega | (dsimp only; omega)
 intro J18
 try simp only [bq,ne_eq] at J18
 obtain rfl:i=cs.length:=by omega
 rw [List.take_length] at hA
 refine W.brk<|W.sr<|L.k rfl<|L.k rfl<|L.b rfl<|L.b rfl ?_
 refine L.z<|W.ret<|X.result2 rfl (.tmp rfl (.tmp rfl .nil)) ?_
 exact ⟨u,rs,ok,rfl,own_lay hbd0 ho hl (by intro b hb; first | exact hb | (simp only [mq] at hb ⊢; grind)),hA,C0⟩
def impD (z0:Int) (rs:List (List Rat)) (ok:Bool) (c:CR):Bool:=!ok || (isC c (heldG z0:Int) && (decide (leadD (reduceD rs (rowD (heldG z0) (conT c)))=heldG z0) && decide ((reduceD rs (rowD (heldG z0) (conT c))).getD (heldG z0) 0=0)))
def fixDD (z0 v:Int) (rs:List (List Rat)) (ok:Bool):Option Rat:=if ok=true∧0≤v∧v<(heldG z0:Int) then fixD (heldG z0) v.toNat rs else none
theorem c_hold10 {w : World} {z0 : Int} :
    Ret Tryz.prog 62 #[.int .i64 z0] w (fun r w'=>r=.int .i64 ((heldG z0:Nat):Int)∧Mod [] w w'):=by
 refine Ret.of (vs:=[.int .i64 z0]) (n:=6) Tryz.func62 rfl rfl rfl rfl ?_
 have C0:Mod [] w w:=Mod.refl _ _
 refine W.sr<|L.b rfl<|L.z<|W.sr<|L.k rfl<|L.v (R1.maxI rfl rfl) rfl<|L.v (R1.minI rfl rfl) rfl<|L.b rfl ?_
 refine L.z<|W.ret<|X.result1 rfl (.tmp rfl .nil)<|⟨?_,C0⟩
 congr 1; unfold heldG; omega
theorem c_Consistent10 {M : List Nat} {w : World} {vl : Value} {cs : List CR} {z0 : Int} {t : Nat} (hL : Lay rdC M w vl cs) (hbd : Bd M w) (oks : OkS z0 t cs) :
    Ret Tryz.prog 29 #[vl,.int .i64 z0] w (fun r w'=>∃ rs ok,AInv (heldG z0) t (vecs (heldG z0) cs) rs ok∧r=.bool ok∧Mod [] w w'):=by
 refine Ret.of (vs:=[vl,.int .i64 z0]) (n:=15) Tryz.func29 rfl rfl rfl rfl ?_
 have C0:Mod [] w w:=Mod.refl _ _
 refine W.sr<|L.b rfl<|L.z<|W.sr<|L.k rfl<|L.k rfl<|L.c rfl (c_hold10) ?_
 rintro _ w1 ⟨rfl,C1⟩
 replace hL:=hL.gr C1;replace hbd:=hbd.gr C1;replace C0:=C0.trans C1;clear C1
 refine L.c rfl (c_solve10 hL hbd oks) ?_
 rintro _ w2 ⟨vR,rs,ok,rfl,hlR,hA,C2⟩
 replace C0:=C0.trans C2;clear C2
 refine L.k rfl<|L.ex rfl rfl<|L.ex rfl rfl<|L.b rfl<|L.b rfl<|L.z<|W.sr<|L.k rfl<|L.b rfl ?_
 refine L.z<|W.ret<|X.result1 rfl (.tmp rfl .nil) ?_
 exact ⟨rs,ok,hA,rfl,C0⟩
end Go.Proofs.YthoooolflmbmbaaGreat
end
section
namespace Go.Proofs.YthoooolflmbmbaaGreat
open Go.RowKit
set_option linter.unusedVariables false
set_option linter.unusedSimpArgs false
set_option maxRecDepth 10000
section
variable {n t t':Nat} {z0 v:Int} {L M:List Vec} {rs rs':List (Ts × Rat)} {ok ok':Bool}
def Eqv (L M:List Vec):Prop:=(∀ v∈L,Sp M v)∧(∀ v∈M,Sp L v)
theorem Eqv.refl (L:List Vec):Eqv L L:=⟨fun _ h=>.mem h,fun _ h=>.mem h⟩
end
theorem fit_is {q:QR} {L:Nat} (h:q.is=true) (hs:SmQ L q):Fit q.val L:=by
  have e:=QR.is_nf h
  have h1:q.n=toL q.val.num.natAbs:=congrArg QR.n e
  have h2:q.d=toL q.val.den:=congrArg QR.d e
  exact ⟨h1 ▸ hs.1,h2 ▸ hs.2⟩
theorem OvC.mono {n t t':Nat} {c:Ts × Rat} (h:OvC n t c) (ht:t≤t'):OvC n t' c:=by
  obtain ⟨d,h1,h2,h3⟩:=h
  exact ⟨d,h1,Nat.lt_of_lt_of_le h2 (Nat.pow_le_pow_right (by decide) ht),h3.mono ht⟩
theorem ovT_of {n L N:Nat} {c:Ts × Rat} (h:∀ x∈c.1,Fit x.2 L) (hk:Fit c.2 L) (hN:c.1.length≤N):OvC n (L * (N + 1) + 1) c:=by
  have h1:OvC n (L * (c.1.length + 1) + 1) c:=cv_ov h hk
  exact h1.mono (Nat.succ_le_succ (Nat.mul_le_mul_left _ (by omega)))
theorem ovC_of {n L N:Nat} {c:CR} (hs:SmC L c) (hN:c.ts.length≤N) (hc:isC c (n:Int)=true):OvC n (L * (N + 1) + 1) (conT c):=by
  obtain ⟨h1,h2,_,_⟩:=isC_spec hc
  refine ovT_of (fun x hx=>?_) (fit_is h1 hs.2.1) (by simpa [conT] using hN)
  obtain ⟨t,ht,rfl⟩:=List.mem_map.1 hx
  exact fit_is (h2 t ht).2 (hs.2.2 t ht)
theorem heldG_12 {z0:Int} {m:Nat} (h:z0≤(m:Int)):heldG z0≤m:=by unfold heldG; omega
theorem heldG_eq {n:Nat} (h:n≤64):heldG (n:Int)=n:=by unfold heldG; omega
theorem oks12 {z0:Int} {cs:List CR} (hs:∀ c∈cs,SmC 150 c) (hz:z0≤12):OkS z0 22651 cs:=by
  refine ⟨fun c hc=>(hs c hc).mono (by decide),fun c hc h=>OvC.mono (ovC_of (hs c hc) (hs c hc).1 h) (by omega),?_,by decide⟩
  have h1:=bnd_12 (t:=22651) (heldG_12 (m:=12) hz)
  omega
section
variable {n t t':Nat} {z0 v:Int} {L M:List Vec} {rs rs':List (Ts × Rat)} {ds ds':List (List Rat)} {ok ok':Bool}
theorem A_ok (h:AInv n t L ds ok):ok=true↔∀ k,Sp L (kv n k)→k=0:=by
  obtain ⟨R,h1,_⟩:=h.rank; exact h1.ok_iff
end
theorem vecs_mem {n:Nat} {cs:List CR} {v:Vec}:v∈vecs n cs↔∃ c∈cs,isC c (n:Int)=true∧cv n (conT c).1 (conT c).2=v:=by
  unfold vecs
  rw [List.mem_map]
  constructor
  · rintro ⟨c,hc,e⟩
    obtain ⟨h1,h2⟩:=List.mem_filter.1 hc
    exact ⟨c,h1,h2,e⟩
  rintro ⟨c,h1,h2,e⟩
  exact ⟨c,List.mem_filter.2 ⟨h1,h2⟩,e⟩
end Go.Proofs.YthoooolflmbmbaaGreat
end
