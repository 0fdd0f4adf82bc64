/- The rows of chapter 10 and its answers, told by the span alone; sums at values. Nothing of a program in sight. -/
import Derived.Test.YthoooolflmbmbaaGreatGaussA
namespace Go.Proofs.YthoooolflmbmbaaGreat
set_option linter.unusedVariables false
set_option linter.unusedSimpArgs false
theorem Nice.first_of {l:Ts} (h:Nice l) {p:Nat} (h1:coef l p≠0) (h2:∀ j,j<p→coef l j=0):∃ f rest,l=f :: rest∧p=f.1:=by
  cases l with
  | nil=>exact absurd rfl h1
  | cons f rest =>
    refine ⟨f,rest,rfl,?_⟩
    have h3:=h.first
    rcases Nat.lt_trichotomy p f.1 with h4 | h4 | h4
    · exact absurd (h3.2.2 p h4) h1
    · exact h4
    exact absurd (h3.1.symm.trans (h2 f.1 h4)) h3.2.1
theorem addT_below {n:Nat}:∀ (l m:Ts),Below n l→Below n m→Below n (addT l m)
  | [],m,_,hm=>by simpa [addT] using hm
  | s :: l,[],hl,_=>by simpa [addT] using hl
  | s :: l,t :: m,hl,hm=>by
    have hl':Below n l:=fun x hx=>hl x (by simp [hx])
    have hm':Below n m:=fun x hx=>hm x (by simp [hx])
    have hs:s.1<n:=hl s (by simp)
    have ht:t.1<n:=hm t (by simp)
    unfold addT
    split
    · intro x hx
      rcases List.mem_cons.1 hx with rfl | h1
      · exact hs
      exact addT_below l (t :: m) hl' hm x h1
    split
    · intro x hx
      rcases List.mem_cons.1 hx with rfl | h1
      · exact ht
      exact addT_below (s :: l) m hl hm' x h1
    split
    · exact addT_below l m hl' hm'
    intro x hx
    rcases List.mem_cons.1 hx with rfl | h1
    · exact hs
    exact addT_below l m hl' hm' x h1
termination_by l m=>l.length + m.length
theorem scaleT_below {n:Nat} {l:Ts} {x:Rat} (h:Below n l):Below n (scaleT l x):=by
  induction l with
  | nil=>intro s hs; cases hs
  | cons t l ih =>
    rw [scaleT_cons]
    split
    · exact ih (fun s hs=>h s (by simp [hs]))
    intro s hs
    rcases List.mem_cons.1 hs with rfl | h1
    · exact h t (by simp)
    exact ih (fun s hs=>h s (by simp [hs])) s h1
theorem lessT_below {n:Nat} {l row:Ts} (hl:Below n l) (hr:Below n row) (k rk:Rat):Below n (lessT l k row rk).1:=by
  unfold lessT
  split
  · exact hl
  split
  · exact hl
  exact addT_below _ _ hl (scaleT_below hr)
structure Rep (n S:Nat) (row:Ts × Rat) (r:Row):Prop where
  sz:∀ f rest,row.1=f :: rest→Fit f.2 S
  nice:Nice row.1
  below:Below n row.1
  first:∃ f rest,row.1=f :: rest∧r.p=f.1
  mul:∃ y:Rat,y≠0∧∀ i,cv n row.1 row.2 i=y * r.v i
inductive Reps (n S:Nat):List (Ts × Rat)→List Row→Prop
  | nil:Reps n S [] []
  | cons {row r rs R}:Rep n S row r→Reps n S rs R→Reps n S (row :: rs) (r :: R)
def leftT:List (Ts × Rat)→Ts × Rat→Ts × Rat
  | [],c=>c
  | r :: rs,c=>leftT rs (lessT c.1 c.2 r.1 r.2)
theorem leftT_nice:∀ {n S:Nat} {rs:List (Ts × Rat)} {R:List Row},Reps n S rs R→∀ {c:Ts × Rat},Nice c.1→Below n c.1→Nice (leftT rs c).1∧Below n (leftT rs c).1
  | _,_,_,_,.nil,_,h,hb=>⟨h,hb⟩
  | _,_,_,_,.cons h1 h2,_,h,hb=>leftT_nice h2 (lessT_nice h h1.nice _ _) (lessT_below hb h1.below _ _)
theorem leftT_cv:∀ {n S:Nat} {rs:List (Ts × Rat)} {R:List Row},Reps n S rs R→(∀ r∈R,Lead n r)→∀ {c:Ts × Rat},Nice c.1→Below n c.1→cv n (leftT rs c).1 (leftT rs c).2=red R (cv n c.1 c.2)
  | _,_,_,_,.nil,_,_,_,_=>rfl
  | n,S,row :: rs,r :: R,.cons h1 h2,hl,c,h,hb=>by
    obtain ⟨f,rest,e1,e2⟩:=h1.first
    obtain ⟨y,hy,hv⟩:=h1.mul;have hr:=hl r (by simp)
    have hn:f.1<n:=e2 ▸ hr.lt
    have h3:=lessT_cv (n:=n) h h1.nice (k:=c.2) (rk:=row.2) e1 e2 hn hy hr.one hv
    simp only [leftT,red]
    rw [leftT_cv h2 (fun s hs=>hl s (by simp [hs])) (lessT_nice h h1.nice _ _) (lessT_below hb h1.below _ _),h3]
def laysT (rs:List (Ts × Rat)) (good:Bool) (c:Ts × Rat):List (Ts × Rat) × Bool :=
  let d:=leftT rs c
  match d.1 with
  | []=>(rs,good && decide (d.2=0))
  | _ :: _=>(rs.map (fun r=>lessT r.1 r.2 d.1 d.2) ++ [d],good)
theorem Reps.append {n S:Nat} {rs:List (Ts × Rat)} {R:List Row} {row:Ts × Rat} {r:Row} (h:Reps n S rs R) (h1:Rep n S row r):Reps n S (rs ++ [row]) (R ++ [r]):=by
  induction h with
  | nil=>exact .cons h1 .nil
  | cons h2 h3 ih=>exact .cons h2 ih
theorem Reps.length {n S:Nat} {rs:List (Ts × Rat)} {R:List Row} (h:Reps n S rs R):rs.length=R.length:=by
  induction h with
  | nil=>rfl
  | cons h2 h3 ih=>simp [ih]
theorem Rep.less {n S : Nat} {row d : Ts × Rat} {r : Row} {a : Vec} {f : Nat × Rat} {rest : Ts} {y : Rat} (h : Rep n S row r) (hl : Lead n r) (hd : Nice d.1) (hdb : Below n d.1) (hf : d.1 = f :: rest) (hy : y ≠ 0) (hv : ∀ i, cv n d.1 d.2 i = y * a i)
    (h1:a f.1=1) (h2:∀ j,j<f.1→a j=0) (h0:a r.p=0):Rep n S (lessT row.1 row.2 d.1 d.2) ⟨r.p,vsub r.v a (r.v f.1)⟩:=by
  have hn:f.1<n:=hdb f (by rw [hf]; simp)
  obtain ⟨z,hz,hzv⟩:=h.mul;have h3:=lessT_cv (n:=n) (r:=⟨f.1,a⟩) h.nice hd (k:=row.2) (rk:=d.2) hf rfl hn hy h1 hv
  have h4:∀ i,cv n (lessT row.1 row.2 d.1 d.2).1 (lessT row.1 row.2 d.1 d.2).2 i=z * vsub r.v a (r.v f.1) i:=fun i=>by
    rw [h3]; simp only [vsub]; rw [hzv i,hzv f.1]; grind
  have hne:r.p≠f.1:=fun e=>by rw [e,h1] at h0; exact absurd h0 (by decide)
  have h5:∀ i,i<n→coef (lessT row.1 row.2 d.1 d.2).1 i=z * (r.v i - r.v f.1 * a i):=fun i hi=>by
    have:=h4 i
    simp only [cv,vsub] at this
    rw [if_neg (by omega)] at this
    exact this
  have hlt:=hl.lt
  have hfst:∃ f rest,(lessT row.1 row.2 d.1 d.2).1=f :: rest∧r.p=f.1:=by
    refine (lessT_nice h.nice hd _ _).first_of (p:=r.p) ?_ (fun j hj=>?_)
    · rw [h5 _ hlt,hl.one,h0]
      intro e
      apply hz
      grind
    rw [h5 _ (by omega),hl.low j hj]
    rcases Nat.lt_or_ge j f.1 with h6 | h6
    · rw [h2 j h6]; grind
    rw [hl.low f.1 (by omega)]; grind
  refine ⟨fun g gs hg=>?_,lessT_nice h.nice hd _ _,lessT_below h.below hdb _ _,hfst,z,hz,h4⟩
  obtain ⟨g1,gs1,h7,h8⟩:=h.first
  have h9:=h.sz g1 gs1 h7
  have h10:g1.2=z:=by
    have h11:=hzv r.p
    simp only [cv] at h11
    have h12:=h.nice
    rw [h7] at h12 h11
    rw [if_neg (by omega),hl.one,h8,h12.first.1] at h11
    rw [h11]; grind
  have h13:g.2=z:=by
    obtain ⟨g2,gs2,h14,h15⟩:=hfst
    rw [hg] at h14
    injection h14 with h14 _
    have h16:=h5 r.p hlt;have h17:=lessT_nice h.nice hd row.2 d.2
    rw [hg] at h16 h17
    rw [h15,← h14,h17.first.1,h14,← h15,hl.one,h0] at h16
    rw [h14,h16]; grind
  rw [h13,← h10]; exact h9
theorem Reps.split {n S:Nat}:∀ {rs1 rs2:List (Ts × Rat)} {R:List Row},Reps n S (rs1 ++ rs2) R→∃ R1 R2,R=R1 ++ R2∧Reps n S rs1 R1
  | [],_,R,_=>⟨[],R,rfl,.nil⟩
  | r :: rs1,rs2,_,.cons h1 h2=>by
    obtain ⟨R1,R2,e,h3⟩:=Reps.split h2
    exact ⟨_ :: R1,R2,by rw [e]; rfl,.cons h1 h3⟩
theorem Good.take {n:Nat} {R1 R2:List Row} (h:Good n (R1 ++ R2)):Good n R1:=⟨fun r hr=>h.lead r (by simp [hr]),(List.pairwise_append.1 h.apart).1⟩
theorem cv_fit {n D T:Nat} {l:Ts} {k:Rat} (hl:Nice l) (hb:Below n l) (hD:0<D) (hlt:D<4294967296 ^ T) (h:Ov D T (cv n l k)):(∀ x∈l,Fit x.2 T)∧Fit k T:=by
  refine ⟨fun x hx=>?_,?_⟩
  · obtain ⟨z,h1,h2⟩:=h x.1
    have:=hb x hx
    simp only [cv] at h1
    rw [if_neg (by omega),hl.coef_mem hx] at h1
    exact Fit.ov h1 hD hlt h2
  obtain ⟨z,h1,h2⟩:=h n
  simp only [cv,if_true] at h1
  exact Fit.ov h1 hD hlt h2
theorem left_fit {n S t d D T : Nat} {rs1 rs2 : List (Ts × Rat)} {R : List Row} {c : Ts × Rat} (I0 : R.length < 4294967295) (hR : Reps n S (rs1 ++ rs2) R) (hg : Good n R) (hD : Den D T R) (hc : Nice c.1) (hb : Below n c.1) (hd : 0 < d) (hdt : d < 4294967296 ^ t) (ho : Ov d t (cv n c.1 c.2)) :
    (∀ x∈(leftT rs1 c).1,Fit x.2 (t + T + 1))∧Fit (leftT rs1 c).2 (t + T + 1):=by
  obtain ⟨R1,R2,rfl,h1⟩:=hR.split;have hg1:=hg.take;have h2:=leftT_nice h1 hc hb;have h3:=leftT_cv h1 hg1.lead hc hb;have h4:=red_ov hg1 (by simp at I0; omega) hD.lt (fun r hr=>hD.ov r (by simp [hr])) ho
  rw [← h3] at h4
  refine cv_fit h2.1 h2.2 (Nat.mul_pos hD.pos hd) ?_ h4
  have h5:D * d<4294967296 ^ T * 4294967296 ^ t:=Nat.mul_lt_mul'' hD.lt hdt
  have h6:4294967296 ^ (t + T + 1)=4294967296 ^ T * 4294967296 ^ t * 4294967296:=by rw [Nat.pow_succ,Nat.pow_add,Nat.mul_comm (4294967296 ^ t)]
  omega
theorem laysT_step {n S : Nat} {L : List Vec} {rs : List (Ts × Rat)} {R : List Row} {ok : Bool} {c : Ts × Rat} (I0 : n ≤ 64) (hR : Reps n S rs R) (hs : Solved n L R ok) (hc : Nice c.1) (hb : Below n c.1) (hfit : ∀ f rest, (leftT rs c).1 = f :: rest → Fit f.2 S) :
    ∃ R',Reps n S (laysT rs ok c).1 R'∧Solved n (L ++ [cv n c.1 c.2]) R' (laysT rs ok c).2 ∧
      (∀ D d t,Den D (bnd t R.length) R→0<d→Ov d t (cv n c.1 c.2)→∃ D',Den D' (bnd t R'.length) R'):=by
  have hcv:=leftT_cv hR hs.good.lead hc hb;have hnb:=leftT_nice hR hc hb
  have hlen:R.length<4294967295:=by have:=hs.rank_n; omega
  unfold laysT
  generalize leftT rs c=d at *
  obtain ⟨dl,dk⟩:=d
  simp only at hcv hnb ⊢
  cases dl with
  | nil =>
    rw [cv_nil] at hcv
    refine ⟨R,hR,hs.same hcv.symm,fun D d t hD hd ho=>⟨D,hD⟩⟩
  | cons f rest =>
    have hf:=hnb.1.first
    have hn:f.1<n:=hnb.2 f (by simp)
    have hy:f.2≠0:=hf.2.1
    let a:Vec:=fun i=>f.2⁻¹ * cv n (f :: rest) dk i
    have ha:∀ i,cv n (f :: rest) dk i=f.2 * a i:=fun i=>by
      have:=Rat.mul_inv_cancel _ hy
      show cv n (f :: rest) dk i=f.2 * (f.2⁻¹ * cv n (f :: rest) dk i)
      rw [← Rat.mul_assoc,this,Rat.one_mul]
    have hlow:∀ j,j<f.1→a j=0:=fun j hj=>by
      show f.2⁻¹ * cv n (f :: rest) dk j=0
      simp only [cv]; rw [if_neg (by omega),hf.2.2 j hj]; grind
    have hone:a f.1=1:=by
      show f.2⁻¹ * cv n (f :: rest) dk f.1=1
      simp only [cv]; rw [if_neg (by omega),hf.1]; exact Rat.inv_mul_cancel _ hy
    have hred:∀ i,red R (cv n c.1 c.2) i=f.2 * a i:=fun i=>by rw [← hcv]; exact ha i
    have h0:∀ r∈R,a r.p=0:=fun r hr=>by
      have h3:=hred r.p
      rw [red_lead hs.good _ hr] at h3
      rcases Rat.mul_eq_zero.1 h3.symm with h4 | h4
      · exact absurd h4 hy
      exact h4
    refine ⟨put R f.1 a,?_,hs.put hn hy hred hone hlow,fun D d t hD hd ho=>?_⟩
    · have hmap:∀ {rs:List (Ts × Rat)} {R:List Row},Reps n S rs R→(∀ r∈R,Lead n r)→(∀ r∈R,a r.p=0)→Reps n S (rs.map fun r=>lessT r.1 r.2 (f :: rest) dk) (R.map fun r=>⟨r.p,vsub r.v a (r.v f.1)⟩):=by
        intro rs R h
        induction h with
        | nil=>intro _ _; exact .nil
        | cons h2 h3 ih =>
          intro hl hz
          exact .cons (h2.less (d:=(f :: rest,dk)) (hl _ (by simp)) hnb.1 hnb.2 rfl hy ha hone hlow (hz _ (by simp))) (ih (fun s hs=>hl s (by simp [hs])) (fun s hs=>hz s (by simp [hs])))
      exact (hmap hR hs.good.lead h0).append ⟨hfit,hnb.1,hnb.2,⟨f,rest,rfl,rfl⟩,f.2,hy,ha⟩
    have h5:=red_ov hs.good hlen hD.lt hD.ov ho;obtain ⟨D',h6⟩:=hD.put (k:=f.1) (Nat.mul_pos hD.pos hd) h5 hy hred hone
    have e:bnd t R.length + (t + bnd t R.length + 1) + 1=bnd t (R.length + 1):=by simp only [bnd]; omega
    rw [e] at h6
    rw [put_length]
    exact ⟨D',h6⟩
def dv (l:List Rat):Vec:=fun i=>l.getD i 0
def leadD:List Rat→Nat
  | []=>0
  | [_]=>0
  | x :: y :: l=>if x=0 then leadD (y :: l) + 1 else 0
theorem leadD_spec:∀ {l:List Rat},l≠[]→leadD l<l.length∧(∀ j,j<leadD l→dv l j=0)∧(leadD l + 1<l.length→dv l (leadD l)≠0)
  | [],h=>absurd rfl h
  | [x],_=>⟨by simp [leadD],fun j hj=>by simp [leadD] at hj,fun h=>by simp [leadD] at h⟩
  | x :: y :: l,_=>by
    have ih:=leadD_spec (l:=y :: l) (by simp)
    simp only [leadD]
    split
    · rename_i hx
      refine ⟨by simp only [List.length_cons] at ih ⊢; omega,fun j hj=>?_,fun h=>?_⟩
      · cases j with
        | zero=>simpa [dv] using hx
        | succ j=>have:=ih.2.1 j (by omega); simpa [dv] using this
      have:=ih.2.2 (by simp only [List.length_cons] at h ⊢; omega)
      simpa [dv] using this
    rename_i hx
    exact ⟨by simp,fun j hj=>by omega,fun _=>by simpa [dv] using hx⟩
theorem leadD_eq {l:List Rat} {p:Nat} (h1:p + 1<l.length) (h2:dv l p≠0) (h3:∀ j,j<p→dv l j=0):leadD l=p:=by
  have h:=leadD_spec (l:=l) (by intro e; rw [e] at h1; simp at h1)
  rcases Nat.lt_trichotomy (leadD l) p with h4 | h4 | h4
  · exact absurd (h3 _ h4) (h.2.2 (by omega))
  · exact h4
  exact absurd (h.2.1 p h4) h2
def lessD (a b:List Rat) (x:Rat):List Rat:=(List.range a.length).map fun i=>a.getD i 0 - x * b.getD i 0
theorem lessD_length (a b:List Rat) (x:Rat):(lessD a b x).length=a.length:=by simp [lessD]
theorem lessD_dv {a b:List Rat} {x:Rat} (h:b.length=a.length):dv (lessD a b x)=vsub (dv a) (dv b) x:=by
  funext i
  simp only [dv,vsub,lessD]
  rcases Nat.lt_or_ge i a.length with h1 | h1
  · rw [List.getD_eq_getElem?_getD,List.getElem?_map,List.getElem?_range h1]; rfl
  rw [List.getD_eq_getElem?_getD,List.getElem?_eq_none (by simpa using h1),List.getD_eq_getElem?_getD,List.getElem?_eq_none h1,List.getD_eq_getElem?_getD,List.getElem?_eq_none (by omega)]
  simp only [Option.getD_none]; grind
def reduceD:List (List Rat)→List Rat→List Rat
  | [],a=>a
  | r :: rs,a=>reduceD rs (if a.getD (leadD r) 0=0 then a else lessD a r (a.getD (leadD r) 0))
structure RepD (n:Nat) (row:List Rat) (r:Row):Prop where
  len:row.length=n + 1
  lead:leadD row=r.p
  vec:dv row=r.v
inductive RepDs (n:Nat):List (List Rat)→List Row→Prop
  | nil:RepDs n [] []
  | cons {row r rs R}:RepD n row r→RepDs n rs R→RepDs n (row :: rs) (r :: R)
theorem RepDs.length {n:Nat} {rs:List (List Rat)} {R:List Row} (h:RepDs n rs R):rs.length=R.length:=by
  induction h with
  | nil=>rfl
  | cons h2 h3 ih=>simp [ih]
theorem RepDs.append {n:Nat} {rs:List (List Rat)} {R:List Row} {row:List Rat} {r:Row} (h:RepDs n rs R) (h1:RepD n row r):RepDs n (rs ++ [row]) (R ++ [r]):=by
  induction h with
  | nil=>exact .cons h1 .nil
  | cons h2 h3 ih=>exact .cons h2 ih
theorem reduceD_spec:∀ {n:Nat} {rs:List (List Rat)} {R:List Row},RepDs n rs R→∀ {a:List Rat},a.length=n + 1→(reduceD rs a).length=n + 1∧dv (reduceD rs a)=red R (dv a)
  | _,_,_,.nil,_,h=>⟨h,rfl⟩
  | n,row :: rs,r :: R,.cons h1 h2,a,h=>by
    simp only [reduceD,red]
    have e:a.getD (leadD row) 0=dv a r.p:=by rw [h1.lead]; rfl
    rw [e]
    split
    · rename_i h0
      have h3:=reduceD_spec h2 h
      refine ⟨h3.1,?_⟩
      rw [h3.2]; congr 1
      funext i; simp only [vsub]; rw [h0]; grind
    have h3:=reduceD_spec h2 (a:=lessD a row (dv a r.p)) (by rw [lessD_length]; exact h)
    refine ⟨h3.1,?_⟩
    rw [h3.2,lessD_dv (by rw [h1.len,h]),h1.vec]
def solveD (n:Nat) (rs:List (List Rat)) (ok:Bool) (c:List Rat):List (List Rat) × Bool :=
  let a:=reduceD rs c
  let k:=leadD a
  if k=n then (rs,ok && decide (a.getD n 0=0)) else
    let b:=a.map fun x=>x * (1 / a.getD k 0)
    (rs.map (fun r=>if r.getD k 0=0 then r else lessD r b (r.getD k 0)) ++ [b],ok)
theorem dv_map (a:List Rat) (x:Rat) (i:Nat):dv (a.map fun z=>z * x) i=dv a i * x:=by
  simp only [dv,List.getD_eq_getElem?_getD,List.getElem?_map]
  cases a[i]? with
  | none=>simp only [Option.map_none,Option.getD_none]; grind
  | some z=>rfl
theorem RepD.less {n : Nat} {row b : List Rat} {r : Row} {k : Nat} (h : RepD n row r) (hl : Lead n r) (hb : b.length = n + 1) (h1 : dv b k = 1) (h2 : ∀ j, j < k → dv b j = 0) (h0 : dv b r.p = 0) :
    RepD n (if row.getD k 0=0 then row else lessD row b (row.getD k 0)) ⟨r.p,vsub r.v (dv b) (r.v k)⟩:=by
  have e:row.getD k 0=r.v k:=by rw [← h.vec]; rfl
  have hlen:(if row.getD k 0=0 then row else lessD row b (row.getD k 0)).length=n + 1:=by split; exact h.len; rw [lessD_length]; exact h.len
  have hvec:dv (if row.getD k 0=0 then row else lessD row b (row.getD k 0))=vsub r.v (dv b) (r.v k):=by
    split
    · rename_i h3
      rw [e] at h3
      rw [h.vec]; funext i; simp only [vsub]; rw [h3]; grind
    rw [lessD_dv (by rw [hb,h.len]),h.vec,e]
  have hlt:=hl.lt
  refine ⟨hlen,leadD_eq (p:=r.p) (by rw [hlen]; omega) ?_ (fun j hj=>?_),hvec⟩
  · rw [hvec]; simp only [vsub]; rw [hl.one,h0]
    intro e2
    have:(1:Rat) - r.v k * 0=1:=by grind
    rw [this] at e2; exact absurd e2 (by decide)
  rw [hvec]; simp only [vsub]
  have hj':j<r.p:=hj
  rw [hl.low j hj']
  rcases Nat.lt_or_ge j k with h6 | h6
  · rw [h2 j h6]; grind
  rw [hl.low k (by omega)]; grind
theorem solveD_step {n : Nat} {L : List Vec} {rs : List (List Rat)} {R : List Row} {ok : Bool} {c : List Rat} (I0 : n ≤ 64) (hR : RepDs n rs R) (hs : Solved n L R ok) (hc : c.length = n + 1) :
    ∃ R',RepDs n (solveD n rs ok c).1 R'∧Solved n (L ++ [dv c]) R' (solveD n rs ok c).2 ∧
      (∀ D d t,Den D (bnd t R.length) R→0<d→Ov d t (dv c)→∃ D',Den D' (bnd t R'.length) R'):=by
  obtain ⟨hal,hav⟩:=reduceD_spec hR hc
  have hlen:R.length<4294967295:=by have:=hs.rank_n; omega
  unfold solveD
  generalize reduceD rs c=a at *
  have hsp:=leadD_spec (l:=a) (by intro e; rw [e] at hal; simp at hal)
  simp only
  split
  · rename_i hk
    have hkv:red R (dv c)=kv n (a.getD n 0):=by
      rw [← hav]; funext i
      simp only [kv]
      split
      · rename_i e; rw [e]; rfl
      rename_i e
      rcases Nat.lt_or_ge i n with h1 | h1
      · exact hsp.2.1 i (by omega)
      simp only [dv,List.getD_eq_getElem?_getD]; rw [List.getElem?_eq_none (by omega)]; rfl
    refine ⟨R,hR,hs.same hkv,fun D d t hD hd ho=>⟨D,hD⟩⟩
  rename_i hk
  generalize hkk:leadD a=k at *
  have hkn:k<n:=by omega
  have hy:dv a k≠0:=hsp.2.2 (by omega)
  have hb:∀ i,dv (a.map fun x=>x * (1 / a.getD k 0)) i=dv a i * (dv a k)⁻¹:=fun i=>by
    rw [dv_map,Rat.div_def,Rat.one_mul]; rfl
  have hone:dv (a.map fun x=>x * (1 / a.getD k 0)) k=1:=by rw [hb]; exact Rat.mul_inv_cancel _ hy
  have hlow:∀ j,j<k→dv (a.map fun x=>x * (1 / a.getD k 0)) j=0:=fun j hj=>by rw [hb,hsp.2.1 j hj]; grind
  have hred:∀ i,red R (dv c) i=dv a k * dv (a.map fun x=>x * (1 / a.getD k 0)) i:=fun i=>by
    rw [← hav,hb]
    have:=Rat.mul_inv_cancel _ hy
    have e:dv a k * (dv a i * (dv a k)⁻¹)=dv a i * (dv a k * (dv a k)⁻¹):=by grind
    rw [e,this]; grind
  have hbl:(a.map fun x=>x * (1 / a.getD k 0)).length=n + 1:=by simpa using hal
  generalize (a.map fun x=>x * (1 / a.getD k 0))=b at *
  have h0:∀ r∈R,dv b r.p=0:=fun r hr=>by
    have h3:=hred r.p
    rw [red_lead hs.good _ hr] at h3
    rcases Rat.mul_eq_zero.1 h3.symm with h4 | h4
    · exact absurd h4 hy
    exact h4
  refine ⟨put R k (dv b),?_,hs.put hkn hy hred hone hlow,fun D d t hD hd ho=>?_⟩
  · have hmap:∀ {rs:List (List Rat)} {R:List Row},RepDs n rs R→(∀ r∈R,Lead n r)→(∀ r∈R,dv b r.p=0)→RepDs n (rs.map fun r=>if r.getD k 0=0 then r else lessD r b (r.getD k 0)) (R.map fun r=>⟨r.p,vsub r.v (dv b) (r.v k)⟩):=by
      intro rs R h
      induction h with
      | nil=>intro _ _; exact .nil
      | cons h2 h3 ih =>
        intro hl hz
        exact .cons (h2.less (hl _ (by simp)) hbl hone hlow (hz _ (by simp))) (ih (fun s hs=>hl s (by simp [hs])) (fun s hs=>hz s (by simp [hs])))
    refine (hmap hR hs.good.lead h0).append ⟨hbl,leadD_eq (p:=k) (by omega) (by rw [hone]; decide) hlow,rfl⟩
  have h5:=red_ov hs.good hlen hD.lt hD.ov ho;obtain ⟨D',h6⟩:=hD.put (k:=k) (Nat.mul_pos hD.pos hd) h5 hy hred hone
  have e:bnd t R.length + (t + bnd t R.length + 1) + 1=bnd t (R.length + 1):=by simp only [bnd]; omega
  rw [e] at h6
  rw [put_length]
  exact ⟨D',h6⟩
def PInv (n t:Nat) (L:List Vec) (rs:List (Ts × Rat)) (ok:Bool):Prop:=∃ R D,Reps n (t + bnd t n + 1) rs R∧Solved n L R ok∧Den D (bnd t R.length) R
def AInv (n t:Nat) (L:List Vec) (rs:List (List Rat)) (ok:Bool):Prop:=∃ R D,RepDs n rs R∧Solved n L R ok∧Den D (bnd t R.length) R
theorem PInv.nil (n t:Nat):PInv n t [] [] true:=⟨[],1,.nil,.nil n,Den.nil⟩
theorem AInv.nil (n t:Nat):AInv n t [] [] true:=⟨[],1,.nil,.nil n,Den.nil⟩
section
variable {n t d:Nat} {L M:List Vec} {ok ok':Bool} {R R':List Row}
theorem PInv.step {rs:List (Ts × Rat)} {c:Ts × Rat} (h:PInv n t L rs ok) (hn:n≤64) (hc:Nice c.1) (hb:Below n c.1) (hd:0<d) (hdt:d<4294967296 ^ t) (ho:Ov d t (cv n c.1 c.2)):PInv n t (L ++ [cv n c.1 c.2]) (laysT rs ok c).1 (laysT rs ok c).2:=by
  obtain ⟨R,D,h1,h2,h3⟩:=h
  obtain ⟨R',h4,h5,h6⟩:=laysT_step hn h1 h2 hc hb (fun f rest e=>by
    have h8:=left_fit (rs1:=rs) (rs2:=[]) (by have:=h2.rank_n; omega) (by rw [List.append_nil]; exact h1) h2.good h3 hc hb hd hdt ho
    rw [e] at h8
    have h9:=bnd_mono (t:=t) h2.rank_n
    exact (h8.1 f (by simp)).mono (by omega))
  obtain ⟨D',h7⟩:=h6 D d t h3 hd ho
  exact ⟨R',D',h4,h5,h7⟩
theorem AInv.step {rs:List (List Rat)} {c:List Rat} (h:AInv n t L rs ok) (hn:n≤64) (hc:c.length=n + 1) (hd:0<d) (ho:Ov d t (dv c)):AInv n t (L ++ [dv c]) (solveD n rs ok c).1 (solveD n rs ok c).2:=by
  obtain ⟨R,D,h1,h2,h3⟩:=h;obtain ⟨R',h4,h5,h6⟩:=solveD_step hn h1 h2 hc;obtain ⟨D',h7⟩:=h6 D d t h3 hd ho
  exact ⟨R',D',h4,h5,h7⟩
theorem PInv.rank {rs:List (Ts × Rat)} (h:PInv n t L rs ok):∃ R,Solved n L R ok∧rs.length=R.length:=by
  obtain ⟨R,D,h1,h2,_⟩:=h; exact ⟨R,h2,h1.length⟩
theorem AInv.rank {rs:List (List Rat)} (h:AInv n t L rs ok):∃ R,Solved n L R ok∧rs.length=R.length:=by
  obtain ⟨R,D,h1,h2,_⟩:=h; exact ⟨R,h2,h1.length⟩
theorem left_kv {S:Nat} {rs:List (Ts × Rat)} (hR:Reps n S rs R) (hg:Good n R) {c:Ts × Rat} (hc:Nice c.1) (hb:Below n c.1) (k:Rat):((leftT rs c).1=[]∧(leftT rs c).2=k)↔red R (cv n c.1 c.2)=kv n k:=by
  have h1:=leftT_cv hR hg.lead hc hb;have h2:=leftT_nice hR hc hb
  rw [← h1]
  generalize leftT rs c=e at *
  obtain ⟨el,ek⟩:=e
  simp only at h2 ⊢
  constructor
  · rintro ⟨rfl,rfl⟩; rw [cv_nil]
  intro h3
  have h4:el=[]:=h2.1.empty (fun i=>by
    rcases Nat.lt_or_ge i n with h5 | h5
    · have:=congrFun h3 i
      simp only [cv,kv] at this
      rwa [if_neg (by omega),if_neg (by omega)] at this
    exact coef_none (fun s hs=>by have:=h2.2 s hs; omega))
  refine ⟨h4,?_⟩
  have:=congrFun h3 n
  simpa [cv,kv] using this
theorem reduce_kv {rs:List (List Rat)} (hR:RepDs n rs R) {c:List Rat} (hc:c.length=n + 1) (k:Rat):(leadD (reduceD rs c)=n∧(reduceD rs c).getD n 0=k)↔red R (dv c)=kv n k:=by
  obtain ⟨h1,h2⟩:=reduceD_spec hR hc
  rw [← h2]
  generalize reduceD rs c=a at *
  have hsp:=leadD_spec (l:=a) (by intro e; rw [e] at h1; simp at h1)
  constructor
  · rintro ⟨h3,h4⟩
    funext i
    simp only [kv]
    split
    · rename_i e; rw [e]; exact h4
    rename_i e
    rcases Nat.lt_or_ge i n with h5 | h5
    · exact hsp.2.1 i (by omega)
    simp only [dv,List.getD_eq_getElem?_getD]; rw [List.getElem?_eq_none (by omega)]; rfl
  intro h3
  have h4:leadD a=n:=by
    rcases Nat.lt_or_ge (leadD a) n with h5 | h5
    · have h6:=hsp.2.2 (by omega)
      have h7:=congrFun h3 (leadD a)
      simp only [kv] at h7
      rw [if_neg (by omega)] at h7
      exact absurd h7 h6
    omega
  refine ⟨h4,?_⟩
  have:=congrFun h3 n
  simpa [dv,kv] using this
theorem PInv.imp {rs:List (Ts × Rat)} (h:PInv n t L rs true) {c:Ts × Rat} (hc:Nice c.1) (hb:Below n c.1):((leftT rs c).1=[]∧(leftT rs c).2=0)↔Sp L (cv n c.1 c.2):=by
  obtain ⟨R,D,h1,h2,_⟩:=h
  rw [left_kv h1 h2.good hc hb,kv_zero,h2.imp_iff]
theorem AInv.imp {rs:List (List Rat)} (h:AInv n t L rs true) {c:List Rat} (hc:c.length=n + 1):(leadD (reduceD rs c)=n∧(reduceD rs c).getD n 0=0)↔Sp L (dv c):=by
  obtain ⟨R,D,h1,h2,_⟩:=h
  rw [reduce_kv h1 hc,kv_zero,h2.imp_iff]
def fixD (n v:Nat):List (List Rat)→Option Rat
  | []=>none
  | r :: rs=>if leadD r=v then (if (List.range n).all (fun k=>decide (k≤v) || decide (r.getD k 0=0)) then some (-(r.getD n 0)) else none) else fixD n v rs
end
theorem lt_of_len {n s:Nat} (h:(toL n).length≤s):n<4294967296 ^ s:=by
  rcases Nat.lt_or_ge n (4294967296 ^ s) with h1 | h1
  · exact h1
  have:=toL_length_gt h1; omega
theorem mul_den_num (q:Rat):q * (q.den:Rat)=((q.num:Int):Rat):=by
  have h1:q=(q.num:Rat) / (q.den:Rat):=by
    have:=Rat.mkRat_self q
    rw [Rat.mkRat_eq_div] at this
    exact this.symm
  have h2:(q.den:Rat)≠0:=cast_ne q.den_pos
  calc q * (q.den:Rat)=(q.num:Rat) / (q.den:Rat) * (q.den:Rat):=by rw [← h1]
    _=(q.num:Rat):=by rw [Rat.div_def,Rat.mul_assoc,Rat.inv_mul_cancel _ h2,Rat.mul_one]
theorem ts_ov {s:Nat}:∀ (l:Ts),(∀ t∈l,Fit t.2 s)→∃ d,0<d∧d<4294967296 ^ (s * l.length + 1)∧Ov d (s * l.length + 1) (coef l)
  | [],_=>⟨1,by decide,by simp,fun i=>⟨0,by simp only [coef]; rw [Rat.zero_mul]; rfl,by simp⟩⟩
  | t :: l,h=>by
    obtain ⟨d,h1,h2,h3⟩:=ts_ov l (fun x hx=>h x (by simp [hx]));have hf:=h t (by simp);have ha:=lt_of_len hf.1;have hb:=lt_of_len hf.2
    have e:4294967296 ^ (s * (t :: l).length + 1)=4294967296 ^ s * 4294967296 ^ (s * l.length + 1):=by
      rw [← Nat.pow_add,List.length_cons,Nat.mul_add,Nat.mul_one]; congr 1; omega
    refine ⟨t.2.den * d,Nat.mul_pos t.2.den_pos h1,by rw [e]; exact Nat.mul_lt_mul'' hb h2,fun i=>?_⟩
    rw [e]
    simp only [coef]
    split
    · refine ⟨t.2.num * (d:Int),?_,?_⟩
      · rw [Rat.intCast_mul,← mul_den_num,Rat.natCast_mul,Rat.intCast_natCast]; grind
      rw [Int.natAbs_mul,Int.natAbs_natCast]; exact Nat.mul_lt_mul'' ha h2
    obtain ⟨z,h4,h5⟩:=h3 i
    refine ⟨(t.2.den:Int) * z,?_,?_⟩
    · rw [Rat.intCast_mul,← h4,Rat.natCast_mul,Rat.intCast_natCast]; grind
    rw [Int.natAbs_mul,Int.natAbs_natCast]; exact Nat.mul_lt_mul'' hb h5
theorem cv_ov {n s:Nat} {l:Ts} {k:Rat} (h:∀ t∈l,Fit t.2 s) (hk:Fit k s):∃ d,0<d∧d<4294967296 ^ (s * (l.length + 1) + 1)∧Ov d (s * (l.length + 1) + 1) (cv n l k):=by
  obtain ⟨d,h1,h2,h3⟩:=ts_ov l h;have ha:=lt_of_len hk.1;have hb:=lt_of_len hk.2
  have e:4294967296 ^ (s * (l.length + 1) + 1)=4294967296 ^ s * 4294967296 ^ (s * l.length + 1):=by
    rw [← Nat.pow_add,Nat.mul_add,Nat.mul_one]; congr 1; omega
  refine ⟨k.den * d,Nat.mul_pos k.den_pos h1,by rw [e]; exact Nat.mul_lt_mul'' hb h2,fun i=>?_⟩
  rw [e]
  simp only [cv]
  split
  · refine ⟨k.num * (d:Int),?_,?_⟩
    · rw [Rat.intCast_mul,← mul_den_num,Rat.natCast_mul,Rat.intCast_natCast]; grind
    rw [Int.natAbs_mul,Int.natAbs_natCast]; exact Nat.mul_lt_mul'' ha h2
  obtain ⟨z,h4,h5⟩:=h3 i
  refine ⟨(k.den:Int) * z,?_,?_⟩
  · rw [Rat.intCast_mul,← h4,Rat.natCast_mul,Rat.intCast_natCast]; grind
  rw [Int.natAbs_mul,Int.natAbs_natCast]; exact Nat.mul_lt_mul'' hb h5
theorem Ov.mono {D T T':Nat} {u:Vec} (h:Ov D T u) (hT:T≤T'):Ov D T' u:=fun i=>by
  obtain ⟨z,h1,h2⟩:=h i
  exact ⟨z,h1,Nat.lt_of_lt_of_le h2 (Nat.pow_le_pow_right (by decide) hT)⟩
def sumN:Nat→(Nat→Rat)→Rat
  | 0,_=>0
  | n + 1,f=>sumN n f + f n
def atv (n:Nat) (val:Nat→Rat) (u:Vec):Rat:=sumN n (fun i=>u i * val i) + u n
theorem sumN_add (n:Nat) (f g:Nat→Rat) (x:Rat):sumN n (fun i=>f i + x * g i)=sumN n f + x * sumN n g:=by
  induction n with
  | zero=>simp only [sumN]; grind
  | succ n ih=>simp only [sumN]; rw [ih]; grind
theorem sumN_congr {n:Nat} {f g:Nat→Rat} (h:∀ i,i<n→f i=g i):sumN n f=sumN n g:=by
  induction n with
  | zero=>rfl
  | succ n ih=>simp only [sumN]; rw [ih (fun i hi=>h i (by omega)),h n (by omega)]
theorem sumN_zero (n:Nat):sumN n (fun _=>0)=0:=by
  induction n with
  | zero=>rfl
  | succ n ih=>simp only [sumN]; rw [ih]; grind
theorem sumN_one {n p:Nat} (hp:p<n) (x:Rat):sumN n (fun i=>if i=p then x else 0)=x:=by
  induction n with
  | zero=>omega
  | succ n ih =>
    simp only [sumN]
    by_cases h:p=n
    · have:sumN n (fun i=>if i=p then x else 0)=sumN n (fun _=>0):=sumN_congr (fun i hi=>by rw [if_neg (by omega)])
      rw [this,sumN_zero,if_pos h.symm]; grind
    rw [ih (by omega),if_neg (by omega)]; grind
theorem atv_add (n:Nat) (val:Nat→Rat) (u v:Vec) (x:Rat):atv n val (fun i=>u i + x * v i)=atv n val u + x * atv n val v:=by
  simp only [atv]
  have:sumN n (fun i=>(u i + x * v i) * val i)=sumN n (fun i=>u i * val i + x * (v i * val i)):=sumN_congr (fun i _=>by grind)
  rw [this,sumN_add]; grind
theorem atv_zero (n:Nat) (val:Nat→Rat):atv n val (fun _=>0)=0:=by
  simp only [atv]
  have:sumN n (fun i=>(0:Rat) * val i)=sumN n (fun _=>0):=sumN_congr (fun i _=>by grind)
  rw [this,sumN_zero]; grind
theorem atv_kv (n:Nat) (val:Nat→Rat) (k:Rat):atv n val (kv n k)=k:=by
  simp only [atv,kv,if_true]
  have:sumN n (fun i=>(if i=n then k else 0) * val i)=sumN n (fun _=>0):=sumN_congr (fun i hi=>by rw [if_neg (by omega)]; grind)
  rw [this,sumN_zero]; grind
def atT (val:Nat→Rat):Ts→Rat→Rat
  | [],x=>x
  | t :: l,x=>atT val l (x + t.2 * val t.1)
theorem atT_eq {n:Nat} {val:Nat→Rat}:∀ {l:Ts},Nice l→Below n l→∀ k,atT val l k=atv n val (cv n l k)
  | [],_,_,k=>by rw [cv_nil,atv_kv]; rfl
  | t :: l,h,hb,k=>by
    have ht:t.1<n:=hb t (by simp)
    simp only [atT]
    rw [atT_eq h.tail (fun x hx=>hb x (by simp [hx]))]
    simp only [atv,cv,if_true]
    have e:sumN n (fun i=>(if i=n then k else coef (t :: l) i) * val i)=sumN n (fun i=>(if i=n then k + t.2 * val t.1 else coef l i) * val i + 1 * (if i=t.1 then t.2 * val t.1 else 0)):=sumN_congr (fun i hi=>by
      rw [if_neg (by omega),if_neg (by omega)]
      simp only [coef]
      by_cases e:t.1=i
      · have h2:coef l i=0:=coef_low (fun x hx=>by have:=h.head x hx; omega)
        rw [if_pos e,if_pos e.symm,h2,← e]; grind
      rw [if_neg e,if_neg (fun h=>e h.symm)]; grind)
    rw [e,sumN_add,sumN_one ht]; grind
theorem Sp.at_ {n:Nat} {L:List Vec} {val:Nat→Rat} (h:∀ v∈L,atv n val v=0) {u:Vec} (hu:Sp L u):atv n val u=0:=hu.all (φ:=atv n val) (atv_zero n val) (atv_add n val) h
theorem Sp.scaled {L:List Vec} {x:Rat} (hx:x≠0):(∀ v∈L,Sp (L.map fun v i=>x * v i) v)∧(∀ v∈L.map (fun v i=>x * v i),Sp L v):=by
  refine ⟨fun v hv=>?_,fun v hv=>?_⟩
  · have h1:Sp (L.map fun v i=>x * v i) (fun i=>x * v i):=.mem (List.mem_map.2 ⟨v,hv,rfl⟩)
    have h2:=h1.scale x⁻¹
    have e:(fun i=>x⁻¹ * (x * v i))=v:=by funext i; rw [← Rat.mul_assoc,Rat.inv_mul_cancel _ hx,Rat.one_mul]
    rwa [e] at h2
  obtain ⟨u,hu,rfl⟩:=List.mem_map.1 hv
  exact (Sp.mem hu).scale x
end Go.Proofs.YthoooolflmbmbaaGreat
