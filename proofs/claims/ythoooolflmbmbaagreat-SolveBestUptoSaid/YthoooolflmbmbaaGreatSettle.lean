/- Several texts in one. -/
import Derived.Test.YthoooolflmbmbaaGreatGraph
section
namespace Go.Proofs.YthoooolflmbmbaaGreat
set_option linter.unusedVariables false
set_option linter.unusedSimpArgs false
structure Forest (n:Nat) (ws:List (List Nat)):Prop where
  inW:InW n ws
  first:firstW (List.range n) ws 0=none
noncomputable def stg (n:Nat) (ws:List (List Nat)) (k v:Nat):Nat:=lab (apAll (List.range n) (ws.take k)) v
theorem inj_of_nodup {f:Nat→Nat}:∀ {w:List Nat},(w.map f).Nodup→∀ {x y:Nat},x∈w→y∈w→f x=f y→x=y
  | [],_,x,y,hx,_,_=>by cases hx
  | a :: w,h,x,y,hx,hy,e=>by
    rw [List.map_cons,List.nodup_cons] at h
    rcases List.mem_cons.1 hx with h1 | h1
    · rcases List.mem_cons.1 hy with h2 | h2
      · rw [h1,h2]
      exact absurd (List.mem_map.2 ⟨y,h2,by rw [← e,h1]⟩) h.1
    rcases List.mem_cons.1 hy with h2 | h2
    · exact absurd (List.mem_map.2 ⟨x,h1,by rw [e,h2]⟩) h.1
    exact inj_of_nodup h.2 h1 h2 e
section
variable {n:Nat} {ws:List (List Nat)}
theorem take_in (hF:Forest n ws) (k:Nat):InW n (ws.take k):=fun w hw=>hF.inW w (List.mem_of_mem_take hw)
theorem Forest.same (hF:Forest n ws) {i k:Nat} {w:List Nat} (hw:ws[i]?=some w) (hi:i<k) {x y:Nat} (hx:x∈w) (hy:y∈w):stg n ws k x=stg n ws k y:=by
  have h1:=(apAll_facts (Lab.start n) (take_in hF k)).2.1
  refine h1 w ?_ x hx y hy
  have h2:(ws.take k)[i]?=some w:=by rw [List.getElem?_take,if_pos hi]; exact hw
  exact List.mem_of_getElem? h2
theorem Forest.apart (hF:Forest n ws) {k:Nat} {w:List Nat} (hw:ws[k]?=some w) {x y:Nat} (hx:x∈w) (hy:y∈w) (e:stg n ws k x=stg n ws k y):x=y:=by
  obtain ⟨hk,hwk⟩:=List.getElem?_eq_some_iff.1 hw
  have e1:ws=ws.take k ++ w :: ws.drop (k + 1):=by
    rw [← hwk,← List.drop_eq_getElem_cons hk,List.take_append_drop]
  have h1:=hF.first
  rw [e1,firstW_append] at h1
  have h2:okW (apAll (List.range n) (ws.take k)) w=true:=by
    cases h3:firstW (List.range n) (ws.take k) 0 with
    | some z=>rw [h3] at h1; cases h1
    | none =>
      rw [h3] at h1
      simp only [firstW] at h1
      by_cases h4:okW (apAll (List.range n) (ws.take k)) w=true
      · exact h4
      rw [if_neg h4] at h1; cases h1
  have h3:=(okW_apart ((Lab.start n).apAll (take_in hF k)) (hF.inW w (List.mem_of_getElem? hw))).1 h2
  exact inj_of_nodup h3 hx hy e
end
structure Tell (ws:List (List Nat)) (out:Nat→Option Nat):Prop where
  tell:∀ i v,out i=some v→∃ w,ws[i]?=some w∧v∈w
  one:∀ i j v,out i=some v→out j=some v→i=j
def Eg (ws:List (List Nat)) (out:Nat→Option Nat) (i j:Nat):Prop:=∃ w v,ws[i]?=some w∧v∈w∧out j=some v∧out i≠some v
abbrev TG (r:Nat→Nat→Prop):=Relation.TransGen r
section
variable {n:Nat} {ws:List (List Nat)} {out:Nat→Option Nat}
def Rk (ws:List (List Nat)) (out:Nat→Option Nat) (k i j:Nat):Prop:=Eg ws out i j∧i<k∧j<k
theorem TG.mono {r s:Nat→Nat→Prop} (h:∀ a b,r a b→s a b) {a b:Nat} (p:TG r a b):TG s a b:=by
  induction p with
  | single h1=>exact .single (h _ _ h1)
  | tail _ h1 ih=>exact .tail ih (h _ _ h1)
theorem Rk.lt {k a b:Nat} (p:TG (Rk ws out k) a b):a<k∧b<k:=by
  induction p with
  | single h=>exact h.2
  | tail _ h ih=>exact ⟨ih.1,h.2.2⟩
theorem Rk.up {k a b:Nat} (h:Rk ws out k a b):Rk ws out (k + 1) a b:=⟨h.1,by have:=h.2; omega,by have:=h.2; omega⟩
theorem Rk.conn (hF:Forest n ws) (hT:Tell ws out) {k a b:Nat} (p:TG (Rk ws out k) a b) {x y:Nat} (hx:out a=some x) (hy:out b=some y):stg n ws k x=stg n ws k y:=by
  induction p generalizing y with
  | single h =>
    obtain ⟨⟨w,v,h1,h2,h3,h4⟩,h5,_⟩:=h
    obtain ⟨w',h6,h7⟩:=hT.tell _ _ hx
    rw [h1] at h6; injection h6 with h6; subst h6
    rw [hy] at h3; injection h3 with h3; subst h3
    exact hF.same h1 h5 h7 h2
  | @tail b c p h ih =>
    obtain ⟨⟨w,v,h1,h2,h3,h4⟩,h5,_⟩:=h
    rw [hy] at h3; injection h3 with h3; subst h3
    obtain ⟨z,hz⟩:∃ z,out b=some z:=by
      cases p with
      | single q=>obtain ⟨⟨_,z,_,_,q3,_⟩,_⟩:=q; exact ⟨z,q3⟩
      | tail _ q=>obtain ⟨⟨_,z,_,_,q3,_⟩,_⟩:=q; exact ⟨z,q3⟩
    obtain ⟨w',h6,h7⟩:=hT.tell _ _ hz
    rw [h1] at h6; injection h6 with h6; subst h6
    rw [ih hz]
    exact hF.same h1 h5 h7 h2
theorem Rk.reach {k a b : Nat} (p : TG (Rk ws out (k + 1)) a b) (ha : a < k) :
    (∃ q,(q=a∨TG (Rk ws out k) a q)∧q<k∧Eg ws out q k∧(k=b∨TG (Rk ws out (k + 1)) k b))∨(b<k∧TG (Rk ws out k) a b):=by
  induction p with
  | @single b h =>
    rcases Nat.lt_or_ge b k with h1 | h1
    · exact .inr ⟨h1,.single ⟨h.1,ha,h1⟩⟩
    · have:b=k:=by have:=h.2.2; omega
      subst this
      exact .inl ⟨a,.inl rfl,ha,h.1,.inl rfl⟩
  | @tail b c p h ih =>
    rcases ih with ⟨q,h1,h2,h3,h4⟩ | ⟨h1,h2⟩
    · refine .inl ⟨q,h1,h2,h3,.inr ?_⟩
      rcases h4 with h4 | h4
      · subst h4; exact .single h
      exact .tail h4 h
    rcases Nat.lt_or_ge c k with h3 | h3
    · exact .inr ⟨h3,.tail h2 ⟨h.1,h1,h3⟩⟩
    have:c=k:=by have:=h.2.2; omega
    subst this
    exact .inl ⟨b,.inr h2,h1,h.1,.inl rfl⟩
theorem TG.head {r:Nat→Nat→Prop} {a b:Nat} (p:TG r a b):∃ c,r a c∧(c=b∨TG r c b):=by
  induction p with
  | single h=>exact ⟨_,h,.inl rfl⟩
  | tail p h ih =>
    obtain ⟨c,h1,h2⟩:=ih
    refine ⟨c,h1,.inr ?_⟩
    rcases h2 with h2 | h2
    · subst h2; exact .single h
    exact .tail h2 h
theorem Eg.irr {i:Nat} (h:Eg ws out i i):False:=by
  obtain ⟨w,v,_,_,h3,h4⟩:=h; exact h4 h3
theorem Rk.never (hF:Forest n ws) (hT:Tell ws out):∀ k i,¬ TG (Rk ws out k) i i
  | 0,i,p=>by have:=(Rk.lt p).1; omega
  | k + 1,i,p=>by
    have key:¬ TG (Rk ws out (k + 1)) k k:=fun p=>by
      obtain ⟨r,h1,h2⟩:=TG.head p
      have hr:r<k:=by
        rcases Nat.lt_or_ge r k with h | h
        · exact h
        have:r=k:=by have:=h1.2.2; omega
        subst this; exact (h1.1.irr).elim
      have p2:TG (Rk ws out (k + 1)) r k:=by
        rcases h2 with h2 | h2
        · omega
        exact h2
      rcases Rk.reach p2 hr with ⟨q,h3,h4,h5,_⟩ | ⟨h3,_⟩
      · obtain ⟨wk,x,a1,a2,a3,a4⟩:=h1.1
        obtain ⟨wq,y,b1,b2,b3,b4⟩:=h5;obtain ⟨wk',c1,c2⟩:=hT.tell _ _ b3
        rw [a1] at c1; injection c1 with c1; subst c1
        obtain ⟨z,hz⟩:∃ z,out q=some z:=by
          rcases h3 with h3 | h3
          · exact ⟨x,h3 ▸ a3⟩
          cases h3 with
          | single q=>obtain ⟨⟨_,z,_,_,q3,_⟩,_⟩:=q; exact ⟨z,q3⟩
          | tail _ q=>obtain ⟨⟨_,z,_,_,q3,_⟩,_⟩:=q; exact ⟨z,q3⟩
        obtain ⟨wq',d1,d2⟩:=hT.tell _ _ hz
        rw [b1] at d1; injection d1 with d1; subst d1
        have e1:stg n ws k x=stg n ws k z:=by
          rcases h3 with h3 | h3
          · subst h3; rw [a3] at hz; injection hz with hz; subst hz; rfl
          exact Rk.conn hF hT h3 a3 hz
        have e2:stg n ws k z=stg n ws k y:=hF.same b1 h4 d2 b2
        have:=hF.apart a1 a2 c2 (e1.trans e2)
        subst this
        exact a4 b3
      omega
    rcases Nat.lt_or_ge i k with hi | hi
    · rcases Rk.reach p hi with ⟨q,h1,h2,h3,h4⟩ | ⟨_,h1⟩
      · have p1:TG (Rk ws out (k + 1)) i k:=by
          have s:Rk ws out (k + 1) q k:=⟨h3,by omega,by omega⟩
          rcases h1 with h1 | h1
          · subst h1; exact .single s
          exact .tail (TG.mono (fun _ _=>Rk.up) h1) s
        rcases h4 with h4 | h4
        · omega
        exact key (h4.trans p1)
      exact Rk.never hF hT k i h1
    have:i=k:=by have:=(Rk.lt p).1; omega
    subst this; exact key p
theorem Eg.lt (hT:Tell ws out) {i j:Nat} (h:Eg ws out i j):i<ws.length∧j<ws.length:=by
  obtain ⟨w,v,h1,_,h3,_⟩:=h;obtain ⟨w',h4,_⟩:=hT.tell _ _ h3
  exact ⟨(List.getElem?_eq_some_iff.1 h1).1,(List.getElem?_eq_some_iff.1 h4).1⟩
theorem Eg.never (hF:Forest n ws) (hT:Tell ws out) (i:Nat):¬ TG (Eg ws out) i i:=fun p =>
  Rk.never hF hT ws.length i (TG.mono (fun a b h=>⟨h,h.lt hT⟩) p)
theorem Eg.once (hF:Forest n ws) (hT:Tell ws out) {a b u:Nat} {wa wb:List Nat} (p:TG (Eg ws out) a b) (ha:ws[a]?=some wa) (hb:ws[b]?=some wb) (hua:u∈wa) (hub:u∈wb) (hne:out b≠some u):False:=by
  have hasu:∀ x:Nat,(∃ w,ws[x]?=some w∧u∈w)∨¬ ∃ w,ws[x]?=some w∧u∈w:=fun x=>Classical.em _
  have last:∃ a',(∃ w,ws[a']?=some w∧u∈w)∧(Eg ws out a' b∨∃ c,TG (fun x y=>Eg ws out x y∧¬ ∃ w,ws[y]?=some w∧u∈w) a' c∧Eg ws out c b):=by
    clear hb hub hne
    induction p with
    | single h=>exact ⟨a,⟨wa,ha,hua⟩,.inl h⟩
    | @tail b c p h ih =>
      rcases hasu b with h1 | h1
      · exact ⟨b,h1,.inl h⟩
      obtain ⟨a',h2,h3⟩:=ih
      refine ⟨a',h2,.inr ⟨b,?_,h⟩⟩
      rcases h3 with h3 | ⟨c0,h3,h4⟩
      · exact .single ⟨h3,h1⟩
      exact .tail h3 ⟨h4,h1⟩
  obtain ⟨a',⟨wa',h1,h2⟩,h3⟩:=last
  let out':Nat→Option Nat:=fun x=>if x=a' then some u else if out x=some u then none else out x
  have o1:out' a'=some u:=if_pos rfl
  have o2:∀ x,x≠a'→out x≠some u→out' x=out x:=fun x hx hy=>by show (if _ then _ else _)=_; rw [if_neg hx,if_neg hy]
  have hT':Tell ws out':=by
    refine ⟨fun i v h=>?_,fun i j v hi hj=>?_⟩
    · by_cases e:i=a'
      · subst e; rw [o1] at h; injection h with h; subst h; exact ⟨wa',h1,h2⟩
      by_cases e2:out i=some u
      · have:out' i=none:=by show (if _ then _ else _)=_; rw [if_neg e,if_pos e2]
        rw [this] at h; cases h
      rw [o2 i e e2] at h; exact hT.tell i v h
    have nu:∀ x,x≠a'→out' x=some v→out x=some v∧v≠u:=fun x hx h=>by
      by_cases e2:out x=some u
      · have:out' x=none:=by show (if _ then _ else _)=_; rw [if_neg hx,if_pos e2]
        rw [this] at h; cases h
      rw [o2 x hx e2] at h; exact ⟨h,fun e=>e2 (e ▸ h)⟩
    by_cases ei:i=a' <;> by_cases ej:j=a'
    · rw [ei,ej]
    · subst ei; rw [o1] at hi; injection hi with hi; exact absurd hi.symm (nu j ej hj).2
    · subst ej; rw [o1] at hj; injection hj with hj; exact absurd hj.symm (nu i ei hi).2
    exact hT.one i j v (nu i ei hi).1 (nu j ej hj).1
  have hba:b≠a':=fun e=>by
    subst e
    rcases h3 with h3 | ⟨c,h3,h4⟩
    · exact h3.irr
    exact Eg.never hF hT b (.tail (TG.mono (fun _ _ h=>h.1) h3) h4)
  have tellu:∀ y,(¬ ∃ w,ws[y]?=some w∧u∈w)→y≠a'∧out y≠some u:=fun y hy =>
    ⟨fun e=>hy (e ▸ ⟨wa',h1,h2⟩),fun e=>hy (hT.tell y u e)⟩
  have step:∀ x y,(x=a'∨(x≠a'∧out x≠some u))→y≠a'→out y≠some u→Eg ws out x y→Eg ws out' x y:=fun x y hx hy1 hy2 h=>by
    obtain ⟨w,v,e1,e2,e3,e4⟩:=h
    refine ⟨w,v,e1,e2,by rw [o2 y hy1 hy2]; exact e3,?_⟩
    rcases hx with hx | ⟨hx1,hx2⟩
    · subst hx; rw [o1]; intro e; injection e with e; subst e; exact hy2 e3
    rw [o2 x hx1 hx2]; exact e4
  have cyc:TG (Eg ws out') a' b:=by
    rcases h3 with h3 | ⟨c,h3,h4⟩
    · exact .single (step a' b (.inl rfl) hba hne h3)
    have pc:TG (Eg ws out') a' c∧(c≠a'∧out c≠some u):=by
      clear h4
      induction h3 with
      | single h=>exact ⟨.single (step _ _ (.inl rfl) (tellu _ h.2).1 (tellu _ h.2).2 h.1),tellu _ h.2⟩
      | tail _ h ih=>exact ⟨.tail ih.1 (step _ _ (.inr ih.2) (tellu _ h.2).1 (tellu _ h.2).2 h.1),tellu _ h.2⟩
    exact .tail pc.1 (step c b (.inr pc.2) hba hne h4)
  have back:Eg ws out' b a':=⟨wb,u,hb,hub,o1,by rw [o2 b hba hne]; exact hne⟩
  exact Eg.never hF hT' a' (.tail cyc back)
open Classical in
noncomputable def hgt (ws:List (List Nat)) (out:Nat→Option Nat) (i:Nat):Nat:=(List.range ws.length).countP (fun j=>decide (TG (Eg ws out) i j))
theorem countP_lt_of {p q:Nat→Bool}:∀ {L:List Nat},(∀ x∈L,p x=true→q x=true)→∀ {x:Nat},x∈L→p x=false→q x=true→L.countP p<L.countP q
  | [],_,x,hx,_,_=>by cases hx
  | a :: L,h,x,hx,hp,hq=>by
    have hle:L.countP p≤L.countP q:=List.countP_mono_left (fun y hy=>h y (by simp [hy]))
    rw [List.countP_cons,List.countP_cons]
    rcases List.mem_cons.1 hx with rfl | hx
    · rw [if_pos hq,if_neg (by rw [hp]; decide)]; omega
    have:=countP_lt_of (fun y hy=>h y (by simp [hy])) hx hp hq
    have h2:=h a (by simp)
    by_cases h3:p a=true
    · rw [if_pos h3,if_pos (h2 h3)]; omega
    rw [if_neg h3]; omega
theorem hgt_lt (hF:Forest n ws) (hT:Tell ws out) {i j:Nat} (h:Eg ws out i j):hgt ws out j<hgt ws out i:=by
  classical
  refine countP_lt_of (fun x _ hx=>?_) (x:=j) (by simpa using (h.lt hT).2) ?_ ?_
  · simp only [decide_eq_true_eq] at hx ⊢; exact Relation.TransGen.trans (.single h) hx
  · simp only [decide_eq_false_iff_not]; exact Eg.never hF hT j
  simp only [decide_eq_true_eq]; exact .single h
theorem hgt_le (ws:List (List Nat)) (out:Nat→Option Nat) (i:Nat):hgt ws out i≤ws.length:=by
  have h:=List.countP_le_length (p:=fun j=>@decide (TG (Eg ws out) i j) (Classical.propDecidable _)) (l:=List.range ws.length)
  rw [List.length_range] at h
  exact h
end
end Go.Proofs.YthoooolflmbmbaaGreat
end
section
namespace Go.Proofs.YthoooolflmbmbaaGreat
set_option linter.unusedVariables false
set_option linter.unusedSimpArgs false
def outF (o:List Int) (i:Nat):Option Nat:=match o[i]? with
  | some x=>if 0≤x then some x.toNat else none
  | none=>none
def who (o:List Int) (v:Nat):Option Nat:=o.findIdx? (fun x=>decide (x=(v:Int)))
def strF (ws:List (List Nat)) (ss:List Int) (o:List Int):Nat→Nat→Int
  | 0,_=>4
  | f + 1,v=>match who o v with
    | none=>4
    | some i=>(ws.getD i []).foldl (fun s u=>if u=v then s else max s (strF ws ss o f u)) (ss.getD i 0)
def strong (ws:List (List Nat)) (ss:List Int) (o:List Int) (v:Nat):Int:=strF ws ss o (ws.length + 2) v
structure Cho (n:Nat) (ws:List (List Nat)) (o:List Int):Prop where
  F:Forest n ws
  T:Tell ws (outF o)
  len:o.length=ws.length
  lo:∀ x∈o,-1≤x
theorem outF_some {o:List Int} {i v:Nat}:outF o i=some v↔o[i]?=some (v:Int):=by
  unfold outF
  cases h:o[i]? with
  | none=>simp
  | some x =>
    dsimp only
    split
    · simp only [Option.some.injEq]; omega
    simp only [Option.some.injEq]
    constructor
    · intro h; cases h
    intro h; omega
theorem who_some {ws:List (List Nat)} {o:List Int} (hT:Tell ws (outF o)) {i v:Nat}:who o v=some i↔outF o i=some v:=by
  unfold who
  rw [List.findIdx?_eq_some_iff_getElem]
  constructor
  · rintro ⟨h1,h2,_⟩
    rw [decide_eq_true_eq] at h2
    rw [outF_some,List.getElem?_eq_getElem h1,h2]
  intro h
  have h0:=outF_some.1 h;obtain ⟨h1,h2⟩:=List.getElem?_eq_some_iff.1 h0
  refine ⟨h1,by rw [h2]; simp,fun j hj=>?_⟩
  simp only [Bool.not_eq_true,decide_eq_false_iff_not]
  intro e
  have h3:outF o j=some v:=outF_some.2 (by rw [List.getElem?_eq_getElem (by omega),e])
  have:=hT.one i j v h h3
  omega
theorem who_none {ws:List (List Nat)} {o:List Int} (hT:Tell ws (outF o)) {v:Nat}:who o v=none↔∀ i,outF o i≠some v:=by
  constructor
  · intro h i hi
    rw [(who_some hT).2 hi] at h; cases h
  intro h
  cases h2:who o v with
  | none=>rfl
  | some i=>exact absurd ((who_some hT).1 h2) (h i)
theorem getD_of_get {α:Type} {l:List α} {i:Nat} {x d:α} (h:l[i]?=some x):l.getD i d=x:=by rw [List.getD_eq_getElem?_getD,h]; rfl
theorem foldl_congr_mem {α β:Type} {f g:β→α→β}:∀ {l:List α} {b:β},(∀ b,∀ x∈l,f b x=g b x)→l.foldl f b=l.foldl g b
  | [],_,_=>rfl
  | a :: l,b,h=>by simp only [List.foldl_cons]; rw [h b a (by simp)]; exact foldl_congr_mem (fun b x hx=>h b x (by simp [hx]))
theorem fold_gt {v:Nat} {g:Nat→Int} {S:Int}:∀ {l:List Nat} {s:Int},S<l.foldl (fun s u=>if u=v then s else max s (g u)) s↔S<s∨∃ u∈l,u≠v∧S<g u
  | [],s=>by simp
  | a :: l,s=>by
    simp only [List.foldl_cons]
    rw [fold_gt]
    constructor
    · rintro (h | ⟨u,h1,h2,h3⟩)
      · by_cases e:a=v
        · rw [if_pos e] at h; exact .inl h
        rw [if_neg e] at h
        rcases Int.lt_or_le S s with h4 | h4
        · exact .inl h4
        exact .inr ⟨a,by simp,e,by omega⟩
      exact .inr ⟨u,by simp [h1],h2,h3⟩
    rintro (h | ⟨u,h1,h2,h3⟩)
    · left; split <;> omega
    rcases List.mem_cons.1 h1 with rfl | h1
    · left; rw [if_neg h2]; omega
    exact .inr ⟨u,h1,h2,h3⟩
theorem fold_le {v:Nat} {g:Nat→Int} {B:Int} {l:List Nat} {s:Int}:l.foldl (fun s u=>if u=v then s else max s (g u)) s≤B↔s≤B∧∀ u∈l,u≠v→g u≤B:=by
  rw [← Int.not_lt,fold_gt]
  constructor
  · intro h
    refine ⟨by rcases Int.lt_or_le B s with h1 | h1; exact absurd (.inl h1) h; exact h1,fun u hu hv=>?_⟩
    rcases Int.lt_or_le B (g u) with h1 | h1
    · exact absurd (.inr ⟨u,hu,hv,h1⟩) h
    exact h1
  rintro ⟨h1,h2⟩ (h3 | ⟨u,h3,h4,h5⟩)
  · omega
  have:=h2 u h3 h4; omega
section
variable {n:Nat} {ws:List (List Nat)} {ss:List Int} {o:List Int}
noncomputable def hv (ws:List (List Nat)) (o:List Int) (v:Nat):Nat:=match who o v with
  | none=>0
  | some i=>hgt ws (outF o) i + 1
theorem Cho.edge (h:Cho n ws o) {i j v u:Nat} {w:List Nat} (hi:outF o i=some v) (hw:ws[i]?=some w) (hu:u∈w) (hne:u≠v) (hj:outF o j=some u):Eg ws (outF o) i j :=
  ⟨w,u,hw,hu,hj,by rw [hi]; intro e; injection e with e; exact hne e.symm⟩
theorem Cho.get (h:Cho n ws o) {i v:Nat} (hi:outF o i=some v):∃ w,ws[i]?=some w∧v∈w∧ws.getD i []=w:=by
  obtain ⟨w,h1,h2⟩:=h.T.tell i v hi
  exact ⟨w,h1,h2,getD_of_get h1⟩
theorem hv_lt (h:Cho n ws o) {i v u:Nat} {w:List Nat} (hi:outF o i=some v) (hw:ws[i]?=some w) (hu:u∈w) (hne:u≠v):hv ws o u<hv ws o v:=by
  unfold hv
  rw [(who_some h.T).2 hi]
  cases h1:who o u with
  | none=>simp
  | some j =>
    have:=hgt_lt h.F h.T (h.edge hi hw hu hne ((who_some h.T).1 h1))
    simp only; omega
theorem strF_stable (h:Cho n ws o):∀ f v,hv ws o v<f→strF ws ss o f v=strF ws ss o (f + 1) v
  | 0,v,hf=>by omega
  | f + 1,v,hf=>by
    rw [strF,strF]
    cases h1:who o v with
    | none=>rfl
    | some i =>
      have hi:=(who_some h.T).1 h1;obtain ⟨w,h2,h3,h4⟩:=h.get hi
      simp only [h4]
      apply foldl_congr_mem
      intro s u hu
      by_cases e:u=v
      · rw [if_pos e,if_pos e]
      rw [if_neg e,if_neg e,strF_stable h f u (by have:=hv_lt h hi h2 hu e; omega)]
theorem hv_le (h:Cho n ws o) (v:Nat):hv ws o v≤ws.length + 1:=by
  unfold hv
  cases who o v with
  | none=>simp
  | some i=>have:=hgt_le ws (outF o) i; simp only; omega
theorem strong_none (h:Cho n ws o) {v:Nat} (h1:who o v=none):strong ws ss o v=4:=by
  unfold strong; rw [strF,h1]
theorem strong_some (h:Cho n ws o) {v i:Nat} (h1:who o v=some i):strong ws ss o v=(ws.getD i []).foldl (fun s u=>if u=v then s else max s (strong ws ss o u)) (ss.getD i 0):=by
  unfold strong
  rw [strF,h1]
  have hi:=(who_some h.T).1 h1;obtain ⟨w,h2,h3,h4⟩:=h.get hi
  simp only [h4]
  apply foldl_congr_mem
  intro s u hu
  by_cases e:u=v
  · rw [if_pos e,if_pos e]
  rw [if_neg e,if_neg e,strF_stable h _ u (by have:=hv_lt h hi h2 hu e; have:=hv_le h v; omega)]
theorem strong_le (h:Cho n ws o) (hs:∀ s∈ss,s≤4) (v:Nat):strong ws ss o v≤4:=by
  have key:∀ f v,strF ws ss o f v≤4:=fun f=>by
    induction f with
    | zero=>intro v; simp [strF]
    | succ f ih =>
      intro v
      rw [strF]
      cases who o v with
      | none=>simp
      | some i =>
        simp only
        rw [fold_le]
        refine ⟨?_,fun u _ _=>ih u⟩
        rw [List.getD_eq_getElem?_getD]
        cases h2:ss[i]? with
        | none=>simp
        | some s=>simpa using hs s (List.mem_of_getElem? h2)
  exact key _ v
end
def wkF (g:Nat→Int) (T:List Nat):List Nat→Option Nat × Int→Option Nat × Int
  | [],b=>b
  | u :: l,b=>wkF g T l (if u ∉ T∧b.2<g u then (some u,g u) else b)
def wk (ws:List (List Nat)) (ss:List Int) (o:List Int) (i:Nat) (T:List Nat):Option Nat:=(wkF (strong ws ss o) T (ws.getD i []) (none,ss.getD i 0)).1
theorem wkF_app (g:Nat→Int) (T:List Nat):∀ (l r:List Nat) (b:Option Nat × Int),wkF g T (l ++ r) b=wkF g T r (wkF g T l b)
  | [],_,_=>rfl
  | u :: l,r,b=>by simp only [List.cons_append,wkF]; rw [wkF_app]
theorem wkF_spec (g : Nat → Int) (T : List Nat) (S : Int) : ∀ (l : List Nat) (b : Option Nat × Int), (b.1 = none → b.2 = S) → (∀ v, b.1 = some v → b.2 = g v ∧ S < g v ∧ v ∉ T) →
    ((wkF g T l b).1=none→(wkF g T l b).2=S)∧(∀ v,(wkF g T l b).1=some v→(wkF g T l b).2=g v∧S<g v∧v ∉ T∧(v∈l∨b.1=some v))∧(∀ u∈l,u ∉ T→g u≤(wkF g T l b).2)∧b.2≤(wkF g T l b).2
  | [],b,h1,h2=>⟨h1,fun v hv=>⟨(h2 v hv).1,(h2 v hv).2.1,(h2 v hv).2.2,.inr hv⟩,by simp,Int.le_refl _⟩
  | u :: l,b,h1,h2=>by
    simp only [wkF]
    by_cases hc:u ∉ T∧b.2<g u
    · rw [if_pos hc]
      have hS:S≤b.2:=by
        cases hb:b.1 with
        | none=>exact Int.le_of_eq (h1 hb).symm
        | some v=>have:=h2 v hb; omega
      obtain ⟨a1,a2,a3,a4⟩:=wkF_spec g T S l (some u,g u) (fun h=>by cases h) (fun v hv=>by injection hv with hv; subst hv; exact ⟨rfl,by omega,hc.1⟩)
      refine ⟨a1,fun v hv=>?_,fun x hx hxT=>?_,by simp only at a4; omega⟩
      · obtain ⟨b1,b2,b3,b4⟩:=a2 v hv
        refine ⟨b1,b2,b3,.inl ?_⟩
        rcases b4 with b4 | b4
        · simp [b4]
        injection b4 with b4; simp [b4]
      rcases List.mem_cons.1 hx with rfl | hx
      · exact a4
      exact a3 x hx hxT
    rw [if_neg hc]
    obtain ⟨a1,a2,a3,a4⟩:=wkF_spec g T S l b h1 h2
    refine ⟨a1,fun v hv=>?_,fun x hx hxT=>?_,a4⟩
    · obtain ⟨b1,b2,b3,b4⟩:=a2 v hv
      exact ⟨b1,b2,b3,by rcases b4 with b4 | b4; exact .inl (by simp [b4]); exact .inr b4⟩
    rcases List.mem_cons.1 hx with rfl | hx
    · have:¬ b.2<g x:=fun h=>hc ⟨hxT,h⟩
      omega
    exact a3 x hx hxT
section
variable {n:Nat} {ws:List (List Nat)} {ss:List Int} {o:List Int} {i:Nat} {T:List Nat}
theorem wk_none (h:wk ws ss o i T=none):∀ u∈ws.getD i [],u ∉ T→strong ws ss o u≤ss.getD i 0:=fun u hu hT=>by
  obtain ⟨a1,_,a3,_⟩:=wkF_spec (strong ws ss o) T (ss.getD i 0) (ws.getD i []) (none,ss.getD i 0) (fun _=>rfl) (fun v hv=>by cases hv);have h1:=a3 u hu hT
  rw [a1 h] at h1; exact h1
theorem wk_some {v:Nat} (h:wk ws ss o i T=some v):v∈ws.getD i []∧v ∉ T∧ss.getD i 0<strong ws ss o v∧∀ u∈ws.getD i [],u ∉ T→strong ws ss o u≤strong ws ss o v:=by
  obtain ⟨_,a2,a3,_⟩:=wkF_spec (strong ws ss o) T (ss.getD i 0) (ws.getD i []) (none,ss.getD i 0) (fun _=>rfl) (fun v hv=>by cases hv);obtain ⟨b1,b2,b3,b4⟩:=a2 v h
  refine ⟨?_,b3,b2,fun u hu hT=>by have:=a3 u hu hT; rw [b1] at this; exact this⟩
  rcases b4 with b4 | b4
  · exact b4
  cases b4
theorem wk_none_of (h:∀ u∈ws.getD i [],u ∉ T→strong ws ss o u≤ss.getD i 0):wk ws ss o i T=none:=by
  cases h1:wk ws ss o i T with
  | none=>rfl
  | some v=>obtain ⟨a,b,c,_⟩:=wk_some h1; have:=h v a b; omega
end
def enfF (ws:List (List Nat)) (ss:List Int):Nat→List Int→Nat→List Nat→List Int
  | 0,o,_,_=>o
  | f + 1,o,i,T=>match wk ws ss o i T with
    | none=>o
    | some v=>match who o v with
      | none=>o.set i (v:Int)
      | some j=>enfF ws ss f ((o.set j (-1)).set i (v:Int)) j (ws.getD i [] ++ T)
def free (n:Nat) (T:List Nat):Nat:=(List.range n).countP (fun v=>decide (v ∉ T))
theorem free_lt {n v:Nat} {w T:List Nat} (hv:v<n) (hw:v∈w) (hT:v ∉ T):free n (w ++ T)<free n T:=by
  refine countP_lt_of (fun x _ hx=>?_) (x:=v) (by simpa using hv) (by simp [hw]) (by simpa using hT)
  simp only [decide_eq_true_eq,List.mem_append,not_or] at hx ⊢; exact hx.2
theorem free_nil (n:Nat):free n []=n:=by simp [free]
theorem outF_set {o:List Int} {i x:Nat} {y:Int} (hi:i<o.length):outF (o.set i y) x=if x=i then (if 0≤y then some y.toNat else none) else outF o x:=by
  unfold outF
  rw [List.getElem?_set]
  by_cases e:i=x
  · subst e; simp [hi]
  rw [if_neg e,if_neg (fun h=>e h.symm)]
section
variable {n:Nat} {ws:List (List Nat)} {ss:List Int} {o:List Int}
theorem Cho.move (h:Cho n ws o) {i j v:Nat} (hi:i<ws.length) (hv:v∈ws.getD i []) (hj:outF o j=some v) (hij:i≠j):Cho n ws ((o.set j (-1)).set i (v:Int))∧(∀ x,outF ((o.set j (-1)).set i (v:Int)) x=if x=i then some v else if x=j then none else outF o x):=by
  have hl:=h.len
  have hjl:j<o.length:=(List.getElem?_eq_some_iff.1 (outF_some.1 hj)).1
  have e:∀ x,outF ((o.set j (-1)).set i (v:Int)) x=if x=i then some v else if x=j then none else outF o x:=fun x=>by
    rw [outF_set (by simp; omega),outF_set hjl]
    simp
  refine ⟨⟨h.F,⟨fun x u hx=>?_,fun x y u hx hy=>?_⟩,by simp [hl],fun z hz=>?_⟩,e⟩
  · rw [e] at hx
    split at hx
    · rename_i h1
      injection hx with hx; subst hx; subst h1
      refine ⟨_,List.getElem?_eq_getElem hi,?_⟩
      rwa [List.getD_eq_getElem?_getD,List.getElem?_eq_getElem hi] at hv
    split at hx
    · cases hx
    exact h.T.tell x u hx
  · rw [e] at hx hy
    have key:∀ z,z≠i→z≠j→outF o z≠some v:=fun z _ hzj hz=>hzj (h.T.one z j v hz hj)
    by_cases hxi:x=i <;> by_cases hyi:y=i
    · rw [hxi,hyi]
    · rw [if_pos hxi] at hx; rw [if_neg hyi] at hy
      injection hx with hx; subst hx
      split at hy
      · cases hy
      rename_i hyj; exact absurd hy (key y hyi hyj)
    · rw [if_neg hxi] at hx; rw [if_pos hyi] at hy
      injection hy with hy; subst hy
      split at hx
      · cases hx
      rename_i hxj; exact absurd hx (key x hxi hxj)
    rw [if_neg hxi] at hx; rw [if_neg hyi] at hy
    split at hx
    · cases hx
    split at hy
    · cases hy
    exact h.T.one x y u hx hy
  rcases List.mem_or_eq_of_mem_set hz with h1 | h1
  · rcases List.mem_or_eq_of_mem_set h1 with h2 | h2
    · exact h.lo z h2
    omega
  omega
theorem Cho.add (h:Cho n ws o) {i v:Nat} (hi:i<ws.length) (hv:v∈ws.getD i []) (hno:∀ j,outF o j≠some v):Cho n ws (o.set i (v:Int))∧(∀ x,outF (o.set i (v:Int)) x=if x=i then some v else outF o x):=by
  have hl:=h.len
  have e:∀ x,outF (o.set i (v:Int)) x=if x=i then some v else outF o x:=fun x=>by
    rw [outF_set (by omega)]; simp
  refine ⟨⟨h.F,⟨fun x u hx=>?_,fun x y u hx hy=>?_⟩,by simp [hl],fun z hz=>?_⟩,e⟩
  · rw [e] at hx
    split at hx
    · rename_i h1
      injection hx with hx; subst hx; subst h1
      refine ⟨_,List.getElem?_eq_getElem hi,?_⟩
      rwa [List.getD_eq_getElem?_getD,List.getElem?_eq_getElem hi] at hv
    exact h.T.tell x u hx
  · rw [e] at hx hy
    by_cases hxi:x=i <;> by_cases hyi:y=i
    · rw [hxi,hyi]
    · rw [if_pos hxi] at hx; rw [if_neg hyi] at hy
      injection hx with hx; subst hx; exact absurd hy (hno y)
    · rw [if_neg hxi] at hx; rw [if_pos hyi] at hy
      injection hy with hy; subst hy; exact absurd hx (hno x)
    rw [if_neg hxi] at hx; rw [if_neg hyi] at hy; exact h.T.one x y u hx hy
  rcases List.mem_or_eq_of_mem_set hz with h1 | h1
  · exact h.lo z h1
  omega
theorem strong_keep (h:Cho n ws o) {o':List Int} (h':Cho n ws o') {j v:Nat} (hj:outF o j=some v) (hsame:∀ x u,u≠v→(outF o' x=some u↔outF o x=some u)) {u:Nat} {w:List Nat} (hw:ws[j]?=some w) (hu:u∈w) (hne:u≠v):strong ws ss o' u=strong ws ss o u:=by
  have hwho:∀ x,x≠v→who o' x=who o x:=fun x hx=>by
    cases h1:who o x with
    | none=>exact (who_none h'.T).2 (fun i hi=>(who_none h.T).1 h1 i ((hsame i x hx).1 hi))
    | some k=>exact (who_some h'.T).2 ((hsame k x hx).2 ((who_some h.T).1 h1))
  have key:∀ f x,x≠v→(∀ k,who o x=some k→k≠j∧¬ TG (Eg ws (outF o)) k j)→strF ws ss o' f x=strF ws ss o f x:=fun f=>by
    induction f with
    | zero=>intro x _ _; rfl
    | succ f ih =>
      intro x hx hk
      rw [strF,strF,hwho x hx]
      cases h1:who o x with
      | none=>rfl
      | some k =>
        have hkx:=(who_some h.T).1 h1;obtain ⟨w',a1,a2,a3⟩:=h.get hkx
        simp only [a3]
        apply foldl_congr_mem
        intro s y hy
        by_cases e:y=x
        · rw [if_pos e,if_pos e]
        rw [if_neg e,if_neg e]
        obtain ⟨b1,b2⟩:=hk k h1
        have hyv:y≠v:=fun e2=>b2 (.single (h.edge hkx a1 (e2 ▸ hy) (e2 ▸ e) hj))
        rw [ih y hyv (fun k' hk'=>?_)]
        have ed:=h.edge hkx a1 hy e ((who_some h.T).1 hk')
        exact ⟨fun e2=>b2 (.single (e2 ▸ ed)),fun p=>b2 ((Relation.TransGen.single ed).trans p)⟩
  refine key _ u hne (fun k hk=>?_)
  have ed:=h.edge hj hw hu hne ((who_some h.T).1 hk)
  exact ⟨fun e=>(e ▸ ed).irr,fun p=>Eg.never h.F h.T j ((Relation.TransGen.single ed).trans p)⟩
end
def Enf (n:Nat) (ws:List (List Nat)) (ss:List Int) (o0:List Int) (i0:Nat) (o:List Int):Prop:=Cho n ws o ∧
  ((o=o0∧wk ws ss o0 i0 []=none)∨(∀ x,(outF o x).isSome=true↔x=i0∨(outF o0 x).isSome=true) ∨
    ∃ k,k≠i0∧(outF o0 k).isSome=true∧ss.getD i0 0<ss.getD k 0∧∀ x,(outF o x).isSome=true↔(x=i0∨(outF o0 x).isSome=true)∧x≠k)
structure EInv (n:Nat) (ws:List (List Nat)) (ss:List Int) (o0:List Int) (i0:Nat) (o:List Int) (i:Nat) (T:List Nat):Prop where
  c:Cho n ws o
  lt:i<ws.length
  no:outF o i=none
  set:∀ x,(outF o x).isSome=true↔(x=i0∨(outF o0 x).isSome=true)∧x≠i
  A:∀ v,v ∉ T→∀ x,outF o x=some v↔outF o0 x=some v
  B:∀ u∈T,∃ a w,ws[a]?=some w∧u∈w∧TG (Eg ws (outF o0)) a i
  C:(i=i0∧o=o0∧T=[])∨(i≠i0∧(∃ v0∈T,outF o0 i=some v0)∧(ss.getD i0 0<ss.getD i 0∨∃ u∈ws.getD i [],u ∉ T∧ss.getD i0 0<strong ws ss o u))
theorem EInv.start {n:Nat} {ws:List (List Nat)} {ss:List Int} {o0:List Int} {i0:Nat} (h:Cho n ws o0) (hi:i0<ws.length) (hno:outF o0 i0=none):EInv n ws ss o0 i0 o0 i0 [] :=
  ⟨h,hi,hno,fun x=>⟨fun hx=>⟨.inr hx,fun e=>by rw [e,hno] at hx; cases hx⟩,fun hx=>by rcases hx.1 with h1 | h1; exact absurd h1 hx.2; exact h1⟩,fun _ _ _=>Iff.rfl,(fun u hu=>by cases hu),.inl ⟨rfl,rfl,rfl⟩⟩
section
variable {n:Nat} {ws:List (List Nat)} {ss:List Int} {o0 o:List Int} {i0 i:Nat} {T:List Nat}
theorem EInv.mine (h:EInv n ws ss o0 i0 o i T):i=i0∨(outF o0 i).isSome=true:=by
  rcases h.C with ⟨h1,_⟩ | ⟨_,⟨v0,_,h1⟩,_⟩
  · exact .inl h1
  exact .inr (by rw [h1]; rfl)
theorem EInv.over (h:EInv n ws ss o0 i0 o i T) {v:Nat} (hv:wk ws ss o i T=some v):ss.getD i0 0<strong ws ss o v:=by
  obtain ⟨h1,h2,h3,h4⟩:=wk_some hv
  rcases h.C with ⟨h5,_⟩ | ⟨_,_,h5 | ⟨u,h5,h6,h7⟩⟩
  · rw [← h5]; exact h3
  · omega
  have:=h4 u h5 h6; omega
theorem EInv.step (h0:Cho n ws o0) (hno0:outF o0 i0=none) (h:EInv n ws ss o0 i0 o i T) {v j:Nat} (hv:wk ws ss o i T=some v) (hj:who o v=some j):EInv n ws ss o0 i0 ((o.set j (-1)).set i (v:Int)) j (ws.getD i [] ++ T):=by
  obtain ⟨h1,h2,h3,h4⟩:=wk_some hv;have hjo:=(who_some h.c.T).1 hj
  have hij:i≠j:=fun e=>by rw [← e,h.no] at hjo; cases hjo
  obtain ⟨hc,he⟩:=h.c.move h.lt h1 hjo hij
  have hj0:outF o0 j=some v:=(h.A v h2 j).1 hjo
  have hji0:j≠i0:=fun e=>by rw [e,hno0] at hj0; cases hj0
  obtain ⟨wj,hwj,hvj,hgj⟩:=h0.get hj0
  have hwi:ws[i]?=some (ws.getD i []):=by
    rw [List.getD_eq_getElem?_getD,List.getElem?_eq_getElem h.lt]; rfl
  have hiv:outF o0 i≠some v:=fun e=>by
    rcases h.C with ⟨h5,_⟩ | ⟨_,⟨v0,h5,h6⟩,_⟩
    · rw [h5,hno0] at e; cases e
    rw [h6] at e; injection e with e; subst e; exact h2 h5
  have ed:Eg ws (outF o0) i j:=⟨_,v,hwi,h1,hj0,hiv⟩
  have hB:∀ u∈ws.getD i [] ++ T,∃ a w,ws[a]?=some w∧u∈w∧TG (Eg ws (outF o0)) a j:=fun u hu=>by
    rcases List.mem_append.1 hu with h5 | h5
    · exact ⟨i,_,hwi,h5,.single ed⟩
    obtain ⟨a,w,h6,h7,h8⟩:=h.B u h5
    exact ⟨a,w,h6,h7,.tail h8 ed⟩
  refine ⟨hc,(List.getElem?_eq_some_iff.1 hwj).1,by rw [he,if_neg hij.symm,if_pos rfl],fun x=>?_,fun u hu x=>?_,hB,.inr ⟨hji0,⟨v,List.mem_append_left _ h1,hj0⟩,?_⟩⟩
  · rw [he]
    by_cases e1:x=i
    · subst e1; rw [if_pos rfl]; simp only [Option.isSome_some,true_iff]; exact ⟨h.mine,hij⟩
    rw [if_neg e1]
    by_cases e2:x=j
    · subst e2; rw [if_pos rfl]; simp
    rw [if_neg e2,h.set x]
    constructor
    · exact fun h5=>⟨h5.1,e2⟩
    exact fun h5=>⟨h5.1,e1⟩
  · have hu1:u ∉ ws.getD i []:=fun e=>hu (List.mem_append_left _ e)
    have hu2:u ∉ T:=fun e=>hu (List.mem_append_right _ e)
    have huv:u≠v:=fun e=>hu1 (e ▸ h1)
    rw [← h.A u hu2 x,he]
    by_cases e1:x=i
    · subst e1; rw [if_pos rfl,h.no]
      constructor
      · intro e; injection e with e; exact absurd e.symm huv
      intro e; cases e
    rw [if_neg e1]
    by_cases e2:x=j
    · subst e2; rw [if_pos rfl,hjo]
      constructor
      · intro e; cases e
      intro e; injection e with e; exact absurd e.symm huv
    rw [if_neg e2]
  have h5:=h.over hv
  rw [strong_some h.c hj,fold_gt] at h5
  rcases h5 with h5 | ⟨u,h6,h7,h8⟩
  · exact .inl h5
  refine .inr ⟨u,h6,fun hu=>?_,?_⟩
  · obtain ⟨a,w,h9,h10,h11⟩:=hB u hu
    exact Eg.once h0.F h0.T h11 h9 hwj h10 (hgj ▸ h6) (by rw [hj0]; intro e; injection e with e; exact h7 e.symm)
  rw [strong_keep h.c hc hjo (fun x y hy=>?_) hwj (hgj ▸ h6) h7]
  · exact h8
  rw [he]
  by_cases e1:x=i
  · subst e1; rw [if_pos rfl,h.no]
    constructor
    · intro e; injection e with e; exact absurd e.symm hy
    intro e; cases e
  rw [if_neg e1]
  by_cases e2:x=j
  · subst e2; rw [if_pos rfl,hjo]
    constructor
    · intro e; cases e
    intro e; injection e with e; exact absurd e.symm hy
  rw [if_neg e2]
theorem EInv.stop (h:EInv n ws ss o0 i0 o i T) (hv:wk ws ss o i T=none):Enf n ws ss o0 i0 o:=by
  refine ⟨h.c,?_⟩
  rcases h.C with ⟨h1,h2,h3⟩ | ⟨h1,⟨v0,h2,h3⟩,h4⟩
  · subst h1; subst h2; subst h3; exact .inl ⟨rfl,hv⟩
  refine .inr (.inr ⟨i,h1,by rw [h3]; rfl,?_,h.set⟩)
  rcases h4 with h4 | ⟨u,h5,h6,h7⟩
  · exact h4
  have:=wk_none hv u h5 h6; omega
theorem EInv.done (h:EInv n ws ss o0 i0 o i T) {v:Nat} (hv:wk ws ss o i T=some v) (hj:who o v=none):Enf n ws ss o0 i0 (o.set i (v:Int)):=by
  obtain ⟨h1,h2,h3,h4⟩:=wk_some hv;obtain ⟨hc,he⟩:=h.c.add h.lt h1 ((who_none h.c.T).1 hj)
  refine ⟨hc,.inr (.inl fun x=>?_)⟩
  rw [he]
  by_cases e:x=i
  · subst e; rw [if_pos rfl]; simp only [Option.isSome_some,true_iff]; exact h.mine
  rw [if_neg e,h.set x]
  exact ⟨fun h5=>h5.1,fun h5=>⟨h5,e⟩⟩
theorem EInv.all (h0:Cho n ws o0) (hno0:outF o0 i0=none):∀ f {o:List Int} {i:Nat} {T:List Nat},EInv n ws ss o0 i0 o i T→free n T<f→Enf n ws ss o0 i0 (enfF ws ss f o i T)
  | 0,o,i,T,h,hf=>by omega
  | f + 1,o,i,T,h,hf=>by
    rw [enfF]
    cases h1:wk ws ss o i T with
    | none=>exact h.stop h1
    | some v =>
      simp only
      cases h2:who o v with
      | none=>exact h.done h1 h2
      | some j =>
        simp only
        obtain ⟨h3,h4,_,_⟩:=wk_some h1
        have hwi:ws[i]?=some (ws.getD i []):=by
          rw [List.getD_eq_getElem?_getD,List.getElem?_eq_getElem h.lt]; rfl
        have hvn:v<n:=h0.F.inW _ (List.mem_of_getElem? hwi) v h3
        exact EInv.all h0 hno0 f (h.step h0 hno0 h1 h2) (by have:=free_lt hvn h3 h4; omega)
end
def enf (n:Nat) (ws:List (List Nat)) (ss:List Int) (o:List Int) (i:Nat):List Int:=enfF ws ss (n + 1) o i []
theorem enf_spec {n:Nat} {ws:List (List Nat)} {ss:List Int} {o:List Int} {i:Nat} (h:Cho n ws o) (hi:i<ws.length) (hno:outF o i=none):Enf n ws ss o i (enf n ws ss o i) :=
  EInv.all h hno (n + 1) (EInv.start h hi hno) (by rw [free_nil]; omega)
def nlv (m:Nat) (ss:List Int) (p:Nat→Bool) (t:Int):Nat:=(List.range m).countP (fun i=>!(p i) && decide (ss.getD i 0=t))
def wgt (m:Nat) (ss:List Int) (p:Nat→Bool):Nat:=nlv m ss p 0 * 4362470401 + nlv m ss p 1 * 16974593 + nlv m ss p 2 * 66049 + nlv m ss p 3 * 257 + nlv m ss p 4
theorem nlv_add {m:Nat} {ss:List Int} {p q:Nat→Bool} {k:Nat} (hk:k<m) (hp:p k=false) (hq:q k=true) (h:∀ x,x≠k→q x=p x) (t:Int):nlv m ss p t=nlv m ss q t + (if ss.getD k 0=t then 1 else 0):=by
  unfold nlv
  by_cases e:ss.getD k 0=t
  · rw [if_pos e]
    exact countP_one List.nodup_range (m:=k) (by simpa using hk) (fun v _ hv=>by rw [h v hv]) (by rw [hq]; simp) (by rw [hp]; simpa using e)
  rw [if_neg e,Nat.add_zero]
  apply List.countP_congr
  intro v _
  by_cases ev:v=k
  · subst ev; rw [decide_eq_false e]; simp
  rw [h v ev]
def tels (o:List Int) (x:Nat):Bool:=(outF o x).isSome
section
variable {n:Nat} {ws:List (List Nat)} {ss:List Int} {o o':List Int} {i:Nat}
theorem Enf.lighter (hs:∀ s∈ss,0≤s∧s≤4) (hsl:ss.length=ws.length) (hm:ws.length≤256) (hi:i<ws.length) (hno:outF o i=none) (h:Enf n ws ss o i o'):(o'=o∧wk ws ss o i []=none)∨wgt ws.length ss (tels o')<wgt ws.length ss (tels o):=by
  obtain ⟨hc,h1 | h1 | ⟨k,h1,h2,h3,h4⟩⟩:=h
  · exact .inl h1
  · right
    have e:∀ t,nlv ws.length ss (tels o) t=nlv ws.length ss (tels o') t + (if ss.getD i 0=t then 1 else 0):=nlv_add hi (by unfold tels; rw [hno]; rfl) ((h1 i).2 (.inl rfl)) (fun x hx=>by
      unfold tels
      rw [Bool.eq_iff_iff,h1 x]
      exact ⟨fun h=>by rcases h with h | h; exact absurd h hx; exact h,.inr⟩)
    have hsi:0≤ss.getD i 0∧ss.getD i 0≤4:=by
      rw [List.getD_eq_getElem?_getD,List.getElem?_eq_getElem (by omega)]; exact hs _ (List.getElem_mem _)
    unfold wgt
    rw [e 0,e 1,e 2,e 3,e 4]
    split <;> split <;> split <;> split <;> split <;> omega
  right
  have hkm:k<ws.length:=by
    cases h5:outF o k with
    | none=>rw [h5] at h2; cases h2
    | some v=>exact (by
        have:=outF_some.1 h5
        obtain ⟨h6,_⟩:=List.getElem?_eq_some_iff.1 this
        have:=hc.len
        by_cases h7:k<ws.length
        · exact h7
        exfalso
        have h8:ss.getD k 0=0:=by rw [List.getD_eq_getElem?_getD,List.getElem?_eq_none (by omega)]; rfl
        have hsi:0≤ss.getD i 0:=by
          rw [List.getD_eq_getElem?_getD,List.getElem?_eq_getElem (by omega)]; exact (hs _ (List.getElem_mem _)).1
        omega)
  have e1:∀ t,nlv ws.length ss (tels o) t=nlv ws.length ss (fun x=>tels o x || decide (x=i)) t + (if ss.getD i 0=t then 1 else 0):=nlv_add hi (by unfold tels; rw [hno]; rfl) (by simp) (fun x hx=>by simp [hx])
  have e2:∀ t,nlv ws.length ss (tels o') t=nlv ws.length ss (fun x=>tels o x || decide (x=i)) t + (if ss.getD k 0=t then 1 else 0):=nlv_add hkm (by
      unfold tels
      cases h5:(outF o' k).isSome with
      | false=>rfl
      | true=>exact absurd rfl ((h4 k).1 h5).2) (by unfold tels; rw [h2]; rfl) (fun x hx=>by
    rw [Bool.eq_iff_iff]
    unfold tels
    rw [h4 x,Bool.or_eq_true,decide_eq_true_eq]
    exact ⟨fun h=>⟨by rcases h with h | h; exact .inr h; exact .inl h,hx⟩,fun h=>by rcases h.1 with h | h; exact .inr h; exact .inl h⟩)
  have hsi:0≤ss.getD i 0∧ss.getD i 0≤4:=by
    rw [List.getD_eq_getElem?_getD,List.getElem?_eq_getElem (by omega)]; exact hs _ (List.getElem_mem _)
  have hsk:0≤ss.getD k 0∧ss.getD k 0≤4:=by
    rw [List.getD_eq_getElem?_getD,List.getElem?_eq_getElem (by omega)]; exact hs _ (List.getElem_mem _)
  have key:∀ a b:Int,0≤a→a≤4→0≤b→b≤4→a<b→∀ c:Int→Nat,(c 0 + if b=0 then 1 else 0) * 4362470401 + (c 1 + if b=1 then 1 else 0) * 16974593 + (c 2 + if b=2 then 1 else 0) * 66049 + (c 3 + if b=3 then 1 else 0) * 257 + (c 4 + if b=4 then 1 else 0)<(c 0 + if a=0 then 1 else 0) * 4362470401 + (c 1 + if a=1 then 1 else 0) * 16974593 + (c 2 + if a=2 then 1 else 0) * 66049 + (c 3 + if a=3 then 1 else 0) * 257 + (c 4 + if a=4 then 1 else 0):=fun a b h1 h2 h3 h4 h5 c=>by
    have ha:a=0∨a=1∨a=2∨a=3∨a=4:=by omega
    have hb:b=0∨b=1∨b=2∨b=3∨b=4:=by omega
    rcases ha with rfl | rfl | rfl | rfl | rfl <;> rcases hb with rfl | rfl | rfl | rfl | rfl <;> simp at * <;> omega
  unfold wgt
  rw [e1 0,e1 1,e1 2,e1 3,e1 4,e2 0,e2 1,e2 2,e2 3,e2 4]
  exact key _ _ hsi.1 hsi.2 hsk.1 hsk.2 h3 _
end
end Go.Proofs.YthoooolflmbmbaaGreat
end
section
namespace Go.Proofs.YthoooolflmbmbaaGreat
set_option linter.unusedVariables false
set_option linter.unusedSimpArgs false
def turn1 (n:Nat) (ws:List (List Nat)) (ss:List Int) (o:List Int) (i:Nat):List Int:=if o.getD i 0=-1 then enf n ws ss o i else o
def turnL (n:Nat) (ws:List (List Nat)) (ss:List Int) (L:List Nat) (o:List Int):List Int:=L.foldl (turn1 n ws ss) o
def ordS (m:Nat) (ss:List Int):List Nat:=(List.range 5).flatMap fun (s:Nat)=>(List.range m).filter fun i=>decide (ss.getD i 0=(s:Int))
def passF (n:Nat) (ws:List (List Nat)) (ss:List Int) (o:List Int):List Int:=turnL n ws ss (ordS ws.length ss) o
def setF (n:Nat) (ws:List (List Nat)) (ss:List Int):Nat→List Int→List Int
  | 0,o=>o
  | f + 1,o=>if passF n ws ss o=o then o else setF n ws ss f (passF n ws ss o)
def wgO (ws:List (List Nat)) (ss:List Int) (o:List Int):Nat:=wgt ws.length ss (tels o)
def setl (n:Nat) (ws:List (List Nat)) (ss:List Int) (o:List Int):List Int:=setF n ws ss (wgO ws ss o + 1) o
structure StOk (ws:List (List Nat)) (ss:List Int):Prop where
  s:∀ s∈ss,0≤s∧s≤4
  l:ss.length=ws.length
  m:ws.length≤256
theorem mem_ordS {m:Nat} {ss:List Int} {i:Nat}:i∈ordS m ss↔i<m∧0≤ss.getD i 0∧ss.getD i 0≤4:=by
  unfold ordS
  simp only [List.mem_flatMap,List.mem_range,List.mem_filter,decide_eq_true_eq]
  constructor
  · rintro ⟨s,h1,h2,h3⟩; omega
  rintro ⟨h1,h2,h3⟩; exact ⟨(ss.getD i 0).toNat,by omega,h1,by omega⟩
section
variable {n:Nat} {ws:List (List Nat)} {ss:List Int} {o:List Int}
theorem StOk.at_ (h:StOk ws ss) {i:Nat} (hi:i<ws.length):0≤ss.getD i 0∧ss.getD i 0≤4:=by
  have hl:=h.l
  rw [List.getD_eq_getElem?_getD,List.getElem?_eq_getElem (by omega)]
  exact h.s _ (List.getElem_mem _)
theorem Cho.idle (h:Cho n ws o) {i:Nat} (hi:i<ws.length):o.getD i 0=-1↔outF o i=none:=by
  have hl:=h.len
  have hg:o[i]?=some (o.getD i 0):=by rw [List.getD_eq_getElem?_getD,List.getElem?_eq_getElem (by omega)]; rfl
  have hlo:=h.lo (o.getD i 0) (List.mem_of_getElem? hg)
  unfold outF
  rw [hg]
  dsimp only
  split
  · simp only [reduceCtorEq,iff_false]; omega
  simp only [iff_true]; omega
theorem Cho.turn (hS:StOk ws ss) (h:Cho n ws o) {i:Nat} (hi:i<ws.length):Cho n ws (turn1 n ws ss o i)∧((turn1 n ws ss o i=o∧(outF o i=none→wk ws ss o i []=none))∨wgO ws ss (turn1 n ws ss o i)<wgO ws ss o):=by
  unfold turn1
  by_cases h1:o.getD i 0=-1
  · rw [if_pos h1]
    have hno:=(h.idle hi).1 h1;have hE:=enf_spec (ss:=ss) h hi hno
    refine ⟨hE.1,?_⟩
    rcases hE.lighter hS.s hS.l hS.m hi hno with h2 | h2
    · exact .inl ⟨h2.1,fun _=>h2.2⟩
    exact .inr h2
  rw [if_neg h1]
  exact ⟨h,.inl ⟨rfl,fun h2=>absurd ((h.idle hi).2 h2) h1⟩⟩
theorem Cho.turns (hS:StOk ws ss):∀ (L:List Nat),(∀ i∈L,i<ws.length)→∀ {o:List Int},Cho n ws o→Cho n ws (turnL n ws ss L o)∧((turnL n ws ss L o=o∧∀ i∈L,outF o i=none→wk ws ss o i []=none)∨wgO ws ss (turnL n ws ss L o)<wgO ws ss o)
  | [],_,o,h=>⟨h,.inl ⟨rfl,fun i hi=>by cases hi⟩⟩
  | i :: L,hL,o,h=>by
    obtain ⟨h1,h2⟩:=h.turn hS (hL i (by simp));obtain ⟨h3,h4⟩:=Cho.turns hS L (fun j hj=>hL j (by simp [hj])) h1
    show Cho n ws (turnL n ws ss L (turn1 n ws ss o i))∧((turnL n ws ss L (turn1 n ws ss o i)=o∧_)∨wgO ws ss (turnL n ws ss L (turn1 n ws ss o i))<_)
    refine ⟨h3,?_⟩
    rcases h2 with ⟨h2,h5⟩ | h2
    · rw [h2] at h4 ⊢
      rcases h4 with ⟨h4,h6⟩ | h4
      · refine .inl ⟨h4,fun j hj=>?_⟩
        rcases List.mem_cons.1 hj with rfl | hj
        · exact h5
        exact h6 j hj
      exact .inr h4
    rcases h4 with ⟨h4,_⟩ | h4
    · rw [h4]; exact .inr h2
    exact .inr (by omega)
theorem Cho.pass (hS:StOk ws ss) (h:Cho n ws o):Cho n ws (passF n ws ss o)∧((passF n ws ss o=o∧∀ i,i<ws.length→outF o i=none→wk ws ss o i []=none)∨wgO ws ss (passF n ws ss o)<wgO ws ss o):=by
  obtain ⟨h1,h2⟩:=h.turns (n:=n) hS (ordS ws.length ss) (fun i hi=>(mem_ordS.1 hi).1)
  refine ⟨h1,?_⟩
  rcases h2 with ⟨h2,h3⟩ | h2
  · exact .inl ⟨h2,fun i hi=>h3 i (mem_ordS.2 ⟨hi,hS.at_ hi⟩)⟩
  exact .inr h2
theorem setF_same (h:passF n ws ss o=o) (f:Nat):setF n ws ss f o=o:=by
  cases f with
  | zero=>rfl
  | succ f=>rw [setF,if_pos h]
theorem setl_same (h:passF n ws ss o=o):setl n ws ss o=o:=setF_same h _
theorem setF_any (hS:StOk ws ss) (f:Nat):∀ (g:Nat) {o:List Int},Cho n ws o→wgO ws ss o<f→wgO ws ss o<g→setF n ws ss f o=setF n ws ss g o:=by
  induction f with
  | zero=>intro g o _ h _; exact absurd h (Nat.not_lt_zero _)
  | succ f ih =>
    intro g o hc h1 h2
    cases g with
    | zero=>exact absurd h2 (Nat.not_lt_zero _)
    | succ g =>
      rw [setF,setF]
      split
      · rfl
      rename_i hne
      obtain ⟨h3,h4 | h4⟩:=hc.pass hS
      · exact absurd h4.1 hne
      exact ih g h3 (by omega) (by omega)
theorem setl_step (hS:StOk ws ss) (h:Cho n ws o):setl n ws ss (passF n ws ss o)=setl n ws ss o:=by
  by_cases h1:passF n ws ss o=o
  · rw [h1]
  obtain ⟨h3,h4 | h4⟩:=h.pass hS
  · exact absurd h4.1 h1
  have e:setl n ws ss o=setF n ws ss (wgO ws ss o) (passF n ws ss o):=by
    unfold setl; rw [setF,if_neg h1]
  rw [e]
  exact setF_any hS _ _ h3 (by omega) (by omega)
theorem setF_spec (hS:StOk ws ss) (f:Nat):∀ {o:List Int},Cho n ws o→wgO ws ss o<f→Cho n ws (setF n ws ss f o)∧passF n ws ss (setF n ws ss f o)=setF n ws ss f o∧(setF n ws ss f o=o∨wgO ws ss (setF n ws ss f o)<wgO ws ss o):=by
  induction f with
  | zero=>intro o _ h; exact absurd h (Nat.not_lt_zero _)
  | succ f ih =>
    intro o hc h1
    rw [setF]
    split
    · rename_i h; exact ⟨hc,h,.inl rfl⟩
    rename_i hne
    obtain ⟨h3,h4 | h4⟩:=hc.pass hS
    · exact absurd h4.1 hne
    obtain ⟨h5,h6,h7⟩:=ih h3 (by omega)
    refine ⟨h5,h6,.inr ?_⟩
    rcases h7 with h7 | h7
    · rw [h7]; exact h4
    omega
theorem setl_spec (hS:StOk ws ss) (h:Cho n ws o):Cho n ws (setl n ws ss o)∧passF n ws ss (setl n ws ss o)=setl n ws ss o∧(setl n ws ss o=o∨wgO ws ss (setl n ws ss o)<wgO ws ss o):=setF_spec hS _ h (Nat.lt_succ_self _)
theorem setl_idle (hS:StOk ws ss) (h:Cho n ws o) {i:Nat} (hi:i<ws.length) (hno:outF (setl n ws ss o) i=none):wk ws ss (setl n ws ss o) i []=none:=by
  obtain ⟨h1,h2,_⟩:=setl_spec hS h;obtain ⟨_,h3 | h3⟩:=h1.pass hS
  · exact h3.2 i hi hno
  rw [h2] at h3; omega
end
def Ah (ss:List Int) (a b:Nat):Prop:=ss.getD a 0<ss.getD b 0∨(ss.getD a 0=ss.getD b 0∧a<b)
theorem Ah.trans {ss:List Int} {a b c:Nat} (h:Ah ss a b) (h2:Ah ss b c):Ah ss a c:=by unfold Ah at *; omega
theorem Ah.irr {ss:List Int} {a:Nat} (h:Ah ss a a):False:=by unfold Ah at h; omega
theorem Ah.asymm {ss:List Int} {a b:Nat} (h:Ah ss a b) (h2:Ah ss b a):False:=(h.trans h2).irr
theorem sorted_eq {ss:List Int}:∀ {L K:List Nat},L.Pairwise (Ah ss)→K.Pairwise (Ah ss)→(∀ x,x∈L↔x∈K)→L=K
  | [],[],_,_,_=>rfl
  | [],b :: K,_,_,h=>by have:=(h b).2 (by simp); cases this
  | a :: L,[],_,_,h=>by have:=(h a).1 (by simp); cases this
  | a :: L,b :: K,h1,h2,h=>by
    rw [List.pairwise_cons] at h1 h2
    have e:a=b:=by
      have ha:=(h a).1 (by simp);have hb:=(h b).2 (by simp)
      rcases List.mem_cons.1 ha with ha | ha
      · exact ha
      rcases List.mem_cons.1 hb with hb | hb
      · exact hb.symm
      exact ((h1.1 b hb).asymm (h2.1 a ha)).elim
    subst e
    congr 1
    refine sorted_eq h1.2 h2.2 (fun x=>?_)
    have hx:=h x
    constructor
    · intro hL
      rcases List.mem_cons.1 (hx.1 (by simp [hL])) with e | e
      · subst e; exact ((h1.1 x hL).irr).elim
      exact e
    intro hK
    rcases List.mem_cons.1 (hx.2 (by simp [hK])) with e | e
    · subst e; exact ((h2.1 x hK).irr).elim
    exact e
theorem ordS_sorted (m:Nat) (ss:List Int):(ordS m ss).Pairwise (Ah ss):=by
  unfold ordS
  rw [List.pairwise_flatMap]
  refine ⟨fun s _=>?_,?_⟩
  · rw [List.pairwise_filter]
    refine List.Pairwise.imp ?_ (List.pairwise_lt_range)
    intro a b h h1 h2
    simp only [decide_eq_true_eq] at h1 h2
    exact .inr ⟨by omega,h⟩
  refine List.Pairwise.imp ?_ (List.pairwise_lt_range)
  intro a b h x hx y hy
  simp only [List.mem_filter,decide_eq_true_eq] at hx hy
  exact .inl (by omega)
structure Ins (m:Nat) (ss:List Int) (i:Nat) (A B:List Nat):Prop where
  srt:(A ++ B).Pairwise (Ah ss)
  mem:∀ x,x∈A ++ B↔x<i
  far:∀ x∈B,Ah ss i x
theorem Ins.len {m:Nat} {ss:List Int} {i:Nat} {A B:List Nat} (h:Ins m ss i A B):A.length + B.length=i:=by
  have h1:(A ++ B).Nodup:=h.srt.imp (fun h e=>by subst e; exact h.irr)
  have h2:(A ++ B).Perm (List.range i):=(List.perm_ext_iff_of_nodup h1 List.nodup_range).2 (fun x=>by rw [h.mem x,List.mem_range])
  have:=h2.length_eq
  simpa using this
structure Srt (ss:List Int) (i:Nat) (A:List Nat):Prop where
  srt:A.Pairwise (Ah ss)
  mem:∀ x,x∈A↔x<i
theorem Srt.ins {m:Nat} {ss:List Int} {i:Nat} {A:List Nat} (h:Srt ss i A):Ins m ss i A []:=⟨by simpa using h.srt,by simpa using h.mem,fun x hx=>by cases hx⟩
theorem Ins.step {m:Nat} {ss:List Int} {i y:Nat} {A B:List Nat} (h:Ins m ss i (A ++ [y]) B) (hy:ss.getD i 0<ss.getD y 0):Ins m ss i A (y :: B) :=
  ⟨by simpa using h.srt,by simpa using h.mem,fun x hx=>by
    rcases List.mem_cons.1 hx with rfl | hx
    · exact .inl hy
    exact h.far x hx⟩
theorem Ins.done {m:Nat} {ss:List Int} {i:Nat} {A B:List Nat} (h:Ins m ss i A B) (hA:∀ (A0:List Nat) (y:Nat),A=A0 ++ [y]→ss.getD y 0≤ss.getD i 0):Srt ss (i + 1) (A ++ i :: B):=by
  have hs:=h.srt
  rw [List.pairwise_append] at hs
  have hA2:∀ x∈A,Ah ss x i:=fun x hx=>by
    rcases List.eq_nil_or_concat A with e | ⟨A0,y,e⟩
    · subst e; cases hx
    rw [List.concat_eq_append] at e
    have h1:=hA A0 y e
    have hyi:y<i:=(h.mem y).1 (by rw [e]; simp)
    have hyI:Ah ss y i:=by unfold Ah; omega
    subst e
    rcases List.mem_append.1 hx with hx | hx
    · have h3:=hs.1
      rw [List.pairwise_append] at h3
      exact (h3.2.2 x hx y (by simp)).trans hyI
    rw [List.mem_singleton.1 hx]; exact hyI
  refine ⟨?_,fun x=>?_⟩
  · rw [List.pairwise_append,List.pairwise_cons]
    refine ⟨hs.1,⟨h.far,hs.2.1⟩,fun a ha b hb=>?_⟩
    rcases List.mem_cons.1 hb with rfl | hb
    · exact hA2 a ha
    exact hs.2.2 a ha b hb
  have:=h.mem x
  simp only [List.mem_append,List.mem_cons] at this ⊢
  constructor
  · rintro (h1 | h1 | h1)
    · have:=this.1 (.inl h1); omega
    · omega
    have:=this.1 (.inr h1); omega
  intro h1
  by_cases e:x=i
  · exact .inr (.inl e)
  rcases this.2 (by omega) with h2 | h2
  · exact .inl h2
  exact .inr (.inr h2)
theorem Srt.eq {ss:List Int} {m:Nat} {A:List Nat} (h:Srt ss m A) (hs:∀ i,i<m→0≤ss.getD i 0∧ss.getD i 0≤4):A=ordS m ss :=
  sorted_eq h.srt (ordS_sorted m ss) (fun x=>by
    rw [h.mem,mem_ordS]
    exact ⟨fun h1=>⟨h1,hs x h1⟩,fun h1=>h1.1⟩)
end Go.Proofs.YthoooolflmbmbaaGreat
end
