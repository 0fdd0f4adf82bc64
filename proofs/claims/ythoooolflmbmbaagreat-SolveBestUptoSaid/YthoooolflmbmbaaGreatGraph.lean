/- Labels of joined variables: a row of labels, how two are joined, counts, and that the order does not matter. Nothing of a program in sight. -/
import Derived.Test.YthoooolflmbmbaaGreatProg
namespace Go.Proofs.YthoooolflmbmbaaGreat
set_option linter.unusedVariables false
set_option linter.unusedSimpArgs false
def lab (l:List Nat) (v:Nat):Nat:=l.getD v 0
theorem lab_eq {l:List Nat} {v:Nat} (h:v<l.length):lab l v=l[v]:=by simp [lab,List.getD,h]
theorem lab_set {l:List Nat} {i v x:Nat} (h:v<l.length):lab (l.set i x) v=if i=v then x else lab l v:=by
  rw [lab_eq (by simpa using h),lab_eq h,List.getElem_set]
def jn (l:List Nat) (a b:Nat):List Nat:=l.map fun z=>if z=max (lab l a) (lab l b) then min (lab l a) (lab l b) else z
theorem jn_length (l:List Nat) (a b:Nat):(jn l a b).length=l.length:=by simp [jn]
theorem jn_lab {l:List Nat} {a b v:Nat} (h:v<l.length):lab (jn l a b) v=if lab l v=max (lab l a) (lab l b) then min (lab l a) (lab l b) else lab l v:=by
  rw [lab_eq (by rw [jn_length]; exact h),lab_eq h]
  simp [jn]
structure Lab (n:Nat) (l:List Nat):Prop where
  len:l.length=n
  le:∀ v,v<n→lab l v≤v
  idem:∀ v,v<n→lab l (lab l v)=lab l v
theorem Lab.lt {n:Nat} {l:List Nat} (h:Lab n l) {v:Nat} (hv:v<n):lab l v<n:=Nat.lt_of_le_of_lt (h.le v hv) hv
theorem minmax_cases (x y:Nat):(min x y=x∧max x y=y)∨(min x y=y∧max x y=x):=by omega
theorem Lab.jn {n:Nat} {l:List Nat} (h:Lab n l) {a b:Nat} (ha:a<n) (hb:b<n):Lab n (jn l a b):=by
  have hl:=h.len;have xa:=h.lt ha;have xb:=h.lt hb;have ia:=h.idem a ha;have ib:=h.idem b hb
  refine ⟨by rw [jn_length]; exact h.len,fun v hv=>?_,fun v hv=>?_⟩
  · rw [jn_lab (by omega)]
    have:=h.le v hv
    split <;> omega
  have e1:=jn_lab (l:=l) (a:=a) (b:=b) (v:=v) (by omega);have hv2:=h.lt hv;have iv:=h.idem v hv
  rw [e1]
  split
  · have hm:min (lab l a) (lab l b)<l.length:=by omega
    have im:lab l (min (lab l a) (lab l b))=min (lab l a) (lab l b):=by
      rcases minmax_cases (lab l a) (lab l b) with ⟨h1,_⟩ | ⟨h1,_⟩ <;> rw [h1] <;> assumption
    rw [jn_lab hm,im]
    split <;> rfl
  rw [jn_lab (by omega),iv]
  rw [if_neg (by assumption)]
theorem Lab.start (n:Nat):Lab n (List.range n):=by
  have h:∀ v,v<n→lab (List.range n) v=v:=fun v hv=>by rw [lab_eq (by simpa using hv)]; simp
  exact ⟨by simp,fun v hv=>by rw [h v hv]; exact Nat.le_refl _,fun v hv=>by rw [h v hv,h v hv]⟩
structure UF (n:Nat) (r l:List Nat):Prop where
  ok:Lab n l
  len:r.length=n
  le:∀ v,v<n→lab r v≤v
  same:∀ v,v<n→lab l (lab r v)=lab l v
  root:∀ v,v<n→lab r v=v→lab l v=v
theorem UF.start (n:Nat):UF n (List.range n) (List.range n):=by
  have h:∀ v,v<n→lab (List.range n) v=v:=fun v hv=>by rw [lab_eq (by simpa using hv)]; simp
  exact ⟨Lab.start n,by simp,fun v hv=>by rw [h v hv]; exact Nat.le_refl _,fun v hv=>by rw [h v hv,h v hv],fun v hv e=>e⟩
theorem UF.half {n:Nat} {r l:List Nat} (h:UF n r l) {v:Nat} (hv:v<n) (hne:lab r v≠v):UF n (r.set v (lab r (lab r v))) l:=by
  have h1:=h.le v hv
  have h2:lab r v<n:=by omega
  have h3:=h.le _ h2;have hl:=h.len
  refine ⟨h.ok,by simpa using h.len,fun u hu=>?_,fun u hu=>?_,fun u hu=>?_⟩
  · rw [lab_set (by omega)]; split
    · omega
    exact h.le u hu
  · rw [lab_set (by omega)]; split
    · rename_i e; subst e; rw [h.same _ h2,h.same _ hv]
    exact h.same u hu
  rw [lab_set (by omega)]; split
  · intro e; omega
  exact h.root u hu
theorem UF.join {n : Nat} {r l : List Nat} (h : UF n r l) {a b : Nat} (ha : a < n) (hb : b < n) :
    UF n (r.set (max (lab l a) (lab l b)) (min (lab l a) (lab l b))) (jn l a b):=by
  have hl:=h.len;have hll:=h.ok.len;have xa:=h.ok.lt ha;have xb:=h.ok.lt hb;have ia:=h.ok.idem a ha;have ib:=h.ok.idem b hb
  have im:lab l (min (lab l a) (lab l b))=min (lab l a) (lab l b):=by
    rcases minmax_cases (lab l a) (lab l b) with ⟨h1,_⟩ | ⟨h1,_⟩ <;> rw [h1] <;> assumption
  have iM:lab l (max (lab l a) (lab l b))=max (lab l a) (lab l b):=by
    rcases minmax_cases (lab l a) (lab l b) with ⟨_,h1⟩ | ⟨_,h1⟩ <;> rw [h1] <;> assumption
  generalize hx:lab l a=x at *
  generalize hy:lab l b=y at *
  have J:∀ v,v<n→lab (jn l a b) v=if lab l v=max x y then min x y else lab l v:=fun v hv=>by rw [jn_lab (by omega),hx,hy]
  refine ⟨h.ok.jn ha hb,by simpa using h.len,fun u hu=>?_,fun u hu=>?_,fun u hu=>?_⟩
  · rw [lab_set (by omega)]; split
    · omega
    exact h.le u hu
  · rw [lab_set (by omega)]; split
    · rename_i e; subst e
      rw [J _ (by omega),J _ (by omega),im,iM,if_pos rfl]; split <;> rfl
    have:=h.le u hu
    rw [J _ (by omega),J _ hu,h.same u hu]
  rw [lab_set (by omega)]; split
  · rename_i e; subst e; intro e2
    rw [J _ (by omega),iM,if_pos rfl]; exact e2
  rename_i hne
  intro e
  have e2:=h.root u hu e
  rw [J _ hu,e2,if_neg (fun h9=>hne h9.symm)]
def okS (l:List Nat) (a:Nat):List Nat→Bool
  | []=>true
  | b :: r=>decide (lab l a≠lab l b) && okS (jn l a b) a r
def apS (l:List Nat) (a:Nat):List Nat→List Nat
  | []=>l
  | b :: r=>apS (jn l a b) a r
def okW (l:List Nat):List Nat→Bool
  | []=>true
  | a :: r=>okS l a r
def apW (l:List Nat):List Nat→List Nat
  | []=>l
  | a :: r=>apS l a r
def apAll (l:List Nat):List (List Nat)→List Nat
  | []=>l
  | w :: ws=>apAll (apW l w) ws
def firstW (l:List Nat):List (List Nat)→Nat→Option Nat
  | [],_=>none
  | w :: ws,i=>if okW l w=true then firstW (apW l w) ws (i + 1) else some i
theorem okS_snoc (l:List Nat) (a:Nat) (r:List Nat) (b:Nat):okS l a (r ++ [b])=(okS l a r && decide (lab (apS l a r) a≠lab (apS l a r) b)):=by
  induction r generalizing l with
  | nil=>show (decide (lab l a≠lab l b) && true)=(true && decide (lab l a≠lab l b)); rw [Bool.and_true,Bool.true_and]
  | cons c r ih =>
    show (decide (lab l a≠lab l c) && okS (jn l a c) a (r ++ [b]))=((decide (lab l a≠lab l c) && okS (jn l a c) a r) && _)
    rw [ih,Bool.and_assoc]; rfl
theorem apS_snoc (l:List Nat) (a:Nat) (r:List Nat) (b:Nat):apS l a (r ++ [b])=jn (apS l a r) a b:=by
  induction r generalizing l with
  | nil=>rfl
  | cons c r ih=>simp only [List.cons_append,apS,ih]
theorem apAll_snoc (l:List Nat) (ws:List (List Nat)) (w:List Nat):apAll l (ws ++ [w])=apW (apAll l ws) w:=by
  induction ws generalizing l with
  | nil=>rfl
  | cons c r ih=>simp only [List.cons_append,apAll,ih]
theorem firstW_append (l:List Nat) (ws us:List (List Nat)) (i:Nat):firstW l (ws ++ us) i=match firstW l ws i with | some k=>some k | none=>firstW (apAll l ws) us (i + ws.length):=by
  induction ws generalizing l i with
  | nil=>rfl
  | cons c r ih =>
    simp only [List.cons_append,firstW]
    split
    · rw [ih]
      have:i + 1 + r.length=i + (c :: r).length:=by simp; omega
      rw [this]; rfl
    rfl
def InW (n:Nat) (ws:List (List Nat)):Prop:=∀ w∈ws,∀ v∈w,v<n
theorem Lab.apS {n:Nat} {l:List Nat} (h:Lab n l) {a:Nat} (ha:a<n) {r:List Nat} (hr:∀ v∈r,v<n):Lab n (apS l a r):=by
  induction r generalizing l with
  | nil=>exact h
  | cons b r ih=>exact ih (h.jn ha (hr b (by simp))) (fun v hv=>hr v (by simp [hv]))
theorem Lab.apW {n:Nat} {l:List Nat} (h:Lab n l) {w:List Nat} (hw:∀ v∈w,v<n):Lab n (apW l w):=by
  cases w with
  | nil=>exact h
  | cons a r=>exact h.apS (hw a (by simp)) (fun v hv=>hw v (by simp [hv]))
theorem Lab.apAll {n:Nat} {l:List Nat} (h:Lab n l) {ws:List (List Nat)} (hw:InW n ws):Lab n (apAll l ws):=by
  induction ws generalizing l with
  | nil=>exact h
  | cons w r ih=>exact ih (h.apW (hw w (by simp))) (fun x hx=>hw x (by simp [hx]))
def lessP (l:List Nat) (v:Nat):Bool:=decide (lab l v≠v)
def lessN (n:Nat) (l:List Nat):Nat:=(List.range n).countP (lessP l)
theorem countP_one {p q:Nat→Bool} {L:List Nat} (hn:L.Nodup) {m:Nat} (hm:m∈L) (h:∀ v∈L,v≠m→q v=p v) (hp:p m=false) (hq:q m=true):L.countP q=L.countP p + 1:=by
  induction L with
  | nil=>cases hm
  | cons x L ih =>
    rw [List.nodup_cons] at hn
    rw [List.countP_cons,List.countP_cons]
    by_cases hx:x=m
    · subst hx
      have:L.countP q=L.countP p:=by
        apply List.countP_congr
        intro v hv
        rw [h v (by simp [hv]) (fun e=>hn.1 (e ▸ hv))]
      simp [hp,hq,this]
    have hm':m∈L:=by simpa [Ne.symm hx] using hm
    rw [ih hn.2 hm' (fun v hv=>h v (by simp [hv])),h x (by simp) hx]
    omega
def joins (ws:List (List Nat)):Nat:=(ws.map fun w=>w.length - 1).sum
def Resp (f:Nat→Nat) (ws:List (List Nat)):Prop:=∀ w∈ws,∀ x∈w,∀ y∈w,f x=f y
theorem jn_keep {n:Nat} {l:List Nat} (h:Lab n l) {a b u v:Nat} (hu:u<n) (hv:v<n) (e:lab l u=lab l v):lab (jn l a b) u=lab (jn l a b) v:=by
  have:=h.len
  rw [jn_lab (by omega),jn_lab (by omega),e]
theorem jn_joins {n:Nat} {l:List Nat} (h:Lab n l) {a b:Nat} (ha:a<n) (hb:b<n):lab (jn l a b) a=lab (jn l a b) b:=by
  have:=h.len
  rw [jn_lab (by omega),jn_lab (by omega)]
  split <;> split <;> omega
theorem jn_only {n:Nat} {l:List Nat} (h:Lab n l) {a b:Nat} (ha:a<n) (hb:b<n) {f:Nat→Nat} (hf:∀ v,v<n→f (lab l v)=f v) (he:f a=f b):∀ v,v<n→f (lab (jn l a b) v)=f v:=fun v hv=>by
  have:=h.len
  rw [jn_lab (by omega)]
  have h1:=hf a ha;have h2:=hf b hb;have h3:=hf v hv
  split
  · rename_i e
    rcases minmax_cases (lab l a) (lab l b) with ⟨e1,e2⟩ | ⟨e1,e2⟩
    · rw [e1,h1,he,← h2,← e2,← e,h3]
    rw [e1,h2,← he,← h1,← e2,← e,h3]
  exact h3
theorem apS_facts {n : Nat} {l : List Nat} (h : Lab n l) {a : Nat} (ha : a < n) {r : List Nat} (hr : ∀ v ∈ r, v < n) :
    (∀ u v,u<n→v<n→lab l u=lab l v→lab (apS l a r) u=lab (apS l a r) v)∧(∀ b∈r,lab (apS l a r) a=lab (apS l a r) b) ∧
    (∀ f:Nat→Nat,(∀ v,v<n→f (lab l v)=f v)→(∀ b∈r,f a=f b)→∀ v,v<n→f (lab (apS l a r) v)=f v):=by
  induction r generalizing l with
  | nil=>exact ⟨fun u v _ _ e=>e,by simp,fun f hf _=>hf⟩
  | cons b r ih =>
    have hb:=hr b (by simp);obtain ⟨i1,i2,i3⟩:=ih (h.jn ha hb) (fun v hv=>hr v (by simp [hv]))
    refine ⟨fun u v hu hv e=>i1 u v hu hv (jn_keep h hu hv e),fun c hc=>?_,fun f hf he=>?_⟩
    · rcases List.mem_cons.1 hc with rfl | hc
      · exact i1 _ _ ha hb (jn_joins h ha hb)
      exact i2 c hc
    exact i3 f (jn_only h ha hb hf (he b (by simp))) (fun c hc=>he c (by simp [hc]))
theorem apW_facts {n : Nat} {l : List Nat} (h : Lab n l) {w : List Nat} (hw : ∀ v ∈ w, v < n) :
    (∀ u v,u<n→v<n→lab l u=lab l v→lab (apW l w) u=lab (apW l w) v)∧(∀ x∈w,∀ y∈w,lab (apW l w) x=lab (apW l w) y) ∧
    (∀ f:Nat→Nat,(∀ v,v<n→f (lab l v)=f v)→(∀ x∈w,∀ y∈w,f x=f y)→∀ v,v<n→f (lab (apW l w) v)=f v):=by
  cases w with
  | nil=>exact ⟨fun u v _ _ e=>e,by simp,fun f hf _=>hf⟩
  | cons a r =>
    obtain ⟨i1,i2,i3⟩:=apS_facts h (hw a (by simp)) (r:=r) (fun v hv=>hw v (by simp [hv]))
    have i4:∀ x∈a :: r,lab (apS l a r) a=lab (apS l a r) x:=fun x hx=>by
      rcases List.mem_cons.1 hx with rfl | hx
      · rfl
      exact i2 x hx
    exact ⟨i1,fun x hx y hy=>(i4 x hx).symm.trans (i4 y hy),fun f hf he=>i3 f hf (fun b hb=>he a (by simp) b (by simp [hb]))⟩
theorem apAll_facts {n : Nat} {l : List Nat} (h : Lab n l) {ws : List (List Nat)} (hw : InW n ws) :
    (∀ u v,u<n→v<n→lab l u=lab l v→lab (apAll l ws) u=lab (apAll l ws) v)∧Resp (lab (apAll l ws)) ws ∧
    (∀ f:Nat→Nat,(∀ v,v<n→f (lab l v)=f v)→Resp f ws→∀ v,v<n→f (lab (apAll l ws) v)=f v):=by
  induction ws generalizing l with
  | nil=>exact ⟨fun u v _ _ e=>e,(fun w hw=>by cases hw),fun f hf _=>hf⟩
  | cons w r ih =>
    have hw1:=hw w (by simp);obtain ⟨j1,j2,j3⟩:=apW_facts h hw1;obtain ⟨i1,i2,i3⟩:=ih (h.apW hw1) (fun x hx=>hw x (by simp [hx]))
    refine ⟨fun u v hu hv e=>i1 u v hu hv (j1 u v hu hv e),fun x hx=>?_,fun f hf he=>?_⟩
    · rcases List.mem_cons.1 hx with rfl | hx
      · exact fun p hp q hq=>i1 p q (hw1 p hp) (hw1 q hq) (j2 p hp q hq)
      exact i2 x hx
    exact i3 f (j3 f hf (he w (by simp))) (fun x hx=>he x (by simp [hx]))
def apart (l:List Nat) (w:List Nat):Prop:=(w.map (lab l)).Nodup
theorem okS_apart {n:Nat} {l:List Nat} (h:Lab n l) {a:Nat} (ha:a<n) {r:List Nat} (hr:∀ v∈r,v<n):okS l a r=true↔apart l (a :: r):=by
  induction r generalizing l with
  | nil=>simp [okS,apart]
  | cons b r ih =>
    have hl:=h.len;have hb:=hr b (by simp)
    have hr':∀ v∈r,v<n:=fun v hv=>hr v (by simp [hv])
    have i1:=ih (h.jn ha hb) hr'
    simp only [okS,Bool.and_eq_true,decide_eq_true_eq,i1]
    simp only [apart,List.map_cons,List.nodup_cons,List.mem_cons,List.mem_map,not_or,not_exists,not_and]
    have J:∀ v,v<n→lab (jn l a b) v=if lab l v=max (lab l a) (lab l b) then min (lab l a) (lab l b) else lab l v:=fun v hv=>jn_lab (by omega)
    constructor
    · rintro ⟨hne,h1,h2⟩
      have h3:∀ v∈r,lab l v≠lab l a∧lab l v≠lab l b:=fun v hv=>by
        have h4:=h1 v hv
        rw [J v (hr' v hv),J a ha] at h4
        split at h4 <;> split at h4 <;> omega
      refine ⟨⟨hne,fun v hv=>(h3 v hv).1⟩,fun v hv=>(h3 v hv).2,?_⟩
      have e:r.map (lab (jn l a b))=r.map (lab l):=List.map_congr_left fun v hv=>by
        have:=h3 v hv
        rw [J v (hr' v hv),if_neg (by omega)]
      rw [← e]; exact h2
    rintro ⟨⟨hne,h1⟩,h2,h3⟩
    refine ⟨hne,fun v hv=>?_,?_⟩
    · have:=h1 v hv; have:=h2 v hv
      rw [J v (hr' v hv),J a ha]
      split <;> split <;> omega
    have e:r.map (lab (jn l a b))=r.map (lab l):=List.map_congr_left fun v hv=>by
      have:=h1 v hv; have:=h2 v hv
      rw [J v (hr' v hv),if_neg (by omega)]
    rw [e]; exact h3
theorem okW_apart {n:Nat} {l:List Nat} (h:Lab n l) {w:List Nat} (hw:∀ v∈w,v<n):okW l w=true↔apart l w:=by
  cases w with
  | nil=>simp [okW,apart]
  | cons a r=>exact okS_apart h (hw a (by simp)) (fun v hv=>hw v (by simp [hv]))
def ringLab (n k:Nat):List Nat:=(List.range n).map fun v=>if v≤k then 0 else v
def chain (k:Nat):List (List Nat):=(List.range k).map fun i=>[i,i + 1]
end Go.Proofs.YthoooolflmbmbaaGreat
