/- Several texts in one. -/
import Derived.Test.YtombbkdnehhonaaGreatRatb
import Derived.Test.YtombbkdnehhonaaGreatGen
section
namespace Go.Proofs.YtombbkdnehhonaaGreat
set_option linter.unusedVariables false
set_option linter.unusedSimpArgs false
abbrev Vec:=Nat→Rat
def vsub (a b:Vec) (x:Rat):Vec:=fun i=>a i - x * b i
structure Row where
  p:Nat
  v:Vec
def red:List Row→Vec→Vec
  | [],a=>a
  | r :: l,a=>red l (vsub a r.v (a r.p))
def rcomb:List Row→Vec→Vec
  | [],_=>fun _=>0
  | r :: l,a=>fun i=>a r.p * r.v i + rcomb l a i
structure Lead (n:Nat) (r:Row):Prop where
  lt:r.p<n
  one:r.v r.p=1
  low:∀ j,j<r.p→r.v j=0
structure Good (n:Nat) (rows:List Row):Prop where
  lead:∀ r∈rows,Lead n r
  apart:rows.Pairwise fun r s=>r.v s.p=0∧s.v r.p=0
theorem Good.tail {n:Nat} {r:Row} {l:List Row} (h:Good n (r :: l)):Good n l:=⟨fun s hs=>h.lead s (by simp [hs]),(List.pairwise_cons.1 h.apart).2⟩
theorem Good.nil (n:Nat):Good n []:=⟨fun r h=>(by cases h),List.Pairwise.nil⟩
theorem comb_congr:∀ {l:List Row} {a b:Vec},(∀ r∈l,a r.p=b r.p)→rcomb l a=rcomb l b
  | [],_,_,_=>rfl
  | r :: l,a,b,h=>by
    funext i
    simp only [rcomb]
    rw [h r (by simp),comb_congr (fun s hs=>h s (by simp [hs]))]
theorem red_eq {n:Nat}:∀ {l:List Row} (h:Good n l) (a:Vec),red l a=fun i=>a i - rcomb l a i
  | [],_,a=>by funext i; simp [red,rcomb]; grind
  | r :: l,h,a=>by
    funext i
    have hp:=(List.pairwise_cons.1 h.apart).1
    have hc:rcomb l (vsub a r.v (a r.p))=rcomb l a:=comb_congr (fun s hs=>by simp only [vsub]; rw [(hp s hs).1]; grind)
    simp only [red,rcomb]
    rw [red_eq h.tail,hc]
    simp only [vsub]
    grind
theorem comb_lead {n:Nat}:∀ {l:List Row} (h:Good n l) (a:Vec) {s:Row},s∈l→rcomb l a s.p=a s.p
  | r :: l,h,a,s,hs=>by
    have hp:=(List.pairwise_cons.1 h.apart).1
    simp only [rcomb]
    rcases List.mem_cons.1 hs with rfl | h1
    · have:rcomb l a s.p=0:=by
        clear hs
        induction l with
        | nil=>rfl
        | cons t l ih =>
          simp only [rcomb]
          have hg:Good n (s :: l):=⟨fun x hx=>h.lead x (by rcases List.mem_cons.1 hx with rfl | h2 <;> simp [*]),by
            have:=h.apart
            simp only [List.pairwise_cons,List.mem_cons] at this ⊢
            exact ⟨fun x hx=>this.1 x (.inr hx),this.2.2⟩⟩
          rw [(hp t (by simp)).2,ih hg (fun x hx=>hp x (by simp [hx]))]
          grind
      rw [this,(h.lead s (by simp)).one]; grind
    rw [comb_lead h.tail a h1,(hp s h1).1]; grind
theorem red_lead {n:Nat} {l:List Row} (h:Good n l) (a:Vec) {s:Row} (hs:s∈l):red l a s.p=0:=by
  rw [red_eq h]; simp only; rw [comb_lead h a hs]; grind
def put (l:List Row) (k:Nat) (a:Vec):List Row:=l.map (fun r=>⟨r.p,vsub r.v a (r.v k)⟩) ++ [⟨k,a⟩]
theorem Good.put {n:Nat} {l:List Row} (h:Good n l) {k:Nat} {a:Vec} (hk:k<n) (h1:a k=1) (h2:∀ j,j<k→a j=0) (h0:∀ r∈l,a r.p=0):Good n (put l k a):=by
  have hne:∀ r∈l,r.p≠k:=fun r hr e=>by have:=h0 r hr; rw [e,h1] at this; grind
  refine ⟨fun r hr=>?_,?_⟩
  · rcases List.mem_append.1 hr with h3 | h3
    · obtain ⟨s,hs,rfl⟩:=List.mem_map.1 h3
      have hl:=h.lead s hs
      refine ⟨hl.lt,?_,fun j hj=>?_⟩
      · simp only [vsub]; rw [hl.one,h0 s hs]; grind
      simp only [vsub]
      have hj':j<s.p:=hj
      rw [hl.low j hj']
      rcases Nat.lt_or_ge j k with h4 | h4
      · rw [h2 j h4]; grind
      rw [hl.low k (Nat.lt_of_le_of_lt h4 hj')]; grind
    simp only [List.mem_singleton] at h3; subst h3
    exact ⟨hk,h1,h2⟩
  rw [Go.Proofs.YtombbkdnehhonaaGreat.put,List.pairwise_append]
  refine ⟨?_,by simp,fun r hr s hs=>?_⟩
  · rw [List.pairwise_map]
    refine h.apart.imp_of_mem (fun {r s} hr hs hrs=>?_)
    simp only [vsub]
    rw [hrs.1,hrs.2,h0 r hr,h0 s hs]; grind
  simp only [List.mem_singleton] at hs; subst hs
  obtain ⟨t,ht,rfl⟩:=List.mem_map.1 hr
  simp only [vsub]
  rw [h1,h0 t ht]; grind
inductive Sp (L:List Vec):Vec→Prop
  | zero:Sp L (fun _=>0)
  | add {u v:Vec} (x:Rat):Sp L u→v∈L→Sp L (fun i=>u i + x * v i)
theorem Sp.mem {L:List Vec} {v:Vec} (h:v∈L):Sp L v:=by
  have:=Sp.add (L:=L) 1 .zero h
  have e:(fun i=>(0:Rat) + 1 * v i)=v:=by funext i; grind
  simpa only [e] using this
theorem Sp.plus {L:List Vec} {u v:Vec} (x:Rat) (hu:Sp L u) (hv:Sp L v):Sp L (fun i=>u i + x * v i):=by
  induction hv with
  | zero => have e : (fun i => u i + x * (0 : Rat)) = u := by funext i; grind
            simpa only [e] using hu
  | add y hv hm ih =>
    rename_i v w
    have:=Sp.add (x * y) ih hm
    have e:(fun i=>u i + x * v i + x * y * w i)=(fun i=>u i + x * (v i + y * w i)):=by funext i; grind
    simpa only [e] using this
theorem Sp.scale {L:List Vec} {v:Vec} (x:Rat) (hv:Sp L v):Sp L (fun i=>x * v i):=by
  have:=Sp.plus x .zero hv
  have e:(fun i=>(0:Rat) + x * v i)=(fun i=>x * v i):=by funext i; grind
  simpa only [e] using this
theorem Sp.sub {L:List Vec} {u v:Vec} (x:Rat) (hu:Sp L u) (hv:Sp L v):Sp L (vsub u v x):=by
  have:=Sp.plus (-x) hu hv
  have e:(fun i=>u i + -x * v i)=vsub u v x:=by funext i; simp only [vsub]; grind
  simpa only [e] using this
theorem Sp.trans {L M:List Vec} {u:Vec} (h:∀ v∈L,Sp M v) (hu:Sp L u):Sp M u:=by
  induction hu with
  | zero=>exact .zero
  | add x hu hv ih=>exact ih.plus x (h _ hv)
theorem Sp.mono {L M:List Vec} {u:Vec} (h:∀ v∈L,v∈M) (hu:Sp L u):Sp M u:=hu.trans (fun v hv=>.mem (h v hv))
theorem Sp.all {L:List Vec} {φ:Vec→Rat} (h0:φ (fun _=>0)=0) (ha:∀ u v x,φ (fun i=>u i + x * v i)=φ u + x * φ v) (h:∀ v∈L,φ v=0) {u:Vec} (hu:Sp L u):φ u=0:=by
  induction hu with
  | zero=>exact h0
  | add x hu hv ih=>rw [ha,ih,h _ hv]; grind
theorem Sp.rcomb {M:List Vec} {a:Vec}:∀ {l:List Row},(∀ r∈l,Sp M r.v)→Sp M (rcomb l a)
  | [],_=>.zero
  | r :: l,h=>by
    have:=Sp.plus (a r.p) (Sp.rcomb (l:=l) (a:=a) (fun s hs=>h s (by simp [hs]))) (h r (by simp))
    have e:(fun i=>Go.Proofs.YtombbkdnehhonaaGreat.rcomb l a i + a r.p * r.v i)=Go.Proofs.YtombbkdnehhonaaGreat.rcomb (r :: l) a:=by funext i; simp only [Go.Proofs.YtombbkdnehhonaaGreat.rcomb]; grind
    simpa only [e] using this
theorem Sp.red {n:Nat} {M:List Vec} {a:Vec} {l:List Row} (hg:Good n l) (h:∀ r∈l,Sp M r.v) (ha:Sp M a):Sp M (red l a):=by
  rw [red_eq hg]
  have:=Sp.sub 1 ha (Sp.rcomb (a:=a) h)
  have e:vsub a (Go.Proofs.YtombbkdnehhonaaGreat.rcomb l a) 1=fun i=>a i - Go.Proofs.YtombbkdnehhonaaGreat.rcomb l a i:=by funext i; simp only [vsub]; grind
  simpa only [e] using this
theorem Sp.unred {n:Nat} {M:List Vec} {a:Vec} {l:List Row} (hg:Good n l) (h:∀ r∈l,Sp M r.v) (ha:Sp M (Go.Proofs.YtombbkdnehhonaaGreat.red l a)):Sp M a:=by
  have:=Sp.plus 1 ha (Sp.rcomb (a:=a) h)
  have e:(fun i=>Go.Proofs.YtombbkdnehhonaaGreat.red l a i + 1 * Go.Proofs.YtombbkdnehhonaaGreat.rcomb l a i)=a:=by funext i; rw [red_eq hg]; grind
  simpa only [e] using this
theorem red_add {n:Nat} {l:List Row} (hg:Good n l) (u v:Vec) (x:Rat):red l (fun i=>u i + x * v i)=fun i=>red l u i + x * red l v i:=by
  have hc:∀ {l:List Row},rcomb l (fun i=>u i + x * v i)=fun i=>rcomb l u i + x * rcomb l v i:=by
    intro l
    induction l with
    | nil=>funext i; simp only [rcomb]; grind
    | cons r l ih=>funext i; simp only [rcomb]; rw [ih]; grind
  rw [red_eq hg,red_eq hg,red_eq hg,hc]
  funext i; grind
theorem red_zero {n:Nat} {l:List Row} (hg:Good n l):red l (fun _=>0)=fun _=>0:=by
  have hc:∀ {l:List Row},rcomb l (fun _=>0)=fun _=>0:=by
    intro l
    induction l with
    | nil=>rfl
    | cons r l ih=>funext i; simp only [rcomb]; rw [ih]; grind
  rw [red_eq hg,hc]; funext i; grind
def kv (n:Nat) (k:Rat):Vec:=fun i=>if i=n then k else 0
structure Solved (n:Nat) (L:List Vec) (rows:List Row) (ok:Bool):Prop where
  good:Good n rows
  sub:∀ r∈rows,Sp L r.v
  left:∀ v∈L,∃ k,red rows v=kv n k∧(ok=true→k=0)
  bad:ok=false→∃ k,k≠0∧Sp L (kv n k)
theorem Solved.nil (n:Nat):Solved n [] [] true:=⟨Good.nil n,by simp,by simp,by simp⟩
theorem kv_zero (n:Nat):kv n 0=fun _=>0:=by funext i; simp [kv]
theorem kv_add (n:Nat) (k x y:Rat):(fun i=>kv n k i + x * kv n y i)=kv n (k + x * y):=by funext i; simp only [kv]; split <;> grind
section
variable {n:Nat} {L:List Vec} {rows:List Row} {ok:Bool}
theorem Solved.all (h:Solved n L rows ok) {u:Vec} (hu:Sp L u):∃ k,red rows u=kv n k∧(ok=true→k=0):=by
  induction hu with
  | zero=>exact ⟨0,by rw [red_zero h.good,kv_zero],fun _=>rfl⟩
  | add x hu hv ih =>
    obtain ⟨k,h1,h2⟩:=ih;obtain ⟨y,h3,h4⟩:=h.left _ hv
    exact ⟨k + x * y,by rw [red_add h.good,h1,h3,kv_add],fun e=>by rw [h2 e,h4 e]; grind⟩
theorem Solved.imp_iff (h:Solved n L rows true) (c:Vec):red rows c=(fun _=>0)↔Sp L c:=by
  constructor
  · intro e
    exact Sp.unred h.good h.sub (by rw [e]; exact .zero)
  intro hc
  obtain ⟨k,h1,h2⟩:=h.all hc
  rw [h1,h2 rfl,kv_zero]
theorem Solved.put (h:Solved n L rows ok) {c a:Vec} {k:Nat} {y:Rat} (hk:k<n) (hy:y≠0) (ha:∀ i,red rows c i=y * a i) (h1:a k=1) (h2:∀ j,j<k→a j=0):Solved n (L ++ [c]) (Go.Proofs.YtombbkdnehhonaaGreat.put rows k a) ok:=by
  have h0:∀ r∈rows,a r.p=0:=fun r hr=>by
    have h3:=ha r.p
    rw [red_lead h.good c hr] at h3
    rcases Rat.mul_eq_zero.1 h3.symm with h4 | h4
    · exact absurd h4 hy
    exact h4
  have hg:=h.good.put hk h1 h2 h0
  have hm:∀ r∈rows,Sp (L ++ [c]) r.v:=fun r hr=>(h.sub r hr).mono (fun v hv=>by simp [hv])
  have hra:Sp (L ++ [c]) a:=by
    have h3:Sp (L ++ [c]) (red rows c):=Sp.red h.good hm (.mem (by simp))
    have h4:=h3.scale y⁻¹
    have e:(fun i=>y⁻¹ * red rows c i)=a:=by
      funext i
      rw [ha i,← Rat.mul_assoc,Rat.inv_mul_cancel _ hy,Rat.one_mul]
    rwa [e] at h4
  have hred:∀ v,red (Go.Proofs.YtombbkdnehhonaaGreat.put rows k a) v=fun i=>red rows v i - red rows v k * a i:=by
    intro v
    rw [red_eq hg,red_eq h.good]
    have hc:∀ (l:List Row),rcomb (Go.Proofs.YtombbkdnehhonaaGreat.put l k a) v=fun i=>rcomb l v i + (v k - rcomb l v k) * a i:=by
      intro l
      induction l with
      | nil=>funext i; simp only [Go.Proofs.YtombbkdnehhonaaGreat.put,List.map_nil,List.nil_append,rcomb]; grind
      | cons r l ih =>
        have e:Go.Proofs.YtombbkdnehhonaaGreat.put (r :: l) k a=⟨r.p,vsub r.v a (r.v k)⟩ :: Go.Proofs.YtombbkdnehhonaaGreat.put l k a:=rfl
        rw [e]
        funext i
        simp only [rcomb]
        rw [ih]
        simp only [vsub]; grind
    rw [hc]; funext i; grind
  refine ⟨hg,fun r hr=>?_,fun v hv=>?_,fun e=>?_⟩
  · rcases List.mem_append.1 hr with h3 | h3
    · obtain ⟨s,hs,rfl⟩:=List.mem_map.1 h3
      exact Sp.sub _ (hm s hs) hra
    simp only [List.mem_singleton] at h3; subst h3; exact hra
  · rcases List.mem_append.1 hv with h3 | h3
    · obtain ⟨x,h4,h5⟩:=h.left v h3
      refine ⟨x,?_,h5⟩
      rw [hred,h4]
      have:kv n x k=0:=by simp only [kv]; rw [if_neg (by omega)]
      funext i; rw [this]; grind
    simp only [List.mem_singleton] at h3; subst h3
    refine ⟨0,?_,fun _=>rfl⟩
    rw [hred,kv_zero]
    funext i
    rw [ha i,ha k,h1]; grind
  obtain ⟨x,h3,h4⟩:=h.bad e
  exact ⟨x,h3,h4.mono (fun v hv=>by simp [hv])⟩
theorem Solved.same (h:Solved n L rows ok) {c:Vec} {k:Rat} (hc:red rows c=kv n k):Solved n (L ++ [c]) rows (ok && decide (k=0)):=by
  have hm:∀ r∈rows,Sp (L ++ [c]) r.v:=fun r hr=>(h.sub r hr).mono (fun v hv=>by simp [hv])
  refine ⟨h.good,hm,fun v hv=>?_,fun e=>?_⟩
  · rcases List.mem_append.1 hv with h3 | h3
    · obtain ⟨x,h4,h5⟩:=h.left v h3
      exact ⟨x,h4,fun e=>h5 (by simp only [Bool.and_eq_true] at e; exact e.1)⟩
    simp only [List.mem_singleton] at h3; subst h3
    exact ⟨k,hc,fun e=>by simp only [Bool.and_eq_true,decide_eq_true_eq] at e; exact e.2⟩
  simp only [Bool.and_eq_false_iff,decide_eq_false_iff_not] at e
  rcases e with e | e
  · obtain ⟨x,h3,h4⟩:=h.bad e
    exact ⟨x,h3,h4.mono (fun v hv=>by simp [hv])⟩
  refine ⟨k,e,?_⟩
  rw [← hc]
  exact Sp.red h.good hm (.mem (by simp))
theorem Solved.lead_iff (h:Solved n L rows ok) (p:Nat):(∃ r∈rows,r.p=p)↔p<n∧∃ u,Sp L u∧u p≠0∧∀ j,j<p→u j=0:=by
  constructor
  · rintro ⟨r,hr,rfl⟩
    have hl:=h.good.lead r hr
    exact ⟨hl.lt,r.v,h.sub r hr,by rw [hl.one]; decide,hl.low⟩
  rintro ⟨hp,u,hu,h1,h2⟩
  obtain ⟨k,h3,_⟩:=h.all hu
  rw [red_eq h.good] at h3
  have h4:=congrFun h3 p
  have h5:kv n k p=0:=by simp only [kv]; rw [if_neg (by omega)]
  rw [h5] at h4
  have h6:rcomb rows u p≠0:=fun e=>by change u p - rcomb rows u p=0 at h4; rw [e] at h4; exact h1 (by grind)
  have h7:∀ (l:List Row),(∀ r∈l,Lead n r)→rcomb l u p≠0→∃ r∈l,r.p=p:=by
    intro l
    induction l with
    | nil=>intro _ e; exact absurd rfl e
    | cons r l ih =>
      intro hl e
      by_cases e1:r.p=p
      · exact ⟨r,by simp,e1⟩
      have e2:u r.p * r.v p=0:=by
        rcases Nat.lt_or_ge r.p p with h8 | h8
        · rw [h2 _ h8]; grind
        rw [(hl r (by simp)).low p (by omega)]; grind
      simp only [rcomb] at e
      rw [e2] at e
      obtain ⟨s,hs,hs2⟩:=ih (fun x hx=>hl x (by simp [hx])) (by intro e3; apply e; rw [e3]; grind)
      exact ⟨s,by simp [hs],hs2⟩
  exact h7 rows h.good.lead h6
theorem Good.nodup (h:Good n rows):(rows.map (·.p)).Nodup:=by
  rw [List.Nodup,List.pairwise_map]
  refine h.apart.imp_of_mem (fun {r s} hr hs hrs e=>?_)
  have h1:=(h.lead s hs).one
  rw [← e] at h1
  rw [hrs.2] at h1
  exact absurd h1 (by decide)
theorem nodup_le:∀ {xs ys:List Nat},xs.Nodup→(∀ x∈xs,x∈ys)→xs.length≤ys.length
  | [],_,_,_=>by simp
  | x :: xs,ys,h,hs=>by
    obtain ⟨h1,h2⟩:=List.nodup_cons.1 h;have hx:=hs x (by simp)
    have:=nodup_le (ys:=ys.erase x) h2 (fun z hz=>(List.mem_erase_of_ne (by intro e; subst e; exact h1 hz)).2 (hs z (by simp [hz])))
    rw [List.length_erase_of_mem hx] at this
    have h3:0<ys.length:=List.length_pos_of_mem hx
    simp only [List.length_cons]; omega
theorem Solved.rank_le {M:List Vec} {rows':List Row} {ok':Bool} (h:Solved n L rows ok) (h':Solved n M rows' ok') (hs:∀ v∈L,Sp M v):rows.length≤rows'.length:=by
  have:=nodup_le (xs:=rows.map (·.p)) (ys:=rows'.map (·.p)) h.good.nodup (fun p hp=>by
    obtain ⟨r,hr,e⟩:=List.mem_map.1 hp;obtain ⟨h1,u,hu,h2⟩:=(h.lead_iff p).1 ⟨r,hr,e⟩;obtain ⟨s,hs1,hs2⟩:=(h'.lead_iff p).2 ⟨h1,u,hu.trans hs,h2⟩
    exact List.mem_map.2 ⟨s,hs1,hs2⟩)
  simpa using this
theorem Solved.rank_n (h:Solved n L rows ok):rows.length≤n:=by
  have:=nodup_le (xs:=rows.map (·.p)) (ys:=List.range n) h.good.nodup (fun p hp=>by
    obtain ⟨r,hr,e⟩:=List.mem_map.1 hp
    have:=(h.good.lead r hr).lt
    simp only [List.mem_range]; omega)
  simpa using this
end
def ev1 (v:Nat):Vec:=fun i=>if i=v then 1 else 0
section
variable {n:Nat} {L:List Vec} {rows:List Row} {ok:Bool}
theorem red_kv (h:Good n rows) (k:Rat):red rows (kv n k)=kv n k:=by
  rw [red_eq h]
  have h5:rcomb rows (kv n k)=rcomb rows (fun _=>0):=comb_congr (fun r hr=>by
    have:=(h.lead r hr).lt
    simp only [kv]; rw [if_neg (by omega)])
  have h0:∀ (l:List Row) i,rcomb l (fun _=>0) i=0:=by
    intro l i
    induction l with
    | nil=>rfl
    | cons t l ih2=>simp only [rcomb]; rw [ih2]; grind
  funext i; rw [h5,h0]; grind
end
def Ov (D T:Nat) (u:Vec):Prop:=∀ i,∃ z:Int,u i * (D:Rat)=(z:Rat)∧z.natAbs<4294967296 ^ T
theorem cast_ne {D:Nat} (hD:0<D):(D:Rat)≠0:=fun e=>by
  have:(D:Rat)=((0:Nat):Rat):=e
  have:=Rat.natCast_inj.1 this
  omega
theorem of_ov {q:Rat} {D:Nat} {z:Int} (h:q * (D:Rat)=(z:Rat)) (hD:0<D):q=mkRat z D:=by
  rw [Rat.mkRat_eq_div,← h,Rat.div_def,Rat.mul_assoc,Rat.mul_inv_cancel _ (cast_ne hD),Rat.mul_one]
theorem Fit.ov {q:Rat} {D T:Nat} {z:Int} (h:q * (D:Rat)=(z:Rat)) (hD:0<D) (h1:D<4294967296 ^ T) (h2:z.natAbs<4294967296 ^ T):Fit q T:=by
  rw [of_ov h hD]
  exact ⟨Nat.le_trans (toL_len_mono (mkRat_num_le _ _)) (toL_length_le h2),Nat.le_trans (toL_len_mono (mkRat_den_le _ (by omega))) (toL_length_le h1)⟩
structure Den (D T:Nat) (rows:List Row):Prop where
  pos:0<D
  lt:D<4294967296 ^ T
  ov:∀ r∈rows,Ov D T r.v
def bnd (t:Nat):Nat→Nat
  | 0=>1
  | k + 1=>2 * bnd t k + t + 2
theorem bnd_mono {t:Nat}:∀ {k j:Nat},k≤j→bnd t k≤bnd t j
  | k, 0, h => by have : k = 0 := by omega
                  rw [this]; exact Nat.le_refl _
  | k,j + 1,h=>by
    rcases Nat.lt_or_ge j k with h1 | h1
    · have:k=j + 1:=by omega
      rw [this]; exact Nat.le_refl _
    have:=bnd_mono (t:=t) h1
    simp only [bnd]; omega
theorem bnd_12 {t k:Nat} (h:k≤12):bnd t k≤4096 * (t + 3):=by
  have h1:=bnd_mono (t:=t) h
  simp only [bnd] at h1; omega
theorem put_length (l:List Row) (k:Nat) (a:Vec):(put l k a).length=l.length + 1:=by simp [put]
theorem Den.nil:Den 1 1 []:=⟨by decide,by decide,by simp⟩
section
variable {D T d t:Nat}
theorem comb_ov {c:Vec} (hc:Ov d t c):∀ {l:List Row},(∀ r∈l,Ov D T r.v)→∀ i,∃ z:Int,rcomb l c i * ((D * d:Nat):Rat)=(z:Rat)∧z.natAbs≤l.length * (4294967296 ^ t * 4294967296 ^ T)
  | [],_,i=>⟨0,by simp only [rcomb]; rw [Rat.zero_mul]; rfl,by simp⟩
  | r :: l,h,i=>by
    obtain ⟨z,h1,h2⟩:=comb_ov hc (l:=l) (fun s hs=>h s (by simp [hs])) i;obtain ⟨x,h3,h4⟩:=hc r.p;obtain ⟨y,h5,h6⟩:=h r (by simp) i
    refine ⟨x * y + z,?_,?_⟩
    · simp only [rcomb]
      rw [Rat.intCast_add,Rat.intCast_mul,← h1,← h3,← h5,Rat.natCast_mul]; grind
    refine Nat.le_trans (Int.natAbs_add_le _ _) ?_
    rw [Int.natAbs_mul,List.length_cons,Nat.add_mul,Nat.one_mul,Nat.add_comm (l.length * _)]
    exact Nat.add_le_add (Nat.mul_le_mul (by omega) (by omega)) h2
theorem red_ov {n:Nat} {l:List Row} {c:Vec} (hg:Good n l) (hl:l.length<4294967295) (hD:D<4294967296 ^ T) (h:∀ r∈l,Ov D T r.v) (hc:Ov d t c):Ov (D * d) (t + T + 1) (red l c):=fun i=>by
  obtain ⟨z,h1,h2⟩:=comb_ov hc h i;obtain ⟨x,h3,h4⟩:=hc i
  refine ⟨x * (D:Int) - z,?_,?_⟩
  · rw [red_eq hg,Rat.intCast_sub,Rat.intCast_mul,← h1,← h3,Rat.natCast_mul,Rat.intCast_natCast]; grind
  have h5:(x * (D:Int)).natAbs≤4294967296 ^ t * 4294967296 ^ T:=by
    rw [Int.natAbs_mul,Int.natAbs_natCast]; exact Nat.mul_le_mul (by omega) (by omega)
  have h6:=Int.natAbs_sub_le (x * (D:Int)) z
  have h7:4294967296 ^ (t + T + 1)=4294967296 ^ t * 4294967296 ^ T * 4294967296:=by rw [Nat.pow_succ,Nat.pow_add]
  have h8:0<4294967296 ^ t * 4294967296 ^ T:=Nat.mul_pos (Nat.pow_pos (by decide)) (Nat.pow_pos (by decide))
  rw [h7]
  generalize 4294967296 ^ t * 4294967296 ^ T=K at *
  have h9:(l.length + 1) * K<4294967296 * K:=Nat.mul_lt_mul_of_pos_right (by omega) h8
  rw [Nat.add_mul] at h9
  omega
theorem Den.put {E S k:Nat} {l:List Row} {c a:Vec} {y:Rat} (h:Den D T l) (hE:0<E) (hS:Ov E S (red l c)) (hy:y≠0) (ha:∀ i,red l c i=y * a i) (h1:a k=1):∃ D',Den D' (T + S + 1) (put l k a):=by
  obtain ⟨wk,h2,h3⟩:=hS k
  have hwk:wk≠0:=fun e=>by
    rw [ha k,h1,e] at h2
    have h2:y * 1 * (E:Rat)=0:=h2
    rw [Rat.mul_one] at h2
    rcases Rat.mul_eq_zero.1 h2 with h4 | h4
    · exact hy h4
    exact cast_ne hE h4
  have hm:0<wk.natAbs:=by omega
  have hx:∀ i,∃ x:Int,a i * ((wk.natAbs:Nat):Rat)=(x:Rat)∧x.natAbs<4294967296 ^ S:=fun i=>by
    obtain ⟨wi,h4,h5⟩:=hS i
    have h6:a i * (wk:Rat)=(wi:Rat):=by
      rw [← h2,← h4,ha i,ha k,h1]; grind
    rcases Int.natAbs_eq wk with e | e
    · refine ⟨wi,?_,h5⟩
      rw [← h6]; congr 1
      rw [← Rat.intCast_natCast,← e]
    refine ⟨-wi,?_,by rw [Int.natAbs_neg]; exact h5⟩
    have e2:((wk.natAbs:Nat):Rat)=-(wk:Rat):=by
      rw [← Rat.intCast_natCast,← Rat.intCast_neg]; congr 1; omega
    rw [e2,Rat.intCast_neg,← h6]; grind
  have hp:∀ x y:Nat,x<4294967296 ^ T→y<4294967296 ^ S→x * y<4294967296 ^ T * 4294967296 ^ S:=fun x y hx hy=>Nat.mul_lt_mul'' hx hy
  have h7:4294967296 ^ (T + S + 1)=4294967296 ^ T * 4294967296 ^ S * 4294967296:=by rw [Nat.pow_succ,Nat.pow_add]
  refine ⟨D * wk.natAbs,Nat.mul_pos h.pos hm,?_,fun r hr i=>?_⟩
  · have:=hp D wk.natAbs h.lt h3
    rw [h7]; omega
  obtain ⟨x,hx1,hx2⟩:=hx i
  rcases List.mem_append.1 hr with h8 | h8
  · obtain ⟨s,hs,rfl⟩:=List.mem_map.1 h8
    obtain ⟨z,hz1,hz2⟩:=h.ov s hs i;obtain ⟨u,hu1,hu2⟩:=h.ov s hs k
    refine ⟨z * (wk.natAbs:Int) - u * x,?_,?_⟩
    · simp only [vsub]
      rw [Rat.intCast_sub,Rat.intCast_mul,Rat.intCast_mul,← hz1,← hu1,← hx1,Rat.natCast_mul,Rat.intCast_natCast]; grind
    have h9:=Int.natAbs_sub_le (z * (wk.natAbs:Int)) (u * x)
    rw [Int.natAbs_mul,Int.natAbs_mul,Int.natAbs_natCast] at h9
    have ha:=hp _ _ hz2 h3;have hb:=hp _ _ hu2 hx2
    rw [h7]; omega
  simp only [List.mem_singleton] at h8; subst h8
  refine ⟨x * (D:Int),?_,?_⟩
  · rw [Rat.intCast_mul,← hx1,Rat.natCast_mul,Rat.intCast_natCast]; grind
  rw [Int.natAbs_mul,Int.natAbs_natCast,Nat.mul_comm]
  have:=hp _ _ h.lt hx2
  rw [h7]; omega
end
abbrev Ts:=List (Nat × Rat)
def coef:Ts→Nat→Rat
  | [],_=>0
  | t :: l,i=>if t.1=i then t.2 else coef l i
structure Nice (l:Ts):Prop where
  up:l.Pairwise fun s t=>s.1<t.1
  ne:∀ t∈l,t.2≠0
theorem Nice.nil:Nice []:=⟨List.Pairwise.nil,by simp⟩
theorem Nice.tail {t:Nat × Rat} {l:Ts} (h:Nice (t :: l)):Nice l:=⟨(List.pairwise_cons.1 h.up).2,fun s hs=>h.ne s (by simp [hs])⟩
theorem Nice.head {t:Nat × Rat} {l:Ts} (h:Nice (t :: l)):∀ s∈l,t.1<s.1:=(List.pairwise_cons.1 h.up).1
theorem coef_low:∀ {l:Ts} {i:Nat},(∀ s∈l,i<s.1)→coef l i=0
  | [],_,_=>rfl
  | t :: l,i,h=>by
    have:=h t (by simp)
    simp only [coef]
    rw [if_neg (by omega),coef_low (fun s hs=>h s (by simp [hs]))]
theorem coef_none:∀ {l:Ts} {i:Nat},(∀ s∈l,s.1≠i)→coef l i=0
  | [],_,_=>rfl
  | t :: l,i,h=>by
    simp only [coef]
    rw [if_neg (h t (by simp)),coef_none (fun s hs=>h s (by simp [hs]))]
theorem Nice.coef_mem:∀ {l:Ts},Nice l→∀ {t:Nat × Rat},t∈l→coef l t.1=t.2
  | s :: l,h,t,ht=>by
    simp only [coef]
    rcases List.mem_cons.1 ht with rfl | h1
    · rw [if_pos rfl]
    have:=h.head t h1
    rw [if_neg (by omega)]; exact h.tail.coef_mem h1
theorem Nice.first {t:Nat × Rat} {l:Ts} (h:Nice (t :: l)):coef (t :: l) t.1=t.2∧t.2≠0∧∀ j,j<t.1→coef (t :: l) j=0 :=
  ⟨by simp [coef],h.ne t (by simp),fun j hj=>coef_low (fun s hs=>by
    rcases List.mem_cons.1 hs with rfl | h1
    · exact hj
    exact Nat.lt_trans hj (h.head s h1))⟩
theorem Nice.empty {l:Ts} (h:Nice l) (h0:∀ i,coef l i=0):l=[]:=by
  cases l with
  | nil=>rfl
  | cons t l=>exact absurd (h.first.1.symm.trans (h0 t.1)) h.first.2.1
def addT:Ts→Ts→Ts
  | [],m=>m
  | s :: l,[]=>s :: l
  | s :: l,t :: m=>if s.1<t.1 then s :: addT l (t :: m) else if t.1<s.1 then t :: addT (s :: l) m else if s.2 + t.2=0 then addT l m else (s.1,s.2 + t.2) :: addT l m
termination_by l m=>l.length + m.length
theorem addT_low {v:Nat}:∀ (l m:Ts),(∀ s∈l,v<s.1)→(∀ s∈m,v<s.1)→∀ s∈addT l m,v<s.1
  | [],m,_,hm=>by simpa [addT] using hm
  | s :: l,[],hl,_=>by simpa [addT] using hl
  | s :: l,t :: m,hl,hm=>by
    have hl':∀ x∈l,v<x.1:=fun x hx=>hl x (by simp [hx])
    have hm':∀ x∈m,v<x.1:=fun x hx=>hm x (by simp [hx])
    unfold addT
    split
    · intro x hx
      rcases List.mem_cons.1 hx with rfl | h1
      · exact hl _ (by simp)
      exact addT_low l (t :: m) hl' hm x h1
    split
    · intro x hx
      rcases List.mem_cons.1 hx with rfl | h1
      · exact hm _ (by simp)
      exact addT_low (s :: l) m hl hm' x h1
    split
    · exact addT_low l m hl' hm'
    intro x hx
    rcases List.mem_cons.1 hx with rfl | h1
    · exact hl s (by simp)
    exact addT_low l m hl' hm' x h1
termination_by l m=>l.length + m.length
theorem Nice.cons {t:Nat × Rat} {l:Ts} (h:Nice l) (h1:∀ s∈l,t.1<s.1) (h2:t.2≠0):Nice (t :: l) :=
  ⟨List.pairwise_cons.2 ⟨h1,h.up⟩,fun s hs=>by rcases List.mem_cons.1 hs with rfl | h3; exact h2; exact h.ne s h3⟩
theorem addT_nice:∀ {l m:Ts},Nice l→Nice m→Nice (addT l m)
  | [],m,_,hm=>by simpa [addT] using hm
  | s :: l,[],hl,_=>by simpa [addT] using hl
  | s :: l,t :: m,hl,hm=>by
    unfold addT
    split
    · rename_i hst
      exact (addT_nice hl.tail hm).cons (addT_low l (t :: m) hl.head (fun x hx=>by
        rcases List.mem_cons.1 hx with rfl | h1
        · exact hst
        exact Nat.lt_trans hst (hm.head x h1))) (hl.ne s (by simp))
    split
    · rename_i hst hts
      exact (addT_nice hl hm.tail).cons (addT_low (s :: l) m (fun x hx=>by
        rcases List.mem_cons.1 hx with rfl | h1
        · exact hts
        exact Nat.lt_trans hts (hl.head x h1)) hm.head) (hm.ne t (by simp))
    rename_i hst hts
    have e:s.1=t.1:=by omega
    split
    · exact addT_nice hl.tail hm.tail
    rename_i h0
    exact (addT_nice hl.tail hm.tail).cons (addT_low l m hl.head (fun x hx=>by have:=hm.head x hx; simp only; omega)) h0
termination_by l m=>l.length + m.length
theorem addT_coef:∀ {l m:Ts},Nice l→Nice m→∀ i,coef (addT l m) i=coef l i + coef m i
  | [],m,_,_,i=>by simp only [addT,coef]; grind
  | s :: l,[],_,_,i=>by simp only [addT,coef]; grind
  | s :: l,t :: m,hl,hm,i=>by
    unfold addT
    split
    · rename_i hst
      have h1:=addT_coef hl.tail hm i
      simp only [coef] at h1 ⊢
      rw [h1]
      by_cases e:s.1=i
      · have h2:coef m i=0:=coef_low (fun x hx=>by have:=hm.head x hx; omega)
        rw [if_pos e,if_pos e,if_neg (by omega),h2]; grind
      rw [if_neg e,if_neg e]
    split
    · rename_i hst hts
      have h1:=addT_coef hl hm.tail i
      simp only [coef] at h1 ⊢
      rw [h1]
      by_cases e:t.1=i
      · have h2:coef l i=0:=coef_low (fun x hx=>by have:=hl.head x hx; omega)
        rw [if_pos e,if_pos e,if_neg (by omega),h2]; grind
      rw [if_neg e,if_neg e]
    rename_i hst hts
    have e0:t.1=s.1:=by omega
    have h1:=addT_coef hl.tail hm.tail i
    split
    · rename_i h0
      rw [h1]
      simp only [coef]
      by_cases e:s.1=i
      · have h2:coef l i=0:=coef_low (fun x hx=>by have:=hl.head x hx; omega)
        have h3:coef m i=0:=coef_low (fun x hx=>by have:=hm.head x hx; omega)
        rw [if_pos e,if_pos (by omega),h2,h3,h0]; grind
      rw [if_neg e,if_neg (by omega)]
    simp only [coef]
    rw [h1]
    by_cases e:s.1=i
    · rw [if_pos e,if_pos e,if_pos (by omega)]
    rw [if_neg e,if_neg e,if_neg (by omega)]
termination_by l m=>l.length + m.length
def scaleT (l:Ts) (x:Rat):Ts:=l.filterMap fun t=>if t.2 * x=0 then none else some (t.1,t.2 * x)
theorem scaleT_cons (t:Nat × Rat) (l:Ts) (x:Rat):scaleT (t :: l) x=if t.2 * x=0 then scaleT l x else (t.1,t.2 * x) :: scaleT l x:=by
  unfold scaleT; rw [List.filterMap_cons]; split <;> simp_all
theorem scaleT_low {v:Nat} {l:Ts} {x:Rat} (h:∀ s∈l,v<s.1):∀ s∈scaleT l x,v<s.1:=by
  induction l with
  | nil=>intro s hs; cases hs
  | cons t l ih =>
    rw [scaleT_cons]
    split
    · exact ih (fun s hs=>h s (by simp [hs]))
    intro s hs
    rcases List.mem_cons.1 hs with rfl | h1
    · exact h t (by simp)
    exact ih (fun s hs=>h s (by simp [hs])) s h1
theorem scaleT_nice {l:Ts} (h:Nice l) (x:Rat):Nice (scaleT l x):=by
  induction l with
  | nil=>exact .nil
  | cons t l ih =>
    rw [scaleT_cons]
    split
    · exact ih h.tail
    rename_i h0
    exact (ih h.tail).cons (scaleT_low h.head) h0
theorem scaleT_coef {l:Ts} (h:Nice l) (x:Rat) (i:Nat):coef (scaleT l x) i=coef l i * x:=by
  induction l with
  | nil=>simp only [scaleT,List.filterMap_nil,coef]; grind
  | cons t l ih =>
    rw [scaleT_cons]
    split
    · rename_i h0
      rw [ih h.tail]
      simp only [coef]
      split
      · rename_i e
        have h2:coef l i=0:=coef_low (fun s hs=>by have:=h.head s hs; omega)
        rw [h2,h0]; grind
      rfl
    simp only [coef]
    split
    · rfl
    exact ih h.tail
def cv (n:Nat) (l:Ts) (k:Rat):Vec:=fun i=>if i=n then k else coef l i
def Below (n:Nat) (l:Ts):Prop:=∀ t∈l,t.1<n
theorem cv_nil (n:Nat) (k:Rat):cv n [] k=kv n k:=by funext i; simp [cv,kv,coef]
def lessT (l:Ts) (k:Rat) (row:Ts) (rk:Rat):Ts × Rat :=
  match row with
  | []=>(l,k)
  | f :: _=>if coef l f.1=0 then (l,k) else let by_:=-(coef l f.1) / f.2; (addT l (scaleT row by_),k + rk * by_)
theorem lessT_nice {l row:Ts} (hl:Nice l) (hr:Nice row) (k rk:Rat):Nice (lessT l k row rk).1:=by
  unfold lessT
  split
  · exact hl
  split
  · exact hl
  exact addT_nice hl (scaleT_nice hr _)
theorem lessT_cv {n : Nat} {l row : Ts} (hl : Nice l) (hr : Nice row) {k rk y : Rat} {r : Row} {f : Nat × Rat} {rest : Ts} (hf : row = f :: rest) (hp : r.p = f.1) (hn : f.1 < n) (hy : y ≠ 0) (h1 : r.v r.p = 1) (hv : ∀ i, cv n row rk i = y * r.v i) :
    cv n (lessT l k row rk).1 (lessT l k row rk).2=vsub (cv n l k) r.v (cv n l k r.p):=by
  have e1:cv n l k r.p=coef l f.1:=by simp only [cv]; rw [hp,if_neg (by omega)]
  have e2:f.2=y:=by
    have:=hv r.p
    rw [h1,hp] at this
    simp only [cv] at this
    rw [if_neg (by omega),hf] at this
    rw [hf] at hr
    rw [hr.first.1] at this
    grind
  subst hf
  unfold lessT
  simp only
  rw [e1]
  split
  · rename_i h0
    funext i; simp only [vsub]; rw [h0]; grind
  funext i
  simp only [vsub]
  have hi:=hv i
  simp only [cv] at hi ⊢
  rw [addT_coef hl (scaleT_nice hr _),scaleT_coef hr,e2]
  rw [Rat.div_def]
  have hyy:=Rat.inv_mul_cancel _ hy
  split
  · rename_i e
    rw [if_pos e] at hi
    rw [hi]
    have:y * r.v i * (-coef l f.1 * y⁻¹)=-(coef l f.1 * r.v i) * (y⁻¹ * y):=by grind
    rw [this,hyy]; grind
  rename_i e
  rw [if_neg e] at hi
  rw [hi]
  have:y * r.v i * (-coef l f.1 * y⁻¹)=-(coef l f.1 * r.v i) * (y⁻¹ * y):=by grind
  rw [this,hyy]; grind
end Go.Proofs.YtombbkdnehhonaaGreat
end
section
namespace Go.Proofs.YtombbkdnehhonaaGreat
set_option linter.unusedVariables false
set_option linter.unusedSimpArgs false
theorem Nice.first_of {l:Ts} (h:Nice l) {p:Nat} (h1:coef l p≠0) (h2:∀ j,j<p→coef l j=0):∃ f rest,l=f :: rest∧p=f.1:=by
  cases l with
  | nil=>exact absurd rfl h1
  | cons f rest =>
    refine ⟨f,rest,rfl,?_⟩
    have h3:=h.first
    rcases Nat.lt_trichotomy p f.1 with h4 | h4 | h4
    · exact absurd (h3.2.2 p h4) h1
    · exact h4
    exact absurd (h3.1.symm.trans (h2 f.1 h4)) h3.2.1
theorem addT_below {n:Nat}:∀ (l m:Ts),Below n l→Below n m→Below n (addT l m)
  | [],m,_,hm=>by simpa [addT] using hm
  | s :: l,[],hl,_=>by simpa [addT] using hl
  | s :: l,t :: m,hl,hm=>by
    have hl':Below n l:=fun x hx=>hl x (by simp [hx])
    have hm':Below n m:=fun x hx=>hm x (by simp [hx])
    have hs:s.1<n:=hl s (by simp)
    have ht:t.1<n:=hm t (by simp)
    unfold addT
    split
    · intro x hx
      rcases List.mem_cons.1 hx with rfl | h1
      · exact hs
      exact addT_below l (t :: m) hl' hm x h1
    split
    · intro x hx
      rcases List.mem_cons.1 hx with rfl | h1
      · exact ht
      exact addT_below (s :: l) m hl hm' x h1
    split
    · exact addT_below l m hl' hm'
    intro x hx
    rcases List.mem_cons.1 hx with rfl | h1
    · exact hs
    exact addT_below l m hl' hm' x h1
termination_by l m=>l.length + m.length
theorem scaleT_below {n:Nat} {l:Ts} {x:Rat} (h:Below n l):Below n (scaleT l x):=by
  induction l with
  | nil=>intro s hs; cases hs
  | cons t l ih =>
    rw [scaleT_cons]
    split
    · exact ih (fun s hs=>h s (by simp [hs]))
    intro s hs
    rcases List.mem_cons.1 hs with rfl | h1
    · exact h t (by simp)
    exact ih (fun s hs=>h s (by simp [hs])) s h1
theorem lessT_below {n:Nat} {l row:Ts} (hl:Below n l) (hr:Below n row) (k rk:Rat):Below n (lessT l k row rk).1:=by
  unfold lessT
  split
  · exact hl
  split
  · exact hl
  exact addT_below _ _ hl (scaleT_below hr)
structure Rep (n S:Nat) (row:Ts × Rat) (r:Row):Prop where
  sz:∀ f rest,row.1=f :: rest→Fit f.2 S
  nice:Nice row.1
  below:Below n row.1
  first:∃ f rest,row.1=f :: rest∧r.p=f.1
  mul:∃ y:Rat,y≠0∧∀ i,cv n row.1 row.2 i=y * r.v i
inductive Reps (n S:Nat):List (Ts × Rat)→List Row→Prop
  | nil:Reps n S [] []
  | cons {row r rs R}:Rep n S row r→Reps n S rs R→Reps n S (row :: rs) (r :: R)
def leftT:List (Ts × Rat)→Ts × Rat→Ts × Rat
  | [],c=>c
  | r :: rs,c=>leftT rs (lessT c.1 c.2 r.1 r.2)
theorem leftT_nice:∀ {n S:Nat} {rs:List (Ts × Rat)} {R:List Row},Reps n S rs R→∀ {c:Ts × Rat},Nice c.1→Below n c.1→Nice (leftT rs c).1∧Below n (leftT rs c).1
  | _,_,_,_,.nil,_,h,hb=>⟨h,hb⟩
  | _,_,_,_,.cons h1 h2,_,h,hb=>leftT_nice h2 (lessT_nice h h1.nice _ _) (lessT_below hb h1.below _ _)
theorem leftT_cv:∀ {n S:Nat} {rs:List (Ts × Rat)} {R:List Row},Reps n S rs R→(∀ r∈R,Lead n r)→∀ {c:Ts × Rat},Nice c.1→Below n c.1→cv n (leftT rs c).1 (leftT rs c).2=red R (cv n c.1 c.2)
  | _,_,_,_,.nil,_,_,_,_=>rfl
  | n,S,row :: rs,r :: R,.cons h1 h2,hl,c,h,hb=>by
    obtain ⟨f,rest,e1,e2⟩:=h1.first
    obtain ⟨y,hy,hv⟩:=h1.mul;have hr:=hl r (by simp)
    have hn:f.1<n:=e2 ▸ hr.lt
    have h3:=lessT_cv (n:=n) h h1.nice (k:=c.2) (rk:=row.2) e1 e2 hn hy hr.one hv
    simp only [leftT,red]
    rw [leftT_cv h2 (fun s hs=>hl s (by simp [hs])) (lessT_nice h h1.nice _ _) (lessT_below hb h1.below _ _),h3]
def laysT (rs:List (Ts × Rat)) (good:Bool) (c:Ts × Rat):List (Ts × Rat) × Bool :=
  let d:=leftT rs c
  match d.1 with
  | []=>(rs,good && decide (d.2=0))
  | _ :: _=>(rs.map (fun r=>lessT r.1 r.2 d.1 d.2) ++ [d],good)
theorem Reps.append {n S:Nat} {rs:List (Ts × Rat)} {R:List Row} {row:Ts × Rat} {r:Row} (h:Reps n S rs R) (h1:Rep n S row r):Reps n S (rs ++ [row]) (R ++ [r]):=by
  induction h with
  | nil=>exact .cons h1 .nil
  | cons h2 h3 ih=>exact .cons h2 ih
theorem Reps.length {n S:Nat} {rs:List (Ts × Rat)} {R:List Row} (h:Reps n S rs R):rs.length=R.length:=by
  induction h with
  | nil=>rfl
  | cons h2 h3 ih=>simp [ih]
theorem Rep.less {n S : Nat} {row d : Ts × Rat} {r : Row} {a : Vec} {f : Nat × Rat} {rest : Ts} {y : Rat} (h : Rep n S row r) (hl : Lead n r) (hd : Nice d.1) (hdb : Below n d.1) (hf : d.1 = f :: rest) (hy : y ≠ 0) (hv : ∀ i, cv n d.1 d.2 i = y * a i)
    (h1:a f.1=1) (h2:∀ j,j<f.1→a j=0) (h0:a r.p=0):Rep n S (lessT row.1 row.2 d.1 d.2) ⟨r.p,vsub r.v a (r.v f.1)⟩:=by
  have hn:f.1<n:=hdb f (by rw [hf]; simp)
  obtain ⟨z,hz,hzv⟩:=h.mul;have h3:=lessT_cv (n:=n) (r:=⟨f.1,a⟩) h.nice hd (k:=row.2) (rk:=d.2) hf rfl hn hy h1 hv
  have h4:∀ i,cv n (lessT row.1 row.2 d.1 d.2).1 (lessT row.1 row.2 d.1 d.2).2 i=z * vsub r.v a (r.v f.1) i:=fun i=>by
    rw [h3]; simp only [vsub]; rw [hzv i,hzv f.1]; grind
  have hne:r.p≠f.1:=fun e=>by rw [e,h1] at h0; exact absurd h0 (by decide)
  have h5:∀ i,i<n→coef (lessT row.1 row.2 d.1 d.2).1 i=z * (r.v i - r.v f.1 * a i):=fun i hi=>by
    have:=h4 i
    simp only [cv,vsub] at this
    rw [if_neg (by omega)] at this
    exact this
  have hlt:=hl.lt
  have hfst:∃ f rest,(lessT row.1 row.2 d.1 d.2).1=f :: rest∧r.p=f.1:=by
    refine (lessT_nice h.nice hd _ _).first_of (p:=r.p) ?_ (fun j hj=>?_)
    · rw [h5 _ hlt,hl.one,h0]
      intro e
      apply hz
      grind
    rw [h5 _ (by omega),hl.low j hj]
    rcases Nat.lt_or_ge j f.1 with h6 | h6
    · rw [h2 j h6]; grind
    rw [hl.low f.1 (by omega)]; grind
  refine ⟨fun g gs hg=>?_,lessT_nice h.nice hd _ _,lessT_below h.below hdb _ _,hfst,z,hz,h4⟩
  obtain ⟨g1,gs1,h7,h8⟩:=h.first
  have h9:=h.sz g1 gs1 h7
  have h10:g1.2=z:=by
    have h11:=hzv r.p
    simp only [cv] at h11
    have h12:=h.nice
    rw [h7] at h12 h11
    rw [if_neg (by omega),hl.one,h8,h12.first.1] at h11
    rw [h11]; grind
  have h13:g.2=z:=by
    obtain ⟨g2,gs2,h14,h15⟩:=hfst
    rw [hg] at h14
    injection h14 with h14 _
    have h16:=h5 r.p hlt;have h17:=lessT_nice h.nice hd row.2 d.2
    rw [hg] at h16 h17
    rw [h15,← h14,h17.first.1,h14,← h15,hl.one,h0] at h16
    rw [h14,h16]; grind
  rw [h13,← h10]; exact h9
theorem Reps.split {n S:Nat}:∀ {rs1 rs2:List (Ts × Rat)} {R:List Row},Reps n S (rs1 ++ rs2) R→∃ R1 R2,R=R1 ++ R2∧Reps n S rs1 R1
  | [],_,R,_=>⟨[],R,rfl,.nil⟩
  | r :: rs1,rs2,_,.cons h1 h2=>by
    obtain ⟨R1,R2,e,h3⟩:=Reps.split h2
    exact ⟨_ :: R1,R2,by rw [e]; rfl,.cons h1 h3⟩
theorem Good.take {n:Nat} {R1 R2:List Row} (h:Good n (R1 ++ R2)):Good n R1:=⟨fun r hr=>h.lead r (by simp [hr]),(List.pairwise_append.1 h.apart).1⟩
theorem cv_fit {n D T:Nat} {l:Ts} {k:Rat} (hl:Nice l) (hb:Below n l) (hD:0<D) (hlt:D<4294967296 ^ T) (h:Ov D T (cv n l k)):(∀ x∈l,Fit x.2 T)∧Fit k T:=by
  refine ⟨fun x hx=>?_,?_⟩
  · obtain ⟨z,h1,h2⟩:=h x.1
    have:=hb x hx
    simp only [cv] at h1
    rw [if_neg (by omega),hl.coef_mem hx] at h1
    exact Fit.ov h1 hD hlt h2
  obtain ⟨z,h1,h2⟩:=h n
  simp only [cv,if_true] at h1
  exact Fit.ov h1 hD hlt h2
theorem left_fit {n S t d D T : Nat} {rs1 rs2 : List (Ts × Rat)} {R : List Row} {c : Ts × Rat} (hn0 : R.length < 4294967295) (hR : Reps n S (rs1 ++ rs2) R) (hg : Good n R) (hD : Den D T R) (hc : Nice c.1) (hb : Below n c.1) (hd : 0 < d) (hdt : d < 4294967296 ^ t) (ho : Ov d t (cv n c.1 c.2)) :
    (∀ x∈(leftT rs1 c).1,Fit x.2 (t + T + 1))∧Fit (leftT rs1 c).2 (t + T + 1):=by
  obtain ⟨R1,R2,rfl,h1⟩:=hR.split;have hg1:=hg.take;have h2:=leftT_nice h1 hc hb;have h3:=leftT_cv h1 hg1.lead hc hb;have h4:=red_ov hg1 (by simp at hn0; omega) hD.lt (fun r hr=>hD.ov r (by simp [hr])) ho
  rw [← h3] at h4
  refine cv_fit h2.1 h2.2 (Nat.mul_pos hD.pos hd) ?_ h4
  have h5:D * d<4294967296 ^ T * 4294967296 ^ t:=Nat.mul_lt_mul'' hD.lt hdt
  have h6:4294967296 ^ (t + T + 1)=4294967296 ^ T * 4294967296 ^ t * 4294967296:=by rw [Nat.pow_succ,Nat.pow_add,Nat.mul_comm (4294967296 ^ t)]
  omega
theorem laysT_step {n S : Nat} {L : List Vec} {rs : List (Ts × Rat)} {R : List Row} {ok : Bool} {c : Ts × Rat} (hn0 : n ≤ 64) (hR : Reps n S rs R) (hs : Solved n L R ok) (hc : Nice c.1) (hb : Below n c.1) (hfit : ∀ f rest, (leftT rs c).1 = f :: rest → Fit f.2 S) :
    ∃ R',Reps n S (laysT rs ok c).1 R'∧Solved n (L ++ [cv n c.1 c.2]) R' (laysT rs ok c).2 ∧
      (∀ D d t,Den D (bnd t R.length) R→0<d→Ov d t (cv n c.1 c.2)→∃ D',Den D' (bnd t R'.length) R'):=by
  have hcv:=leftT_cv hR hs.good.lead hc hb;have hnb:=leftT_nice hR hc hb
  have hlen:R.length<4294967295:=by have:=hs.rank_n; omega
  unfold laysT
  generalize leftT rs c=d at *
  obtain ⟨dl,dk⟩:=d
  simp only at hcv hnb ⊢
  cases dl with
  | nil =>
    rw [cv_nil] at hcv
    refine ⟨R,hR,hs.same hcv.symm,fun D d t hD hd ho=>⟨D,hD⟩⟩
  | cons f rest =>
    have hf:=hnb.1.first
    have hn:f.1<n:=hnb.2 f (by simp)
    have hy:f.2≠0:=hf.2.1
    let a:Vec:=fun i=>f.2⁻¹ * cv n (f :: rest) dk i
    have ha:∀ i,cv n (f :: rest) dk i=f.2 * a i:=fun i=>by
      have:=Rat.mul_inv_cancel _ hy
      show cv n (f :: rest) dk i=f.2 * (f.2⁻¹ * cv n (f :: rest) dk i)
      rw [← Rat.mul_assoc,this,Rat.one_mul]
    have hlow:∀ j,j<f.1→a j=0:=fun j hj=>by
      show f.2⁻¹ * cv n (f :: rest) dk j=0
      simp only [cv]; rw [if_neg (by omega),hf.2.2 j hj]; grind
    have hone:a f.1=1:=by
      show f.2⁻¹ * cv n (f :: rest) dk f.1=1
      simp only [cv]; rw [if_neg (by omega),hf.1]; exact Rat.inv_mul_cancel _ hy
    have hred:∀ i,red R (cv n c.1 c.2) i=f.2 * a i:=fun i=>by rw [← hcv]; exact ha i
    have h0:∀ r∈R,a r.p=0:=fun r hr=>by
      have h3:=hred r.p
      rw [red_lead hs.good _ hr] at h3
      rcases Rat.mul_eq_zero.1 h3.symm with h4 | h4
      · exact absurd h4 hy
      exact h4
    refine ⟨put R f.1 a,?_,hs.put hn hy hred hone hlow,fun D d t hD hd ho=>?_⟩
    · have hmap:∀ {rs:List (Ts × Rat)} {R:List Row},Reps n S rs R→(∀ r∈R,Lead n r)→(∀ r∈R,a r.p=0)→Reps n S (rs.map fun r=>lessT r.1 r.2 (f :: rest) dk) (R.map fun r=>⟨r.p,vsub r.v a (r.v f.1)⟩):=by
        intro rs R h
        induction h with
        | nil=>intro _ _; exact .nil
        | cons h2 h3 ih =>
          intro hl hz
          exact .cons (h2.less (d:=(f :: rest,dk)) (hl _ (by simp)) hnb.1 hnb.2 rfl hy ha hone hlow (hz _ (by simp))) (ih (fun s hs=>hl s (by simp [hs])) (fun s hs=>hz s (by simp [hs])))
      exact (hmap hR hs.good.lead h0).append ⟨hfit,hnb.1,hnb.2,⟨f,rest,rfl,rfl⟩,f.2,hy,ha⟩
    have h5:=red_ov hs.good hlen hD.lt hD.ov ho;obtain ⟨D',h6⟩:=hD.put (k:=f.1) (Nat.mul_pos hD.pos hd) h5 hy hred hone
    have e:bnd t R.length + (t + bnd t R.length + 1) + 1=bnd t (R.length + 1):=by simp only [bnd]; omega
    rw [e] at h6
    rw [put_length]
    exact ⟨D',h6⟩
def dv (l:List Rat):Vec:=fun i=>l.getD i 0
def leadD:List Rat→Nat
  | []=>0
  | [_]=>0
  | x :: y :: l=>if x=0 then leadD (y :: l) + 1 else 0
theorem leadD_spec:∀ {l:List Rat},l≠[]→leadD l<l.length∧(∀ j,j<leadD l→dv l j=0)∧(leadD l + 1<l.length→dv l (leadD l)≠0)
  | [],h=>absurd rfl h
  | [x],_=>⟨by simp [leadD],fun j hj=>by simp [leadD] at hj,fun h=>by simp [leadD] at h⟩
  | x :: y :: l,_=>by
    have ih:=leadD_spec (l:=y :: l) (by simp)
    simp only [leadD]
    split
    · rename_i hx
      refine ⟨by simp only [List.length_cons] at ih ⊢; omega,fun j hj=>?_,fun h=>?_⟩
      · cases j with
        | zero=>simpa [dv] using hx
        | succ j=>have:=ih.2.1 j (by omega); simpa [dv] using this
      have:=ih.2.2 (by simp only [List.length_cons] at h ⊢; omega)
      simpa [dv] using this
    rename_i hx
    exact ⟨by simp,fun j hj=>by omega,fun _=>by simpa [dv] using hx⟩
theorem leadD_eq {l:List Rat} {p:Nat} (h1:p + 1<l.length) (h2:dv l p≠0) (h3:∀ j,j<p→dv l j=0):leadD l=p:=by
  have h:=leadD_spec (l:=l) (by intro e; rw [e] at h1; simp at h1)
  rcases Nat.lt_trichotomy (leadD l) p with h4 | h4 | h4
  · exact absurd (h3 _ h4) (h.2.2 (by omega))
  · exact h4
  exact absurd (h.2.1 p h4) h2
def lessD (a b:List Rat) (x:Rat):List Rat:=(List.range a.length).map fun i=>a.getD i 0 - x * b.getD i 0
theorem lessD_length (a b:List Rat) (x:Rat):(lessD a b x).length=a.length:=by simp [lessD]
theorem lessD_dv {a b:List Rat} {x:Rat} (h:b.length=a.length):dv (lessD a b x)=vsub (dv a) (dv b) x:=by
  funext i
  simp only [dv,vsub,lessD]
  rcases Nat.lt_or_ge i a.length with h1 | h1
  · rw [List.getD_eq_getElem?_getD,List.getElem?_map,List.getElem?_range h1]; rfl
  rw [List.getD_eq_getElem?_getD,List.getElem?_eq_none (by simpa using h1),List.getD_eq_getElem?_getD,List.getElem?_eq_none h1,List.getD_eq_getElem?_getD,List.getElem?_eq_none (by omega)]
  simp only [Option.getD_none]; grind
def reduceD:List (List Rat)→List Rat→List Rat
  | [],a=>a
  | r :: rs,a=>reduceD rs (if a.getD (leadD r) 0=0 then a else lessD a r (a.getD (leadD r) 0))
structure RepD (n:Nat) (row:List Rat) (r:Row):Prop where
  len:row.length=n + 1
  lead:leadD row=r.p
  vec:dv row=r.v
inductive RepDs (n:Nat):List (List Rat)→List Row→Prop
  | nil:RepDs n [] []
  | cons {row r rs R}:RepD n row r→RepDs n rs R→RepDs n (row :: rs) (r :: R)
theorem RepDs.length {n:Nat} {rs:List (List Rat)} {R:List Row} (h:RepDs n rs R):rs.length=R.length:=by
  induction h with
  | nil=>rfl
  | cons h2 h3 ih=>simp [ih]
theorem RepDs.append {n:Nat} {rs:List (List Rat)} {R:List Row} {row:List Rat} {r:Row} (h:RepDs n rs R) (h1:RepD n row r):RepDs n (rs ++ [row]) (R ++ [r]):=by
  induction h with
  | nil=>exact .cons h1 .nil
  | cons h2 h3 ih=>exact .cons h2 ih
theorem reduceD_spec:∀ {n:Nat} {rs:List (List Rat)} {R:List Row},RepDs n rs R→∀ {a:List Rat},a.length=n + 1→(reduceD rs a).length=n + 1∧dv (reduceD rs a)=red R (dv a)
  | _,_,_,.nil,_,h=>⟨h,rfl⟩
  | n,row :: rs,r :: R,.cons h1 h2,a,h=>by
    simp only [reduceD,red]
    have e:a.getD (leadD row) 0=dv a r.p:=by rw [h1.lead]; rfl
    rw [e]
    split
    · rename_i h0
      have h3:=reduceD_spec h2 h
      refine ⟨h3.1,?_⟩
      rw [h3.2]; congr 1
      funext i; simp only [vsub]; rw [h0]; grind
    have h3:=reduceD_spec h2 (a:=lessD a row (dv a r.p)) (by rw [lessD_length]; exact h)
    refine ⟨h3.1,?_⟩
    rw [h3.2,lessD_dv (by rw [h1.len,h]),h1.vec]
def solveD (n:Nat) (rs:List (List Rat)) (ok:Bool) (c:List Rat):List (List Rat) × Bool :=
  let a:=reduceD rs c
  let k:=leadD a
  if k=n then (rs,ok && decide (a.getD n 0=0)) else
    let b:=a.map fun x=>x * (1 / a.getD k 0)
    (rs.map (fun r=>if r.getD k 0=0 then r else lessD r b (r.getD k 0)) ++ [b],ok)
theorem dv_map (a:List Rat) (x:Rat) (i:Nat):dv (a.map fun z=>z * x) i=dv a i * x:=by
  simp only [dv,List.getD_eq_getElem?_getD,List.getElem?_map]
  cases a[i]? with
  | none=>simp only [Option.map_none,Option.getD_none]; grind
  | some z=>rfl
theorem RepD.less {n : Nat} {row b : List Rat} {r : Row} {k : Nat} (h : RepD n row r) (hl : Lead n r) (hb : b.length = n + 1) (h1 : dv b k = 1) (h2 : ∀ j, j < k → dv b j = 0) (h0 : dv b r.p = 0) :
    RepD n (if row.getD k 0=0 then row else lessD row b (row.getD k 0)) ⟨r.p,vsub r.v (dv b) (r.v k)⟩:=by
  have e:row.getD k 0=r.v k:=by rw [← h.vec]; rfl
  have hlen:(if row.getD k 0=0 then row else lessD row b (row.getD k 0)).length=n + 1:=by split; exact h.len; rw [lessD_length]; exact h.len
  have hvec:dv (if row.getD k 0=0 then row else lessD row b (row.getD k 0))=vsub r.v (dv b) (r.v k):=by
    split
    · rename_i h3
      rw [e] at h3
      rw [h.vec]; funext i; simp only [vsub]; rw [h3]; grind
    rw [lessD_dv (by rw [hb,h.len]),h.vec,e]
  have hlt:=hl.lt
  refine ⟨hlen,leadD_eq (p:=r.p) (by rw [hlen]; omega) ?_ (fun j hj=>?_),hvec⟩
  · rw [hvec]; simp only [vsub]; rw [hl.one,h0]
    intro e2
    have:(1:Rat) - r.v k * 0=1:=by grind
    rw [this] at e2; exact absurd e2 (by decide)
  rw [hvec]; simp only [vsub]
  have hj':j<r.p:=hj
  rw [hl.low j hj']
  rcases Nat.lt_or_ge j k with h6 | h6
  · rw [h2 j h6]; grind
  rw [hl.low k (by omega)]; grind
theorem solveD_step {n : Nat} {L : List Vec} {rs : List (List Rat)} {R : List Row} {ok : Bool} {c : List Rat} (hn0 : n ≤ 64) (hR : RepDs n rs R) (hs : Solved n L R ok) (hc : c.length = n + 1) :
    ∃ R',RepDs n (solveD n rs ok c).1 R'∧Solved n (L ++ [dv c]) R' (solveD n rs ok c).2 ∧
      (∀ D d t,Den D (bnd t R.length) R→0<d→Ov d t (dv c)→∃ D',Den D' (bnd t R'.length) R'):=by
  obtain ⟨hal,hav⟩:=reduceD_spec hR hc
  have hlen:R.length<4294967295:=by have:=hs.rank_n; omega
  unfold solveD
  generalize reduceD rs c=a at *
  have hsp:=leadD_spec (l:=a) (by intro e; rw [e] at hal; simp at hal)
  simp only
  split
  · rename_i hk
    have hkv:red R (dv c)=kv n (a.getD n 0):=by
      rw [← hav]; funext i
      simp only [kv]
      split
      · rename_i e; rw [e]; rfl
      rename_i e
      rcases Nat.lt_or_ge i n with h1 | h1
      · exact hsp.2.1 i (by omega)
      simp only [dv,List.getD_eq_getElem?_getD]; rw [List.getElem?_eq_none (by omega)]; rfl
    refine ⟨R,hR,hs.same hkv,fun D d t hD hd ho=>⟨D,hD⟩⟩
  rename_i hk
  generalize hkk:leadD a=k at *
  have hkn:k<n:=by omega
  have hy:dv a k≠0:=hsp.2.2 (by omega)
  have hb:∀ i,dv (a.map fun x=>x * (1 / a.getD k 0)) i=dv a i * (dv a k)⁻¹:=fun i=>by
    rw [dv_map,Rat.div_def,Rat.one_mul]; rfl
  have hone:dv (a.map fun x=>x * (1 / a.getD k 0)) k=1:=by rw [hb]; exact Rat.mul_inv_cancel _ hy
  have hlow:∀ j,j<k→dv (a.map fun x=>x * (1 / a.getD k 0)) j=0:=fun j hj=>by rw [hb,hsp.2.1 j hj]; grind
  have hred:∀ i,red R (dv c) i=dv a k * dv (a.map fun x=>x * (1 / a.getD k 0)) i:=fun i=>by
    rw [← hav,hb]
    have:=Rat.mul_inv_cancel _ hy
    have e:dv a k * (dv a i * (dv a k)⁻¹)=dv a i * (dv a k * (dv a k)⁻¹):=by grind
    rw [e,this]; grind
  have hbl:(a.map fun x=>x * (1 / a.getD k 0)).length=n + 1:=by simpa using hal
  generalize (a.map fun x=>x * (1 / a.getD k 0))=b at *
  have h0:∀ r∈R,dv b r.p=0:=fun r hr=>by
    have h3:=hred r.p
    rw [red_lead hs.good _ hr] at h3
    rcases Rat.mul_eq_zero.1 h3.symm with h4 | h4
    · exact absurd h4 hy
    exact h4
  refine ⟨put R k (dv b),?_,hs.put hkn hy hred hone hlow,fun D d t hD hd ho=>?_⟩
  · have hmap:∀ {rs:List (List Rat)} {R:List Row},RepDs n rs R→(∀ r∈R,Lead n r)→(∀ r∈R,dv b r.p=0)→RepDs n (rs.map fun r=>if r.getD k 0=0 then r else lessD r b (r.getD k 0)) (R.map fun r=>⟨r.p,vsub r.v (dv b) (r.v k)⟩):=by
      intro rs R h
      induction h with
      | nil=>intro _ _; exact .nil
      | cons h2 h3 ih =>
        intro hl hz
        exact .cons (h2.less (hl _ (by simp)) hbl hone hlow (hz _ (by simp))) (ih (fun s hs=>hl s (by simp [hs])) (fun s hs=>hz s (by simp [hs])))
    refine (hmap hR hs.good.lead h0).append ⟨hbl,leadD_eq (p:=k) (by omega) (by rw [hone]; decide) hlow,rfl⟩
  have h5:=red_ov hs.good hlen hD.lt hD.ov ho;obtain ⟨D',h6⟩:=hD.put (k:=k) (Nat.mul_pos hD.pos hd) h5 hy hred hone
  have e:bnd t R.length + (t + bnd t R.length + 1) + 1=bnd t (R.length + 1):=by simp only [bnd]; omega
  rw [e] at h6
  rw [put_length]
  exact ⟨D',h6⟩
def PInv (n t:Nat) (L:List Vec) (rs:List (Ts × Rat)) (ok:Bool):Prop:=∃ R D,Reps n (t + bnd t n + 1) rs R∧Solved n L R ok∧Den D (bnd t R.length) R
def AInv (n t:Nat) (L:List Vec) (rs:List (List Rat)) (ok:Bool):Prop:=∃ R D,RepDs n rs R∧Solved n L R ok∧Den D (bnd t R.length) R
theorem PInv.nil (n t:Nat):PInv n t [] [] true:=⟨[],1,.nil,.nil n,Den.nil⟩
theorem AInv.nil (n t:Nat):AInv n t [] [] true:=⟨[],1,.nil,.nil n,Den.nil⟩
section
variable {n t d:Nat} {L M:List Vec} {ok ok':Bool} {R R':List Row}
theorem PInv.step {rs:List (Ts × Rat)} {c:Ts × Rat} (h:PInv n t L rs ok) (hn:n≤64) (hc:Nice c.1) (hb:Below n c.1) (hd:0<d) (hdt:d<4294967296 ^ t) (ho:Ov d t (cv n c.1 c.2)):PInv n t (L ++ [cv n c.1 c.2]) (laysT rs ok c).1 (laysT rs ok c).2:=by
  obtain ⟨R,D,h1,h2,h3⟩:=h
  obtain ⟨R',h4,h5,h6⟩:=laysT_step hn h1 h2 hc hb (fun f rest e=>by
    have h8:=left_fit (rs1:=rs) (rs2:=[]) (by have:=h2.rank_n; omega) (by rw [List.append_nil]; exact h1) h2.good h3 hc hb hd hdt ho
    rw [e] at h8
    have h9:=bnd_mono (t:=t) h2.rank_n
    exact (h8.1 f (by simp)).mono (by omega))
  obtain ⟨D',h7⟩:=h6 D d t h3 hd ho
  exact ⟨R',D',h4,h5,h7⟩
theorem AInv.step {rs:List (List Rat)} {c:List Rat} (h:AInv n t L rs ok) (hn:n≤64) (hc:c.length=n + 1) (hd:0<d) (ho:Ov d t (dv c)):AInv n t (L ++ [dv c]) (solveD n rs ok c).1 (solveD n rs ok c).2:=by
  obtain ⟨R,D,h1,h2,h3⟩:=h;obtain ⟨R',h4,h5,h6⟩:=solveD_step hn h1 h2 hc;obtain ⟨D',h7⟩:=h6 D d t h3 hd ho
  exact ⟨R',D',h4,h5,h7⟩
theorem PInv.rank {rs:List (Ts × Rat)} (h:PInv n t L rs ok):∃ R,Solved n L R ok∧rs.length=R.length:=by
  obtain ⟨R,D,h1,h2,_⟩:=h; exact ⟨R,h2,h1.length⟩
theorem AInv.rank {rs:List (List Rat)} (h:AInv n t L rs ok):∃ R,Solved n L R ok∧rs.length=R.length:=by
  obtain ⟨R,D,h1,h2,_⟩:=h; exact ⟨R,h2,h1.length⟩
theorem left_kv {S:Nat} {rs:List (Ts × Rat)} (hR:Reps n S rs R) (hg:Good n R) {c:Ts × Rat} (hc:Nice c.1) (hb:Below n c.1) (k:Rat):((leftT rs c).1=[]∧(leftT rs c).2=k)↔red R (cv n c.1 c.2)=kv n k:=by
  have h1:=leftT_cv hR hg.lead hc hb;have h2:=leftT_nice hR hc hb
  rw [← h1]
  generalize leftT rs c=e at *
  obtain ⟨el,ek⟩:=e
  simp only at h2 ⊢
  constructor
  · rintro ⟨rfl,rfl⟩; rw [cv_nil]
  intro h3
  have h4:el=[]:=h2.1.empty (fun i=>by
    rcases Nat.lt_or_ge i n with h5 | h5
    · have:=congrFun h3 i
      simp only [cv,kv] at this
      rwa [if_neg (by omega),if_neg (by omega)] at this
    exact coef_none (fun s hs=>by have:=h2.2 s hs; omega))
  refine ⟨h4,?_⟩
  have:=congrFun h3 n
  simpa [cv,kv] using this
theorem reduce_kv {rs:List (List Rat)} (hR:RepDs n rs R) {c:List Rat} (hc:c.length=n + 1) (k:Rat):(leadD (reduceD rs c)=n∧(reduceD rs c).getD n 0=k)↔red R (dv c)=kv n k:=by
  obtain ⟨h1,h2⟩:=reduceD_spec hR hc
  rw [← h2]
  generalize reduceD rs c=a at *
  have hsp:=leadD_spec (l:=a) (by intro e; rw [e] at h1; simp at h1)
  constructor
  · rintro ⟨h3,h4⟩
    funext i
    simp only [kv]
    split
    · rename_i e; rw [e]; exact h4
    rename_i e
    rcases Nat.lt_or_ge i n with h5 | h5
    · exact hsp.2.1 i (by omega)
    simp only [dv,List.getD_eq_getElem?_getD]; rw [List.getElem?_eq_none (by omega)]; rfl
  intro h3
  have h4:leadD a=n:=by
    rcases Nat.lt_or_ge (leadD a) n with h5 | h5
    · have h6:=hsp.2.2 (by omega)
      have h7:=congrFun h3 (leadD a)
      simp only [kv] at h7
      rw [if_neg (by omega)] at h7
      exact absurd h7 h6
    omega
  refine ⟨h4,?_⟩
  have:=congrFun h3 n
  simpa [dv,kv] using this
theorem PInv.imp {rs:List (Ts × Rat)} (h:PInv n t L rs true) {c:Ts × Rat} (hc:Nice c.1) (hb:Below n c.1):((leftT rs c).1=[]∧(leftT rs c).2=0)↔Sp L (cv n c.1 c.2):=by
  obtain ⟨R,D,h1,h2,_⟩:=h
  rw [left_kv h1 h2.good hc hb,kv_zero,h2.imp_iff]
theorem AInv.imp {rs:List (List Rat)} (h:AInv n t L rs true) {c:List Rat} (hc:c.length=n + 1):(leadD (reduceD rs c)=n∧(reduceD rs c).getD n 0=0)↔Sp L (dv c):=by
  obtain ⟨R,D,h1,h2,_⟩:=h
  rw [reduce_kv h1 hc,kv_zero,h2.imp_iff]
def fixD (n v:Nat):List (List Rat)→Option Rat
  | []=>none
  | r :: rs=>if leadD r=v then (if (List.range n).all (fun k=>decide (k≤v) || decide (r.getD k 0=0)) then some (-(r.getD n 0)) else none) else fixD n v rs
end
theorem lt_of_len {n s:Nat} (h:(toL n).length≤s):n<4294967296 ^ s:=by
  rcases Nat.lt_or_ge n (4294967296 ^ s) with h1 | h1
  · exact h1
  have:=toL_length_gt h1; omega
theorem mul_den_num (q:Rat):q * (q.den:Rat)=((q.num:Int):Rat):=by
  have h1:q=(q.num:Rat) / (q.den:Rat):=by
    have:=Rat.mkRat_self q
    rw [Rat.mkRat_eq_div] at this
    exact this.symm
  have h2:(q.den:Rat)≠0:=cast_ne q.den_pos
  calc q * (q.den:Rat)=(q.num:Rat) / (q.den:Rat) * (q.den:Rat):=by rw [← h1]
    _=(q.num:Rat):=by rw [Rat.div_def,Rat.mul_assoc,Rat.inv_mul_cancel _ h2,Rat.mul_one]
theorem ts_ov {s:Nat}:∀ (l:Ts),(∀ t∈l,Fit t.2 s)→∃ d,0<d∧d<4294967296 ^ (s * l.length + 1)∧Ov d (s * l.length + 1) (coef l)
  | [],_=>⟨1,by decide,by simp,fun i=>⟨0,by simp only [coef]; rw [Rat.zero_mul]; rfl,by simp⟩⟩
  | t :: l,h=>by
    obtain ⟨d,h1,h2,h3⟩:=ts_ov l (fun x hx=>h x (by simp [hx]));have hf:=h t (by simp);have ha:=lt_of_len hf.1;have hb:=lt_of_len hf.2
    have e:4294967296 ^ (s * (t :: l).length + 1)=4294967296 ^ s * 4294967296 ^ (s * l.length + 1):=by
      rw [← Nat.pow_add,List.length_cons,Nat.mul_add,Nat.mul_one]; congr 1; omega
    refine ⟨t.2.den * d,Nat.mul_pos t.2.den_pos h1,by rw [e]; exact Nat.mul_lt_mul'' hb h2,fun i=>?_⟩
    rw [e]
    simp only [coef]
    split
    · refine ⟨t.2.num * (d:Int),?_,?_⟩
      · rw [Rat.intCast_mul,← mul_den_num,Rat.natCast_mul,Rat.intCast_natCast]; grind
      rw [Int.natAbs_mul,Int.natAbs_natCast]; exact Nat.mul_lt_mul'' ha h2
    obtain ⟨z,h4,h5⟩:=h3 i
    refine ⟨(t.2.den:Int) * z,?_,?_⟩
    · rw [Rat.intCast_mul,← h4,Rat.natCast_mul,Rat.intCast_natCast]; grind
    rw [Int.natAbs_mul,Int.natAbs_natCast]; exact Nat.mul_lt_mul'' hb h5
theorem cv_ov {n s:Nat} {l:Ts} {k:Rat} (h:∀ t∈l,Fit t.2 s) (hk:Fit k s):∃ d,0<d∧d<4294967296 ^ (s * (l.length + 1) + 1)∧Ov d (s * (l.length + 1) + 1) (cv n l k):=by
  obtain ⟨d,h1,h2,h3⟩:=ts_ov l h;have ha:=lt_of_len hk.1;have hb:=lt_of_len hk.2
  have e:4294967296 ^ (s * (l.length + 1) + 1)=4294967296 ^ s * 4294967296 ^ (s * l.length + 1):=by
    rw [← Nat.pow_add,Nat.mul_add,Nat.mul_one]; congr 1; omega
  refine ⟨k.den * d,Nat.mul_pos k.den_pos h1,by rw [e]; exact Nat.mul_lt_mul'' hb h2,fun i=>?_⟩
  rw [e]
  simp only [cv]
  split
  · refine ⟨k.num * (d:Int),?_,?_⟩
    · rw [Rat.intCast_mul,← mul_den_num,Rat.natCast_mul,Rat.intCast_natCast]; grind
    rw [Int.natAbs_mul,Int.natAbs_natCast]; exact Nat.mul_lt_mul'' ha h2
  obtain ⟨z,h4,h5⟩:=h3 i
  refine ⟨(k.den:Int) * z,?_,?_⟩
  · rw [Rat.intCast_mul,← h4,Rat.natCast_mul,Rat.intCast_natCast]; grind
  rw [Int.natAbs_mul,Int.natAbs_natCast]; exact Nat.mul_lt_mul'' hb h5
theorem Ov.mono {D T T':Nat} {u:Vec} (h:Ov D T u) (hT:T≤T'):Ov D T' u:=fun i=>by
  obtain ⟨z,h1,h2⟩:=h i
  exact ⟨z,h1,Nat.lt_of_lt_of_le h2 (Nat.pow_le_pow_right (by decide) hT)⟩
def sumN:Nat→(Nat→Rat)→Rat
  | 0,_=>0
  | n + 1,f=>sumN n f + f n
def atv (n:Nat) (val:Nat→Rat) (u:Vec):Rat:=sumN n (fun i=>u i * val i) + u n
theorem sumN_add (n:Nat) (f g:Nat→Rat) (x:Rat):sumN n (fun i=>f i + x * g i)=sumN n f + x * sumN n g:=by
  induction n with
  | zero=>simp only [sumN]; grind
  | succ n ih=>simp only [sumN]; rw [ih]; grind
theorem sumN_congr {n:Nat} {f g:Nat→Rat} (h:∀ i,i<n→f i=g i):sumN n f=sumN n g:=by
  induction n with
  | zero=>rfl
  | succ n ih=>simp only [sumN]; rw [ih (fun i hi=>h i (by omega)),h n (by omega)]
theorem sumN_zero (n:Nat):sumN n (fun _=>0)=0:=by
  induction n with
  | zero=>rfl
  | succ n ih=>simp only [sumN]; rw [ih]; grind
theorem atv_add (n:Nat) (val:Nat→Rat) (u v:Vec) (x:Rat):atv n val (fun i=>u i + x * v i)=atv n val u + x * atv n val v:=by
  simp only [atv]
  have:sumN n (fun i=>(u i + x * v i) * val i)=sumN n (fun i=>u i * val i + x * (v i * val i)):=sumN_congr (fun i _=>by grind)
  rw [this,sumN_add]; grind
theorem atv_zero (n:Nat) (val:Nat→Rat):atv n val (fun _=>0)=0:=by
  simp only [atv]
  have:sumN n (fun i=>(0:Rat) * val i)=sumN n (fun _=>0):=sumN_congr (fun i _=>by grind)
  rw [this,sumN_zero]; grind
def atT (val:Nat→Rat):Ts→Rat→Rat
  | [],x=>x
  | t :: l,x=>atT val l (x + t.2 * val t.1)
theorem Sp.at_ {n:Nat} {L:List Vec} {val:Nat→Rat} (h:∀ v∈L,atv n val v=0) {u:Vec} (hu:Sp L u):atv n val u=0:=hu.all (φ:=atv n val) (atv_zero n val) (atv_add n val) h
theorem Sp.scaled {L:List Vec} {x:Rat} (hx:x≠0):(∀ v∈L,Sp (L.map fun v i=>x * v i) v)∧(∀ v∈L.map (fun v i=>x * v i),Sp L v):=by
  refine ⟨fun v hv=>?_,fun v hv=>?_⟩
  · have h1:Sp (L.map fun v i=>x * v i) (fun i=>x * v i):=.mem (List.mem_map.2 ⟨v,hv,rfl⟩)
    have h2:=h1.scale x⁻¹
    have e:(fun i=>x⁻¹ * (x * v i))=v:=by funext i; rw [← Rat.mul_assoc,Rat.inv_mul_cancel _ hx,Rat.one_mul]
    rwa [e] at h2
  obtain ⟨u,hu,rfl⟩:=List.mem_map.1 hv
  exact (Sp.mem hu).scale x
end Go.Proofs.YtombbkdnehhonaaGreat
end
section
namespace Go.Proofs.YtombbkdnehhonaaGreat
open Go.RowKit
set_option linter.unusedVariables false
set_option linter.unusedSimpArgs false
def rdP:Rd Rat where
  size:=3
  pos:=by decide
  rd:=fun M w cs q=>∃ A a B b,cs=[.bool (decide (q.num<0)),.slice A (toL q.num.natAbs).length a,.slice B (toL q.den).length b]∧U32 M w (.slice A (toL q.num.natAbs).length a) (toL q.num.natAbs)∧U32 M w (.slice B (toL q.den).length b) (toL q.den)
  len:=fun ⟨_,_,_,_,h,_⟩=>by rw [h]; rfl
  mod:=fun ⟨A,a,B,b,h,h1,h2⟩ hm hg=>⟨A,a,B,b,h,h1.mod hm hg,h2.mod hm hg⟩
  sub:=fun ⟨A,a,B,b,h,h1,h2⟩ hM=>⟨A,a,B,b,h,h1.sub hM,h2.sub hM⟩
  more:=fun ⟨A,a,B,b,h,h1,h2⟩ hg=>⟨A,a,B,b,h,h1.more hg,h2.more hg⟩
  one:=fun ⟨_,_,_,_,h,_⟩=>by rw [h]; simp [Value.oneCell']
def rdN:Rd (Nat × Rat) where
  size:=4
  pos:=by decide
  rd:=fun M w cs t=>∃ A a B b,cs=[.int .i64 (t.1:Int),.bool (decide (t.2.num<0)),.slice A (toL t.2.num.natAbs).length a,.slice B (toL t.2.den).length b]∧U32 M w (.slice A (toL t.2.num.natAbs).length a) (toL t.2.num.natAbs)∧U32 M w (.slice B (toL t.2.den).length b) (toL t.2.den)
  len:=fun ⟨_,_,_,_,h,_⟩=>by rw [h]; rfl
  mod:=fun ⟨A,a,B,b,h,h1,h2⟩ hm hg=>⟨A,a,B,b,h,h1.mod hm hg,h2.mod hm hg⟩
  sub:=fun ⟨A,a,B,b,h,h1,h2⟩ hM=>⟨A,a,B,b,h,h1.sub hM,h2.sub hM⟩
  more:=fun ⟨A,a,B,b,h,h1,h2⟩ hg=>⟨A,a,B,b,h,h1.more hg,h2.more hg⟩
  one:=fun ⟨_,_,_,_,h,_⟩=>by rw [h]; simp [Value.oneCell']
def rdK:Rd (Ts × Rat) where
  size:=5
  pos:=by decide
  rd:=fun M w cs c=>∃ st T t A a B b,cs=[.int .i64 st,.slice T c.1.length t,.bool (decide (c.2.num<0)),.slice A (toL c.2.num.natAbs).length a,.slice B (toL c.2.den).length b]∧Lay rdN M w (.slice T c.1.length t) c.1∧U32 M w (.slice A (toL c.2.num.natAbs).length a) (toL c.2.num.natAbs)∧U32 M w (.slice B (toL c.2.den).length b) (toL c.2.den)
  len:=fun ⟨_,_,_,_,_,_,_,h,_⟩=>by rw [h]; rfl
  mod:=fun ⟨s,T,t,A,a,B,b,h,h0,h1,h2⟩ hm hg=>⟨s,T,t,A,a,B,b,h,h0.mod hm hg,h1.mod hm hg,h2.mod hm hg⟩
  sub:=fun ⟨s,T,t,A,a,B,b,h,h0,h1,h2⟩ hM=>⟨s,T,t,A,a,B,b,h,h0.sub hM,h1.sub hM,h2.sub hM⟩
  more:=fun ⟨s,T,t,A,a,B,b,h,h0,h1,h2⟩ hg=>⟨s,T,t,A,a,B,b,h,h0.more hg,h1.more hg,h2.more hg⟩
  one:=fun ⟨_,_,_,_,_,_,_,h,_⟩=>by rw [h]; simp [Value.oneCell']
def RK (M:List Nat) (w:World) (v:Value) (l:Ts) (k:Rat):Prop:=∃ st T t A a B b,v=.agg #[.int .i64 st,.slice T l.length t,.bool (decide (k.num<0)),.slice A (toL k.num.natAbs).length a,.slice B (toL k.den).length b]∧Lay rdN M w (.slice T l.length t) l∧U32 M w (.slice A (toL k.num.natAbs).length a) (toL k.num.natAbs)∧U32 M w (.slice B (toL k.den).length b) (toL k.den)
section
variable {M M' G:List Nat} {w w':World} {v:Value} {l:Ts} {k q:Rat}
theorem RK.gr (h:RK M w v l k) (hm:Mod [] w w'):RK M w' v l k:=let ⟨s,T,t,A,a,B,b,h,h0,h1,h2⟩:=h; ⟨s,T,t,A,a,B,b,h,h0.gr hm,h1.gr hm,h2.gr hm⟩
theorem RK.sub (h:RK M w v l k) (hM:∀ g∈M',g∈M):RK M' w v l k:=let ⟨s,T,t,A,a,B,b,h,h0,h1,h2⟩:=h; ⟨s,T,t,A,a,B,b,h,h0.sub hM,h1.sub hM,h2.sub hM⟩
theorem RN.gr (h:RN M w v q) (hm:Mod [] w w'):RN M w' v q:=let ⟨A,c,B,d,h,h1,h2⟩:=h; ⟨A,c,B,d,h,h1.gr hm,h2.gr hm⟩
end
theorem rdP_of {M:List Nat} {w:World} {cs:List Value} {q:QR} (h:rdQ.rd M w cs q) (hq:q.is=true):rdP.rd M w cs q.val:=by
  obtain ⟨vn,vd,rfl,h1,h2⟩:=h;have e:=QR.is_nf hq
  generalize q.val=x at *
  subst e
  obtain ⟨A,a,rfl⟩:=h1.form;obtain ⟨B,b,rfl⟩:=h2.form
  exact ⟨A,a,B,b,rfl,h1,h2⟩
def tv (t:TR):Nat × Rat:=(t.v.toNat,t.c.val)
end Go.Proofs.YtombbkdnehhonaaGreat
end
