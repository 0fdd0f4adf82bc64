/- Equations at once: rows with a lead of their own, spans, sizes, sums as sorted terms. Nothing of a program in sight. -/
import Derived.Test.YthoooolflmbmbaaGreatRatb
namespace Go.Proofs.YthoooolflmbmbaaGreat
set_option linter.unusedVariables false
set_option linter.unusedSimpArgs false
abbrev Vec:=Nat→Rat
def vsub (a b:Vec) (x:Rat):Vec:=fun i=>a i - x * b i
structure Row where
  p:Nat
  v:Vec
def red:List Row→Vec→Vec
  | [],a=>a
  | r :: l,a=>red l (vsub a r.v (a r.p))
def rcomb:List Row→Vec→Vec
  | [],_=>fun _=>0
  | r :: l,a=>fun i=>a r.p * r.v i + rcomb l a i
structure Lead (n:Nat) (r:Row):Prop where
  lt:r.p<n
  one:r.v r.p=1
  low:∀ j,j<r.p→r.v j=0
structure Good (n:Nat) (rows:List Row):Prop where
  lead:∀ r∈rows,Lead n r
  apart:rows.Pairwise fun r s=>r.v s.p=0∧s.v r.p=0
theorem Good.tail {n:Nat} {r:Row} {l:List Row} (h:Good n (r :: l)):Good n l:=⟨fun s hs=>h.lead s (by simp [hs]),(List.pairwise_cons.1 h.apart).2⟩
theorem Good.nil (n:Nat):Good n []:=⟨fun r h=>(by cases h),List.Pairwise.nil⟩
theorem comb_congr:∀ {l:List Row} {a b:Vec},(∀ r∈l,a r.p=b r.p)→rcomb l a=rcomb l b
  | [],_,_,_=>rfl
  | r :: l,a,b,h=>by
    funext i
    simp only [rcomb]
    rw [h r (by simp),comb_congr (fun s hs=>h s (by simp [hs]))]
theorem red_eq {n:Nat}:∀ {l:List Row} (h:Good n l) (a:Vec),red l a=fun i=>a i - rcomb l a i
  | [],_,a=>by funext i; simp [red,rcomb]; grind
  | r :: l,h,a=>by
    funext i
    have hp:=(List.pairwise_cons.1 h.apart).1
    have hc:rcomb l (vsub a r.v (a r.p))=rcomb l a:=comb_congr (fun s hs=>by simp only [vsub]; rw [(hp s hs).1]; grind)
    simp only [red,rcomb]
    rw [red_eq h.tail,hc]
    simp only [vsub]
    grind
theorem comb_lead {n:Nat}:∀ {l:List Row} (h:Good n l) (a:Vec) {s:Row},s∈l→rcomb l a s.p=a s.p
  | r :: l,h,a,s,hs=>by
    have hp:=(List.pairwise_cons.1 h.apart).1
    simp only [rcomb]
    rcases List.mem_cons.1 hs with rfl | h1
    · have:rcomb l a s.p=0:=by
        clear hs
        induction l with
        | nil=>rfl
        | cons t l ih =>
          simp only [rcomb]
          have hg:Good n (s :: l):=⟨fun x hx=>h.lead x (by rcases List.mem_cons.1 hx with rfl | h2 <;> simp [*]),by
            have:=h.apart
            simp only [List.pairwise_cons,List.mem_cons] at this ⊢
            exact ⟨fun x hx=>this.1 x (.inr hx),this.2.2⟩⟩
          rw [(hp t (by simp)).2,ih hg (fun x hx=>hp x (by simp [hx]))]
          grind
      rw [this,(h.lead s (by simp)).one]; grind
    rw [comb_lead h.tail a h1,(hp s h1).1]; grind
theorem red_lead {n:Nat} {l:List Row} (h:Good n l) (a:Vec) {s:Row} (hs:s∈l):red l a s.p=0:=by
  rw [red_eq h]; simp only; rw [comb_lead h a hs]; grind
def put (l:List Row) (k:Nat) (a:Vec):List Row:=l.map (fun r=>⟨r.p,vsub r.v a (r.v k)⟩) ++ [⟨k,a⟩]
theorem Good.put {n:Nat} {l:List Row} (h:Good n l) {k:Nat} {a:Vec} (hk:k<n) (h1:a k=1) (h2:∀ j,j<k→a j=0) (h0:∀ r∈l,a r.p=0):Good n (put l k a):=by
  have hne:∀ r∈l,r.p≠k:=fun r hr e=>by have:=h0 r hr; rw [e,h1] at this; grind
  refine ⟨fun r hr=>?_,?_⟩
  · rcases List.mem_append.1 hr with h3 | h3
    · obtain ⟨s,hs,rfl⟩:=List.mem_map.1 h3
      have hl:=h.lead s hs
      refine ⟨hl.lt,?_,fun j hj=>?_⟩
      · simp only [vsub]; rw [hl.one,h0 s hs]; grind
      simp only [vsub]
      have hj':j<s.p:=hj
      rw [hl.low j hj']
      rcases Nat.lt_or_ge j k with h4 | h4
      · rw [h2 j h4]; grind
      rw [hl.low k (Nat.lt_of_le_of_lt h4 hj')]; grind
    simp only [List.mem_singleton] at h3; subst h3
    exact ⟨hk,h1,h2⟩
  rw [Go.Proofs.YthoooolflmbmbaaGreat.put,List.pairwise_append]
  refine ⟨?_,by simp,fun r hr s hs=>?_⟩
  · rw [List.pairwise_map]
    refine h.apart.imp_of_mem (fun {r s} hr hs hrs=>?_)
    simp only [vsub]
    rw [hrs.1,hrs.2,h0 r hr,h0 s hs]; grind
  simp only [List.mem_singleton] at hs; subst hs
  obtain ⟨t,ht,rfl⟩:=List.mem_map.1 hr
  simp only [vsub]
  rw [h1,h0 t ht]; grind
inductive Sp (L:List Vec):Vec→Prop
  | zero:Sp L (fun _=>0)
  | add {u v:Vec} (x:Rat):Sp L u→v∈L→Sp L (fun i=>u i + x * v i)
theorem Sp.mem {L:List Vec} {v:Vec} (h:v∈L):Sp L v:=by
  have:=Sp.add (L:=L) 1 .zero h
  have e:(fun i=>(0:Rat) + 1 * v i)=v:=by funext i; grind
  simpa only [e] using this
theorem Sp.plus {L:List Vec} {u v:Vec} (x:Rat) (hu:Sp L u) (hv:Sp L v):Sp L (fun i=>u i + x * v i):=by
  induction hv with
  | zero => have e : (fun i => u i + x * (0 : Rat)) = u := by funext i; grind
            simpa only [e] using hu
  | add y hv hm ih =>
    rename_i v w
    have:=Sp.add (x * y) ih hm
    have e:(fun i=>u i + x * v i + x * y * w i)=(fun i=>u i + x * (v i + y * w i)):=by funext i; grind
    simpa only [e] using this
theorem Sp.scale {L:List Vec} {v:Vec} (x:Rat) (hv:Sp L v):Sp L (fun i=>x * v i):=by
  have:=Sp.plus x .zero hv
  have e:(fun i=>(0:Rat) + x * v i)=(fun i=>x * v i):=by funext i; grind
  simpa only [e] using this
theorem Sp.sub {L:List Vec} {u v:Vec} (x:Rat) (hu:Sp L u) (hv:Sp L v):Sp L (vsub u v x):=by
  have:=Sp.plus (-x) hu hv
  have e:(fun i=>u i + -x * v i)=vsub u v x:=by funext i; simp only [vsub]; grind
  simpa only [e] using this
theorem Sp.trans {L M:List Vec} {u:Vec} (h:∀ v∈L,Sp M v) (hu:Sp L u):Sp M u:=by
  induction hu with
  | zero=>exact .zero
  | add x hu hv ih=>exact ih.plus x (h _ hv)
theorem Sp.mono {L M:List Vec} {u:Vec} (h:∀ v∈L,v∈M) (hu:Sp L u):Sp M u:=hu.trans (fun v hv=>.mem (h v hv))
theorem Sp.all {L:List Vec} {φ:Vec→Rat} (h0:φ (fun _=>0)=0) (ha:∀ u v x,φ (fun i=>u i + x * v i)=φ u + x * φ v) (h:∀ v∈L,φ v=0) {u:Vec} (hu:Sp L u):φ u=0:=by
  induction hu with
  | zero=>exact h0
  | add x hu hv ih=>rw [ha,ih,h _ hv]; grind
theorem Sp.rcomb {M:List Vec} {a:Vec}:∀ {l:List Row},(∀ r∈l,Sp M r.v)→Sp M (rcomb l a)
  | [],_=>.zero
  | r :: l,h=>by
    have:=Sp.plus (a r.p) (Sp.rcomb (l:=l) (a:=a) (fun s hs=>h s (by simp [hs]))) (h r (by simp))
    have e:(fun i=>Go.Proofs.YthoooolflmbmbaaGreat.rcomb l a i + a r.p * r.v i)=Go.Proofs.YthoooolflmbmbaaGreat.rcomb (r :: l) a:=by funext i; simp only [Go.Proofs.YthoooolflmbmbaaGreat.rcomb]; grind
    simpa only [e] using this
theorem Sp.red {n:Nat} {M:List Vec} {a:Vec} {l:List Row} (hg:Good n l) (h:∀ r∈l,Sp M r.v) (ha:Sp M a):Sp M (red l a):=by
  rw [red_eq hg]
  have:=Sp.sub 1 ha (Sp.rcomb (a:=a) h)
  have e:vsub a (Go.Proofs.YthoooolflmbmbaaGreat.rcomb l a) 1=fun i=>a i - Go.Proofs.YthoooolflmbmbaaGreat.rcomb l a i:=by funext i; simp only [vsub]; grind
  simpa only [e] using this
theorem Sp.unred {n:Nat} {M:List Vec} {a:Vec} {l:List Row} (hg:Good n l) (h:∀ r∈l,Sp M r.v) (ha:Sp M (Go.Proofs.YthoooolflmbmbaaGreat.red l a)):Sp M a:=by
  have:=Sp.plus 1 ha (Sp.rcomb (a:=a) h)
  have e:(fun i=>Go.Proofs.YthoooolflmbmbaaGreat.red l a i + 1 * Go.Proofs.YthoooolflmbmbaaGreat.rcomb l a i)=a:=by funext i; rw [red_eq hg]; grind
  simpa only [e] using this
theorem red_add {n:Nat} {l:List Row} (hg:Good n l) (u v:Vec) (x:Rat):red l (fun i=>u i + x * v i)=fun i=>red l u i + x * red l v i:=by
  have hc:∀ {l:List Row},rcomb l (fun i=>u i + x * v i)=fun i=>rcomb l u i + x * rcomb l v i:=by
    intro l
    induction l with
    | nil=>funext i; simp only [rcomb]; grind
    | cons r l ih=>funext i; simp only [rcomb]; rw [ih]; grind
  rw [red_eq hg,red_eq hg,red_eq hg,hc]
  funext i; grind
theorem red_zero {n:Nat} {l:List Row} (hg:Good n l):red l (fun _=>0)=fun _=>0:=by
  have hc:∀ {l:List Row},rcomb l (fun _=>0)=fun _=>0:=by
    intro l
    induction l with
    | nil=>rfl
    | cons r l ih=>funext i; simp only [rcomb]; rw [ih]; grind
  rw [red_eq hg,hc]; funext i; grind
def kv (n:Nat) (k:Rat):Vec:=fun i=>if i=n then k else 0
structure Solved (n:Nat) (L:List Vec) (rows:List Row) (ok:Bool):Prop where
  good:Good n rows
  sub:∀ r∈rows,Sp L r.v
  left:∀ v∈L,∃ k,red rows v=kv n k∧(ok=true→k=0)
  bad:ok=false→∃ k,k≠0∧Sp L (kv n k)
theorem Solved.nil (n:Nat):Solved n [] [] true:=⟨Good.nil n,by simp,by simp,by simp⟩
theorem kv_zero (n:Nat):kv n 0=fun _=>0:=by funext i; simp [kv]
theorem kv_add (n:Nat) (k x y:Rat):(fun i=>kv n k i + x * kv n y i)=kv n (k + x * y):=by funext i; simp only [kv]; split <;> grind
section
variable {n:Nat} {L:List Vec} {rows:List Row} {ok:Bool}
theorem Solved.all (h:Solved n L rows ok) {u:Vec} (hu:Sp L u):∃ k,red rows u=kv n k∧(ok=true→k=0):=by
  induction hu with
  | zero=>exact ⟨0,by rw [red_zero h.good,kv_zero],fun _=>rfl⟩
  | add x hu hv ih =>
    obtain ⟨k,h1,h2⟩:=ih;obtain ⟨y,h3,h4⟩:=h.left _ hv
    exact ⟨k + x * y,by rw [red_add h.good,h1,h3,kv_add],fun e=>by rw [h2 e,h4 e]; grind⟩
theorem Solved.ok_iff (h:Solved n L rows ok):ok=true↔∀ k,Sp L (kv n k)→k=0:=by
  constructor
  · intro e k hk
    obtain ⟨y,h1,h2⟩:=h.all hk
    have h3:red rows (kv n k)=kv n k:=by
      rw [red_eq h.good]
      have:rcomb rows (kv n k)=fun _=>0:=by
        have h5:rcomb rows (kv n k)=rcomb rows (fun _=>0):=comb_congr (fun r hr=>by
          have:=(h.good.lead r hr).lt
          simp only [kv]; rw [if_neg (by omega)])
        rw [h5]
        have h0:∀ (l:List Row) i,rcomb l (fun _=>0) i=0:=by
          intro l i
          induction l with
          | nil=>rfl
          | cons t l ih2=>simp only [rcomb]; rw [ih2]; grind
        funext i; rw [h0]
      rw [this]; funext i; grind
    rw [h3,h2 e] at h1
    have:=congrFun h1 n
    simpa [kv] using this
  intro hk
  cases ok with
  | true=>rfl
  | false =>
    obtain ⟨k,h1,h2⟩:=h.bad rfl
    exact absurd (hk k h2) h1
theorem Solved.imp_iff (h:Solved n L rows true) (c:Vec):red rows c=(fun _=>0)↔Sp L c:=by
  constructor
  · intro e
    exact Sp.unred h.good h.sub (by rw [e]; exact .zero)
  intro hc
  obtain ⟨k,h1,h2⟩:=h.all hc
  rw [h1,h2 rfl,kv_zero]
theorem Solved.put (h:Solved n L rows ok) {c a:Vec} {k:Nat} {y:Rat} (hk:k<n) (hy:y≠0) (ha:∀ i,red rows c i=y * a i) (h1:a k=1) (h2:∀ j,j<k→a j=0):Solved n (L ++ [c]) (Go.Proofs.YthoooolflmbmbaaGreat.put rows k a) ok:=by
  have h0:∀ r∈rows,a r.p=0:=fun r hr=>by
    have h3:=ha r.p
    rw [red_lead h.good c hr] at h3
    rcases Rat.mul_eq_zero.1 h3.symm with h4 | h4
    · exact absurd h4 hy
    exact h4
  have hg:=h.good.put hk h1 h2 h0
  have hm:∀ r∈rows,Sp (L ++ [c]) r.v:=fun r hr=>(h.sub r hr).mono (fun v hv=>by simp [hv])
  have hra:Sp (L ++ [c]) a:=by
    have h3:Sp (L ++ [c]) (red rows c):=Sp.red h.good hm (.mem (by simp))
    have h4:=h3.scale y⁻¹
    have e:(fun i=>y⁻¹ * red rows c i)=a:=by
      funext i
      rw [ha i,← Rat.mul_assoc,Rat.inv_mul_cancel _ hy,Rat.one_mul]
    rwa [e] at h4
  have hred:∀ v,red (Go.Proofs.YthoooolflmbmbaaGreat.put rows k a) v=fun i=>red rows v i - red rows v k * a i:=by
    intro v
    rw [red_eq hg,red_eq h.good]
    have hc:∀ (l:List Row),rcomb (Go.Proofs.YthoooolflmbmbaaGreat.put l k a) v=fun i=>rcomb l v i + (v k - rcomb l v k) * a i:=by
      intro l
      induction l with
      | nil=>funext i; simp only [Go.Proofs.YthoooolflmbmbaaGreat.put,List.map_nil,List.nil_append,rcomb]; grind
      | cons r l ih =>
        have e:Go.Proofs.YthoooolflmbmbaaGreat.put (r :: l) k a=⟨r.p,vsub r.v a (r.v k)⟩ :: Go.Proofs.YthoooolflmbmbaaGreat.put l k a:=rfl
        rw [e]
        funext i
        simp only [rcomb]
        rw [ih]
        simp only [vsub]; grind
    rw [hc]; funext i; grind
  refine ⟨hg,fun r hr=>?_,fun v hv=>?_,fun e=>?_⟩
  · rcases List.mem_append.1 hr with h3 | h3
    · obtain ⟨s,hs,rfl⟩:=List.mem_map.1 h3
      exact Sp.sub _ (hm s hs) hra
    simp only [List.mem_singleton] at h3; subst h3; exact hra
  · rcases List.mem_append.1 hv with h3 | h3
    · obtain ⟨x,h4,h5⟩:=h.left v h3
      refine ⟨x,?_,h5⟩
      rw [hred,h4]
      have:kv n x k=0:=by simp only [kv]; rw [if_neg (by omega)]
      funext i; rw [this]; grind
    simp only [List.mem_singleton] at h3; subst h3
    refine ⟨0,?_,fun _=>rfl⟩
    rw [hred,kv_zero]
    funext i
    rw [ha i,ha k,h1]; grind
  obtain ⟨x,h3,h4⟩:=h.bad e
  exact ⟨x,h3,h4.mono (fun v hv=>by simp [hv])⟩
theorem Solved.same (h:Solved n L rows ok) {c:Vec} {k:Rat} (hc:red rows c=kv n k):Solved n (L ++ [c]) rows (ok && decide (k=0)):=by
  have hm:∀ r∈rows,Sp (L ++ [c]) r.v:=fun r hr=>(h.sub r hr).mono (fun v hv=>by simp [hv])
  refine ⟨h.good,hm,fun v hv=>?_,fun e=>?_⟩
  · rcases List.mem_append.1 hv with h3 | h3
    · obtain ⟨x,h4,h5⟩:=h.left v h3
      exact ⟨x,h4,fun e=>h5 (by simp only [Bool.and_eq_true] at e; exact e.1)⟩
    simp only [List.mem_singleton] at h3; subst h3
    exact ⟨k,hc,fun e=>by simp only [Bool.and_eq_true,decide_eq_true_eq] at e; exact e.2⟩
  simp only [Bool.and_eq_false_iff,decide_eq_false_iff_not] at e
  rcases e with e | e
  · obtain ⟨x,h3,h4⟩:=h.bad e
    exact ⟨x,h3,h4.mono (fun v hv=>by simp [hv])⟩
  refine ⟨k,e,?_⟩
  rw [← hc]
  exact Sp.red h.good hm (.mem (by simp))
theorem Good.nodup (h:Good n rows):(rows.map (·.p)).Nodup:=by
  rw [List.Nodup,List.pairwise_map]
  refine h.apart.imp_of_mem (fun {r s} hr hs hrs e=>?_)
  have h1:=(h.lead s hs).one
  rw [← e] at h1
  rw [hrs.2] at h1
  exact absurd h1 (by decide)
theorem nodup_le:∀ {xs ys:List Nat},xs.Nodup→(∀ x∈xs,x∈ys)→xs.length≤ys.length
  | [],_,_,_=>by simp
  | x :: xs,ys,h,hs=>by
    obtain ⟨h1,h2⟩:=List.nodup_cons.1 h;have hx:=hs x (by simp)
    have:=nodup_le (ys:=ys.erase x) h2 (fun z hz=>(List.mem_erase_of_ne (by intro e; subst e; exact h1 hz)).2 (hs z (by simp [hz])))
    rw [List.length_erase_of_mem hx] at this
    have h3:0<ys.length:=List.length_pos_of_mem hx
    simp only [List.length_cons]; omega
theorem Solved.rank_n (h:Solved n L rows ok):rows.length≤n:=by
  have:=nodup_le (xs:=rows.map (·.p)) (ys:=List.range n) h.good.nodup (fun p hp=>by
    obtain ⟨r,hr,e⟩:=List.mem_map.1 hp
    have:=(h.good.lead r hr).lt
    simp only [List.mem_range]; omega)
  simpa using this
end
def ev1 (v:Nat):Vec:=fun i=>if i=v then 1 else 0
section
variable {n:Nat} {L:List Vec} {rows:List Row} {ok:Bool}
end
def Ov (D T:Nat) (u:Vec):Prop:=∀ i,∃ z:Int,u i * (D:Rat)=(z:Rat)∧z.natAbs<4294967296 ^ T
theorem cast_ne {D:Nat} (hD:0<D):(D:Rat)≠0:=fun e=>by
  have:(D:Rat)=((0:Nat):Rat):=e
  have:=Rat.natCast_inj.1 this
  omega
theorem of_ov {q:Rat} {D:Nat} {z:Int} (h:q * (D:Rat)=(z:Rat)) (hD:0<D):q=mkRat z D:=by
  rw [Rat.mkRat_eq_div,← h,Rat.div_def,Rat.mul_assoc,Rat.mul_inv_cancel _ (cast_ne hD),Rat.mul_one]
theorem Fit.ov {q:Rat} {D T:Nat} {z:Int} (h:q * (D:Rat)=(z:Rat)) (hD:0<D) (h1:D<4294967296 ^ T) (h2:z.natAbs<4294967296 ^ T):Fit q T:=by
  rw [of_ov h hD]
  exact ⟨Nat.le_trans (toL_len_mono (mkRat_num_le _ _)) (toL_length_le h2),Nat.le_trans (toL_len_mono (mkRat_den_le _ (by omega))) (toL_length_le h1)⟩
structure Den (D T:Nat) (rows:List Row):Prop where
  pos:0<D
  lt:D<4294967296 ^ T
  ov:∀ r∈rows,Ov D T r.v
def bnd (t:Nat):Nat→Nat
  | 0=>1
  | k + 1=>2 * bnd t k + t + 2
theorem bnd_mono {t:Nat}:∀ {k j:Nat},k≤j→bnd t k≤bnd t j
  | k, 0, h => by have : k = 0 := by omega
                  rw [this]; exact Nat.le_refl _
  | k,j + 1,h=>by
    rcases Nat.lt_or_ge j k with h1 | h1
    · have:k=j + 1:=by omega
      rw [this]; exact Nat.le_refl _
    have:=bnd_mono (t:=t) h1
    simp only [bnd]; omega
theorem bnd_12 {t k:Nat} (h:k≤12):bnd t k≤4096 * (t + 3):=by
  have h1:=bnd_mono (t:=t) h
  simp only [bnd] at h1; omega
theorem put_length (l:List Row) (k:Nat) (a:Vec):(put l k a).length=l.length + 1:=by simp [put]
theorem Den.nil:Den 1 1 []:=⟨by decide,by decide,by simp⟩
section
variable {D T d t:Nat}
theorem comb_ov {c:Vec} (hc:Ov d t c):∀ {l:List Row},(∀ r∈l,Ov D T r.v)→∀ i,∃ z:Int,rcomb l c i * ((D * d:Nat):Rat)=(z:Rat)∧z.natAbs≤l.length * (4294967296 ^ t * 4294967296 ^ T)
  | [],_,i=>⟨0,by simp only [rcomb]; rw [Rat.zero_mul]; rfl,by simp⟩
  | r :: l,h,i=>by
    obtain ⟨z,h1,h2⟩:=comb_ov hc (l:=l) (fun s hs=>h s (by simp [hs])) i;obtain ⟨x,h3,h4⟩:=hc r.p;obtain ⟨y,h5,h6⟩:=h r (by simp) i
    refine ⟨x * y + z,?_,?_⟩
    · simp only [rcomb]
      rw [Rat.intCast_add,Rat.intCast_mul,← h1,← h3,← h5,Rat.natCast_mul]; grind
    refine Nat.le_trans (Int.natAbs_add_le _ _) ?_
    rw [Int.natAbs_mul,List.length_cons,Nat.add_mul,Nat.one_mul,Nat.add_comm (l.length * _)]
    exact Nat.add_le_add (Nat.mul_le_mul (by omega) (by omega)) h2
theorem red_ov {n:Nat} {l:List Row} {c:Vec} (hg:Good n l) (hl:l.length<4294967295) (hD:D<4294967296 ^ T) (h:∀ r∈l,Ov D T r.v) (hc:Ov d t c):Ov (D * d) (t + T + 1) (red l c):=fun i=>by
  obtain ⟨z,h1,h2⟩:=comb_ov hc h i;obtain ⟨x,h3,h4⟩:=hc i
  refine ⟨x * (D:Int) - z,?_,?_⟩
  · rw [red_eq hg,Rat.intCast_sub,Rat.intCast_mul,← h1,← h3,Rat.natCast_mul,Rat.intCast_natCast]; grind
  have h5:(x * (D:Int)).natAbs≤4294967296 ^ t * 4294967296 ^ T:=by
    rw [Int.natAbs_mul,Int.natAbs_natCast]; exact Nat.mul_le_mul (by omega) (by omega)
  have h6:=Int.natAbs_sub_le (x * (D:Int)) z
  have h7:4294967296 ^ (t + T + 1)=4294967296 ^ t * 4294967296 ^ T * 4294967296:=by rw [Nat.pow_succ,Nat.pow_add]
  have h8:0<4294967296 ^ t * 4294967296 ^ T:=Nat.mul_pos (Nat.pow_pos (by decide)) (Nat.pow_pos (by decide))
  rw [h7]
  generalize 4294967296 ^ t * 4294967296 ^ T=K at *
  have h9:(l.length + 1) * K<4294967296 * K:=Nat.mul_lt_mul_of_pos_right (by omega) h8
  rw [Nat.add_mul] at h9
  omega
theorem Den.put {E S k:Nat} {l:List Row} {c a:Vec} {y:Rat} (h:Den D T l) (hE:0<E) (hS:Ov E S (red l c)) (hy:y≠0) (ha:∀ i,red l c i=y * a i) (h1:a k=1):∃ D',Den D' (T + S + 1) (put l k a):=by
  obtain ⟨wk,h2,h3⟩:=hS k
  have hwk:wk≠0:=fun e=>by
    rw [ha k,h1,e] at h2
    have h2:y * 1 * (E:Rat)=0:=h2
    rw [Rat.mul_one] at h2
    rcases Rat.mul_eq_zero.1 h2 with h4 | h4
    · exact hy h4
    exact cast_ne hE h4
  have hm:0<wk.natAbs:=by omega
  have hx:∀ i,∃ x:Int,a i * ((wk.natAbs:Nat):Rat)=(x:Rat)∧x.natAbs<4294967296 ^ S:=fun i=>by
    obtain ⟨wi,h4,h5⟩:=hS i
    have h6:a i * (wk:Rat)=(wi:Rat):=by
      rw [← h2,← h4,ha i,ha k,h1]; grind
    rcases Int.natAbs_eq wk with e | e
    · refine ⟨wi,?_,h5⟩
      rw [← h6]; congr 1
      rw [← Rat.intCast_natCast,← e]
    refine ⟨-wi,?_,by rw [Int.natAbs_neg]; exact h5⟩
    have e2:((wk.natAbs:Nat):Rat)=-(wk:Rat):=by
      rw [← Rat.intCast_natCast,← Rat.intCast_neg]; congr 1; omega
    rw [e2,Rat.intCast_neg,← h6]; grind
  have hp:∀ x y:Nat,x<4294967296 ^ T→y<4294967296 ^ S→x * y<4294967296 ^ T * 4294967296 ^ S:=fun x y hx hy=>Nat.mul_lt_mul'' hx hy
  have h7:4294967296 ^ (T + S + 1)=4294967296 ^ T * 4294967296 ^ S * 4294967296:=by rw [Nat.pow_succ,Nat.pow_add]
  refine ⟨D * wk.natAbs,Nat.mul_pos h.pos hm,?_,fun r hr i=>?_⟩
  · have:=hp D wk.natAbs h.lt h3
    rw [h7]; omega
  obtain ⟨x,hx1,hx2⟩:=hx i
  rcases List.mem_append.1 hr with h8 | h8
  · obtain ⟨s,hs,rfl⟩:=List.mem_map.1 h8
    obtain ⟨z,P1,P2⟩:=h.ov s hs i;obtain ⟨u,hu1,hu2⟩:=h.ov s hs k
    refine ⟨z * (wk.natAbs:Int) - u * x,?_,?_⟩
    · simp only [vsub]
      rw [Rat.intCast_sub,Rat.intCast_mul,Rat.intCast_mul,← P1,← hu1,← hx1,Rat.natCast_mul,Rat.intCast_natCast]; grind
    have h9:=Int.natAbs_sub_le (z * (wk.natAbs:Int)) (u * x)
    rw [Int.natAbs_mul,Int.natAbs_mul,Int.natAbs_natCast] at h9
    have ha:=hp _ _ P2 h3;have hb:=hp _ _ hu2 hx2
    rw [h7]; omega
  simp only [List.mem_singleton] at h8; subst h8
  refine ⟨x * (D:Int),?_,?_⟩
  · rw [Rat.intCast_mul,← hx1,Rat.natCast_mul,Rat.intCast_natCast]; grind
  rw [Int.natAbs_mul,Int.natAbs_natCast,Nat.mul_comm]
  have:=hp _ _ h.lt hx2
  rw [h7]; omega
end
abbrev Ts:=List (Nat × Rat)
def coef:Ts→Nat→Rat
  | [],_=>0
  | t :: l,i=>if t.1=i then t.2 else coef l i
structure Nice (l:Ts):Prop where
  up:l.Pairwise fun s t=>s.1<t.1
  ne:∀ t∈l,t.2≠0
theorem Nice.nil:Nice []:=⟨List.Pairwise.nil,by simp⟩
theorem Nice.tail {t:Nat × Rat} {l:Ts} (h:Nice (t :: l)):Nice l:=⟨(List.pairwise_cons.1 h.up).2,fun s hs=>h.ne s (by simp [hs])⟩
theorem Nice.head {t:Nat × Rat} {l:Ts} (h:Nice (t :: l)):∀ s∈l,t.1<s.1:=(List.pairwise_cons.1 h.up).1
theorem coef_low:∀ {l:Ts} {i:Nat},(∀ s∈l,i<s.1)→coef l i=0
  | [],_,_=>rfl
  | t :: l,i,h=>by
    have:=h t (by simp)
    simp only [coef]
    rw [if_neg (by omega),coef_low (fun s hs=>h s (by simp [hs]))]
theorem coef_none:∀ {l:Ts} {i:Nat},(∀ s∈l,s.1≠i)→coef l i=0
  | [],_,_=>rfl
  | t :: l,i,h=>by
    simp only [coef]
    rw [if_neg (h t (by simp)),coef_none (fun s hs=>h s (by simp [hs]))]
theorem Nice.coef_mem:∀ {l:Ts},Nice l→∀ {t:Nat × Rat},t∈l→coef l t.1=t.2
  | s :: l,h,t,ht=>by
    simp only [coef]
    rcases List.mem_cons.1 ht with rfl | h1
    · rw [if_pos rfl]
    have:=h.head t h1
    rw [if_neg (by omega)]; exact h.tail.coef_mem h1
theorem Nice.first {t:Nat × Rat} {l:Ts} (h:Nice (t :: l)):coef (t :: l) t.1=t.2∧t.2≠0∧∀ j,j<t.1→coef (t :: l) j=0 :=
  ⟨by simp [coef],h.ne t (by simp),fun j hj=>coef_low (fun s hs=>by
    rcases List.mem_cons.1 hs with rfl | h1
    · exact hj
    exact Nat.lt_trans hj (h.head s h1))⟩
theorem Nice.empty {l:Ts} (h:Nice l) (h0:∀ i,coef l i=0):l=[]:=by
  cases l with
  | nil=>rfl
  | cons t l=>exact absurd (h.first.1.symm.trans (h0 t.1)) h.first.2.1
def addT:Ts→Ts→Ts
  | [],m=>m
  | s :: l,[]=>s :: l
  | s :: l,t :: m=>if s.1<t.1 then s :: addT l (t :: m) else if t.1<s.1 then t :: addT (s :: l) m else if s.2 + t.2=0 then addT l m else (s.1,s.2 + t.2) :: addT l m
termination_by l m=>l.length + m.length
theorem addT_low {v:Nat}:∀ (l m:Ts),(∀ s∈l,v<s.1)→(∀ s∈m,v<s.1)→∀ s∈addT l m,v<s.1
  | [],m,_,hm=>by simpa [addT] using hm
  | s :: l,[],hl,_=>by simpa [addT] using hl
  | s :: l,t :: m,hl,hm=>by
    have hl':∀ x∈l,v<x.1:=fun x hx=>hl x (by simp [hx])
    have hm':∀ x∈m,v<x.1:=fun x hx=>hm x (by simp [hx])
    unfold addT
    split
    · intro x hx
      rcases List.mem_cons.1 hx with rfl | h1
      · exact hl _ (by simp)
      exact addT_low l (t :: m) hl' hm x h1
    split
    · intro x hx
      rcases List.mem_cons.1 hx with rfl | h1
      · exact hm _ (by simp)
      exact addT_low (s :: l) m hl hm' x h1
    split
    · exact addT_low l m hl' hm'
    intro x hx
    rcases List.mem_cons.1 hx with rfl | h1
    · exact hl s (by simp)
    exact addT_low l m hl' hm' x h1
termination_by l m=>l.length + m.length
theorem Nice.cons {t:Nat × Rat} {l:Ts} (h:Nice l) (h1:∀ s∈l,t.1<s.1) (h2:t.2≠0):Nice (t :: l) :=
  ⟨List.pairwise_cons.2 ⟨h1,h.up⟩,fun s hs=>by rcases List.mem_cons.1 hs with rfl | h3; exact h2; exact h.ne s h3⟩
theorem addT_nice:∀ {l m:Ts},Nice l→Nice m→Nice (addT l m)
  | [],m,_,hm=>by simpa [addT] using hm
  | s :: l,[],hl,_=>by simpa [addT] using hl
  | s :: l,t :: m,hl,hm=>by
    unfold addT
    split
    · rename_i hst
      exact (addT_nice hl.tail hm).cons (addT_low l (t :: m) hl.head (fun x hx=>by
        rcases List.mem_cons.1 hx with rfl | h1
        · exact hst
        exact Nat.lt_trans hst (hm.head x h1))) (hl.ne s (by simp))
    split
    · rename_i hst hts
      exact (addT_nice hl hm.tail).cons (addT_low (s :: l) m (fun x hx=>by
        rcases List.mem_cons.1 hx with rfl | h1
        · exact hts
        exact Nat.lt_trans hts (hl.head x h1)) hm.head) (hm.ne t (by simp))
    rename_i hst hts
    have e:s.1=t.1:=by omega
    split
    · exact addT_nice hl.tail hm.tail
    rename_i h0
    exact (addT_nice hl.tail hm.tail).cons (addT_low l m hl.head (fun x hx=>by have:=hm.head x hx; simp only; omega)) h0
termination_by l m=>l.length + m.length
theorem addT_coef:∀ {l m:Ts},Nice l→Nice m→∀ i,coef (addT l m) i=coef l i + coef m i
  | [],m,_,_,i=>by simp only [addT,coef]; grind
  | s :: l,[],_,_,i=>by simp only [addT,coef]; grind
  | s :: l,t :: m,hl,hm,i=>by
    unfold addT
    split
    · rename_i hst
      have h1:=addT_coef hl.tail hm i
      simp only [coef] at h1 ⊢
      rw [h1]
      by_cases e:s.1=i
      · have h2:coef m i=0:=coef_low (fun x hx=>by have:=hm.head x hx; omega)
        rw [if_pos e,if_pos e,if_neg (by omega),h2]; grind
      rw [if_neg e,if_neg e]
    split
    · rename_i hst hts
      have h1:=addT_coef hl hm.tail i
      simp only [coef] at h1 ⊢
      rw [h1]
      by_cases e:t.1=i
      · have h2:coef l i=0:=coef_low (fun x hx=>by have:=hl.head x hx; omega)
        rw [if_pos e,if_pos e,if_neg (by omega),h2]; grind
      rw [if_neg e,if_neg e]
    rename_i hst hts
    have e0:t.1=s.1:=by omega
    have h1:=addT_coef hl.tail hm.tail i
    split
    · rename_i h0
      rw [h1]
      simp only [coef]
      by_cases e:s.1=i
      · have h2:coef l i=0:=coef_low (fun x hx=>by have:=hl.head x hx; omega)
        have h3:coef m i=0:=coef_low (fun x hx=>by have:=hm.head x hx; omega)
        rw [if_pos e,if_pos (by omega),h2,h3,h0]; grind
      rw [if_neg e,if_neg (by omega)]
    simp only [coef]
    rw [h1]
    by_cases e:s.1=i
    · rw [if_pos e,if_pos e,if_pos (by omega)]
    rw [if_neg e,if_neg e,if_neg (by omega)]
termination_by l m=>l.length + m.length
def scaleT (l:Ts) (x:Rat):Ts:=l.filterMap fun t=>if t.2 * x=0 then none else some (t.1,t.2 * x)
theorem scaleT_cons (t:Nat × Rat) (l:Ts) (x:Rat):scaleT (t :: l) x=if t.2 * x=0 then scaleT l x else (t.1,t.2 * x) :: scaleT l x:=by
  unfold scaleT; rw [List.filterMap_cons]; split <;> simp_all
theorem scaleT_low {v:Nat} {l:Ts} {x:Rat} (h:∀ s∈l,v<s.1):∀ s∈scaleT l x,v<s.1:=by
  induction l with
  | nil=>intro s hs; cases hs
  | cons t l ih =>
    rw [scaleT_cons]
    split
    · exact ih (fun s hs=>h s (by simp [hs]))
    intro s hs
    rcases List.mem_cons.1 hs with rfl | h1
    · exact h t (by simp)
    exact ih (fun s hs=>h s (by simp [hs])) s h1
theorem scaleT_nice {l:Ts} (h:Nice l) (x:Rat):Nice (scaleT l x):=by
  induction l with
  | nil=>exact .nil
  | cons t l ih =>
    rw [scaleT_cons]
    split
    · exact ih h.tail
    rename_i h0
    exact (ih h.tail).cons (scaleT_low h.head) h0
theorem scaleT_coef {l:Ts} (h:Nice l) (x:Rat) (i:Nat):coef (scaleT l x) i=coef l i * x:=by
  induction l with
  | nil=>simp only [scaleT,List.filterMap_nil,coef]; grind
  | cons t l ih =>
    rw [scaleT_cons]
    split
    · rename_i h0
      rw [ih h.tail]
      simp only [coef]
      split
      · rename_i e
        have h2:coef l i=0:=coef_low (fun s hs=>by have:=h.head s hs; omega)
        rw [h2,h0]; grind
      rfl
    simp only [coef]
    split
    · rfl
    exact ih h.tail
def cv (n:Nat) (l:Ts) (k:Rat):Vec:=fun i=>if i=n then k else coef l i
def Below (n:Nat) (l:Ts):Prop:=∀ t∈l,t.1<n
theorem cv_nil (n:Nat) (k:Rat):cv n [] k=kv n k:=by funext i; simp [cv,kv,coef]
def lessT (l:Ts) (k:Rat) (row:Ts) (rk:Rat):Ts × Rat :=
  match row with
  | []=>(l,k)
  | f :: _=>if coef l f.1=0 then (l,k) else let by_:=-(coef l f.1) / f.2; (addT l (scaleT row by_),k + rk * by_)
theorem lessT_nice {l row:Ts} (hl:Nice l) (hr:Nice row) (k rk:Rat):Nice (lessT l k row rk).1:=by
  unfold lessT
  split
  · exact hl
  split
  · exact hl
  exact addT_nice hl (scaleT_nice hr _)
theorem lessT_cv {n : Nat} {l row : Ts} (hl : Nice l) (hr : Nice row) {k rk y : Rat} {r : Row} {f : Nat × Rat} {rest : Ts} (hf : row = f :: rest) (hp : r.p = f.1) (hn : f.1 < n) (hy : y ≠ 0) (h1 : r.v r.p = 1) (hv : ∀ i, cv n row rk i = y * r.v i) :
    cv n (lessT l k row rk).1 (lessT l k row rk).2=vsub (cv n l k) r.v (cv n l k r.p):=by
  have e1:cv n l k r.p=coef l f.1:=by simp only [cv]; rw [hp,if_neg (by omega)]
  have e2:f.2=y:=by
    have:=hv r.p
    rw [h1,hp] at this
    simp only [cv] at this
    rw [if_neg (by omega),hf] at this
    rw [hf] at hr
    rw [hr.first.1] at this
    grind
  subst hf
  unfold lessT
  simp only
  rw [e1]
  split
  · rename_i h0
    funext i; simp only [vsub]; rw [h0]; grind
  funext i
  simp only [vsub]
  have hi:=hv i
  simp only [cv] at hi ⊢
  rw [addT_coef hl (scaleT_nice hr _),scaleT_coef hr,e2]
  rw [Rat.div_def]
  have hyy:=Rat.inv_mul_cancel _ hy
  split
  · rename_i e
    rw [if_pos e] at hi
    rw [hi]
    have:y * r.v i * (-coef l f.1 * y⁻¹)=-(coef l f.1 * r.v i) * (y⁻¹ * y):=by grind
    rw [this,hyy]; grind
  rename_i e
  rw [if_neg e] at hi
  rw [hi]
  have:y * r.v i * (-coef l f.1 * y⁻¹)=-(coef l f.1 * r.v i) * (y⁻¹ * y):=by grind
  rw [this,hyy]; grind
end Go.Proofs.YthoooolflmbmbaaGreat
