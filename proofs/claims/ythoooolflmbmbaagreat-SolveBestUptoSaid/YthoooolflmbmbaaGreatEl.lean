/- The prover's own logic of steps over the kit's walk: environments of slots, one rule for each operation, worlds as variables. Nothing of a program in sight. -/
import Derived.WalkKit
import Derived.ProofKit
import Derived.OrdersHeld
namespace Go.Proofs.YthoooolflmbmbaaGreat
open Go.RowKit
set_option linter.unusedVariables false
abbrev Env:=List (Nat × Value)
def lk:Env→Nat→Option Value
  | [],_=>none
  | (s,v) :: r,t=>bif Nat.beq s t then some v else lk r t
def ev (e:Env):Operand→Option Value
  | .tmp t=>lk e t
  | .const v=>some v
  | .func f=>some (.func (.func f) #[] #[])
  | .global g=>some (.pointer (some ⟨g,0,none⟩))
def evl (e:Env):List Operand→Option (List Value)
  | []=>some []
  | x :: r=>match ev e x,evl e r with
    | some v,some vs=>some (v :: vs)
    | _,_=>none
structure Fits (n:Nat) (e:Env) (a:Act):Prop where
  defers:a.defers=[]
  size:a.tmps.size=n
  get:∀ t v,lk e t=some v→a.tmps[t]?=some v
def Sub:Env→Env→Prop
  | [],_=>True
  | (t,v) :: r,e=>lk e t=some v∧Sub r e
theorem Sub.lk:∀ {e' e:Env},Sub e' e→∀ t v,lk e' t=some v→lk e t=some v
  | [],_,_,t,v,h=>by simp [Proofs.YthoooolflmbmbaaGreat.lk] at h
  | (s,u) :: r,e,⟨h1,h2⟩,t,v,h=>by
    simp only [Proofs.YthoooolflmbmbaaGreat.lk] at h
    cases hb:Nat.beq s t with
    | true=>rw [hb] at h; simp at h; subst h; have:=Nat.eq_of_beq_eq_true hb; subst this; exact h1
    | false=>rw [hb] at h; simp at h; exact Sub.lk h2 t v h
section
variable {n:Nat} {e e':Env} {a:Act}
theorem Fits.sub (h:Fits n e a) (hs:Sub e' e):Fits n e' a:=⟨h.defers,h.size,fun t v ht=>h.get t v (hs.lk t v ht)⟩
theorem Fits.eval (h:Fits n e a) {x:Operand} {v:Value} (hx:ev e x=some v):a.eval x=v:=by
  cases x with
  | tmp t=>have:=h.get t v hx; simp [Act.eval,this]
  | const u=>simp [ev] at hx; simp [Act.eval,hx]
  | func f=>simp [ev] at hx; simp [Act.eval,hx]
  | global g=>simp [ev] at hx; simp [Act.eval,hx]
theorem Fits.evals (h:Fits n e a):∀ {xs:List Operand} {vs:List Value},evl e xs=some vs→xs.map a.eval=vs
  | [],vs,hx=>by simp [evl] at hx; simp [hx]
  | x :: r,vs,hx=>by
    simp only [evl] at hx
    cases h1:ev e x with
    | none=>simp [h1] at hx
    | some v =>
      cases h2:evl e r with
      | none=>simp [h1,h2] at hx
      | some us=>simp [h1,h2] at hx; subst hx; simp [h.eval h1,h.evals h2]
theorem Fits.put (h:Fits n e a) {d:Nat} (hd:Nat.blt d n=true) (v:Value):Fits n ((d,v) :: e) (a.put (some d) v):=by
  have hd':d<n:=by simp [Nat.blt] at hd; omega
  refine ⟨h.defers,by simp [Act.put,h.size],fun t u ht=>?_⟩
  simp only [lk] at ht
  cases hb:Nat.beq d t with
  | true =>
    rw [hb] at ht; simp at ht; subst ht
    have:=Nat.eq_of_beq_eq_true hb; subst this
    simp [Act.put,h.size,hd']
  | false =>
    rw [hb] at ht; simp at ht
    have hne:d≠t:=fun hh=>by subst hh; simp at hb
    simp only [Act.put]
    rw [Array.getElem?_setIfInBounds_ne hne]
    exact h.get t u ht
theorem Fits.putNone (h:Fits n e a) (v:Value):Fits n e (a.put none v):=h
end
def env0:Nat→List Value→Env
  | _,[]=>[]
  | i,v :: r=>(i,v) :: env0 (i + 1) r
theorem env0_lk:∀ (vs:List Value) (i t:Nat) (v:Value),lk (env0 i vs) t=some v→i≤t∧vs[t - i]?=some v
  | [],i,t,v,h=>by simp [env0,lk] at h
  | u :: r,i,t,v,h=>by
    simp only [env0,lk] at h
    cases hb:Nat.beq i t with
    | true =>
      rw [hb] at h; simp at h; subst h
      have:=Nat.eq_of_beq_eq_true hb; subst this
      simp
    | false =>
      rw [hb] at h; simp at h
      have:=env0_lk r (i + 1) t v h
      refine ⟨by omega,?_⟩
      have e:t - i=(t - (i + 1)) + 1:=by omega
      rw [e]; simpa using this.2
structure Ret (P:Program) (f:FuncId) (args:Array Value) (w:World) (R:Value→World→Prop):Prop where
  able : ∃ fn, P.funcs[f]? = some fn ∧ fn.body.isNone = false ∧ (fn.name == "runtime.NumGoroutine") = false
  run:Calls P f args w fun e w'=>∃ v,e=.returned v∧R v w'
theorem Ret.mono {P:Program} {f:FuncId} {args:Array Value} {w:World} {R R':Value→World→Prop} (h:Ret P f args w R) (hr:∀ v w',R v w'→R' v w'):Ret P f args w R' :=
  ⟨h.able,h.run.mono fun e w' ⟨v,he,hv⟩=>⟨v,he,hr v w' hv⟩⟩
def W (P:Program) (n:Nat) (Q:Exit→Act→World→Prop) (c:Code) (e:Env) (w:World):Prop:=∀ a,Fits n e a→c.wp P Q a w
def L (P:Program) (n:Nat) (Q:Exit→Act→World→Prop) (ops:Array Oper) (l:List Oper) (e:Env) (w:World):Prop:=∀ a,Fits n e a→wpList P ops Q l a w
def X (n:Nat) (Q:Exit→Act→World→Prop) (x:Exit) (e:Env) (w:World):Prop:=∀ a,Fits n e a→Q x a w
def Post (P:Program) (fn:Func) (R:Value→World→Prop):Exit→Act→World→Prop:=bodyPost P fn fun e w'=>∃ v,e=.returned v∧R v w'
def Next {ι:Type} (n:Nat) (env:ι→Env) (R:ι→World→Prop) (μ:ι→Nat) (m:Nat) (Q:Exit→Act→World→Prop):Exit→Act→World→Prop :=
  Exit.then (fun a w=>∃ x,Fits n (env x) a∧R x w∧μ x<m) Q
def Join {ι:Type} (n:Nat) (env:ι→Env) (R:ι→World→Prop) (Q:Exit→Act→World→Prop):Exit→Act→World→Prop :=
  Exit.then (fun a w=>∃ x,Fits n (env x) a∧R x w) Q
section
variable {P:Program} {n:Nat} {Q:Exit→Act→World→Prop} {e e':Env} {w:World}
theorem Ret.of {fn : Func} {c : Code} {f : FuncId} {vs : List Value} {R : Value → World → Prop} (hf : P.funcs[f]? = some fn) (hb : fn.body = some c) (hn : fn.ntmps = n)
    (hname : (fn.name == "runtime.NumGoroutine") = false) (hsz : Nat.ble vs.length n = true)
    (h:W P n (Post P fn R) c (env0 0 vs) w):Ret P f vs.toArray w R:=by
  refine ⟨⟨fn,hf,by rw [hb]; rfl,hname⟩,calls_of_wp hf hb (h _ ⟨rfl,?_,fun t v ht=>?_⟩)⟩
  · simp [hn]; simp at hsz; omega
  have:=env0_lk vs 0 t v ht
  simp at this
  have hlt:t<vs.length:=by
    rcases Nat.lt_or_ge t vs.length with h | h
    · exact h
    rw [List.getElem?_eq_none h] at this; cases this
  rw [List.getElem?_eq_getElem hlt] at this
  simp [Array.getElem?_append,hlt]
  simpa using this
theorem W.seq {x y:Code} (h:W P n (Exit.then (fun a w=>y.wp P Q a w) Q) x e w):W P n Q (.seq x y) e w:=fun a ha=>wp_seq (h a ha)
theorem W.skip (h:X n Q .normal e w):W P n Q .skip e w:=fun a ha=>wp_skip (h a ha)
theorem W.ret (h:X n Q .ret e w):W P n Q .ret e w:=fun a ha=>wp_ret (h a ha)
theorem W.exit {id:Nat} (h:X n Q (.exit id) e w):W P n Q (.exit id) e w:=fun a ha=>wp_exit (h a ha)
theorem W.block {id:Nat} {c:Code} (h:W P n (Exit.inBlock id Q) c e w):W P n Q (.block id c) e w:=fun a ha=>wp_block (h a ha)
theorem W.cond {c:Operand} {x y:Code} {b:Bool} (hc:ev e c=some (.bool b)) (ht:b=true→W P n Q x e w) (hf:b=false→W P n Q y e w):W P n Q (.cond c x y) e w :=
  fun a ha=>wp_cond_split (ha.eval hc) (fun h=>ht h a ha) (fun h=>hf h a ha)
theorem W.condT {c:Operand} {x y:Code} (hc:ev e c=some (.bool true)) (ht:W P n Q x e w):W P n Q (.cond c x y) e w :=
  fun a ha=>wp_cond_true (ha.eval hc) (ht a ha)
theorem W.condF {c:Operand} {x y:Code} (hc:ev e c=some (.bool false)) (hf:W P n Q y e w):W P n Q (.cond c x y) e w :=
  fun a ha=>wp_cond_false (ha.eval hc) (hf a ha)
theorem W.region {id:Nat} {l:List Oper} (h:L P n Q l.toArray l e w):W P n Q (.region id l.toArray false) e w:=fun a ha=>wp_region_lit (h a ha)
theorem W.loop {ι : Type} {c : Code} (env : ι → Env) (R : ι → World → Prop) (μ : ι → Nat) (x₀ : ι) (hs : Sub (env x₀) e) (h₀ : R x₀ w)
    (round:∀ x w,R x w→W P n (Next n env R μ (μ x) Q) c (env x) w):W P n Q (.loop c) e w:=by
  intro a ha
  have key:∀ m,∀ x,μ x=m→∀ a w,Fits n (env x) a→R x w→∀ b k cs,
      ∃ ex a' w',Q ex a' w'∧Arrives P (lone (b.at a (.code c :: .inLoop c :: k)) cs w) b k cs ex a' w':=by
    intro m
    induction m using Nat.strongRecOn with
    | _ m ih =>
      intro x hx a w hf hR b k cs
      obtain ⟨ex,a₁,w₁,hq,harr⟩:=round x w hR a hf b (.inLoop c :: k) cs
      cases ex with
      | normal =>
        obtain ⟨x₁,hf₁,hR₁,hlt⟩:=hq;obtain ⟨e₂,a₂,w₂,hq₂,harr₂⟩:=ih (μ x₁) (hx ▸ hlt) x₁ rfl a₁ w₁ hf₁ hR₁ b k cs
        exact ⟨e₂,a₂,w₂,hq₂,.of_steps (Steps.trans harr (.one step_inLoop)) harr₂⟩
      | exit id=>exact ⟨_,a₁,w₁,hq,.pass (x:=.inLoop c) rfl (fun _ _=>.inl (by simp)) harr⟩
      | goto l=>exact ⟨_,a₁,w₁,hq,.pass (x:=.inLoop c) rfl (fun _ _=>.inl (by simp)) harr⟩
      | ret=>exact ⟨_,a₁,w₁,hq,.pass (x:=.inLoop c) rfl (fun _ _=>.inl (by simp)) harr⟩
      | panic ch=>exact ⟨_,a₁,w₁,hq,.pass (x:=.inLoop c) rfl (fun _ _=>.inl (by simp)) harr⟩
      | outgrown=>exact ⟨_,a₁,w₁,hq,.pass (x:=.inLoop c) rfl (fun _ _=>.inl (by simp)) harr⟩
  intro b k cs
  obtain ⟨ex,a',w',hq,harr⟩:=key _ x₀ rfl a w (ha.sub hs) h₀ b k cs
  exact ⟨ex,a',w',hq,.of_steps (.one step_loop) harr⟩
theorem W.cut {ι : Type} {c : Code} (env : ι → Env) (R : ι → World → Prop) (h : W P n (Join n env R Q) c e w)
    (k:∀ x w,R x w→X n Q .normal (env x) w):W P n Q c e w:=fun a ha =>
  Code.wp_mono (fun ex a w q=>by
    cases ex with
    | normal=>obtain ⟨x,hf,hR⟩:=q; exact k x w hR a hf
    | _=>exact q) (h a ha)
theorem W.sub {c:Code} (hs:Sub e' e) (h:W P n Q c e' w):W P n Q c e w:=fun a ha=>h a (ha.sub hs)
theorem X.seq {y:Code} (h:W P n Q y e w):X n (Exit.then (fun a w=>y.wp P Q a w) Q) .normal e w:=h
theorem X.thenExit {K:Act→World→Prop} {id:Nat} (h:X n Q (.exit id) e w):X n (Exit.then K Q) (.exit id) e w:=h
theorem X.thenRet {K:Act→World→Prop} (h:X n Q .ret e w):X n (Exit.then K Q) .ret e w:=h
theorem X.here {id:Nat} (h:X n Q .normal e w):X n (Exit.inBlock id Q) (.exit id) e w:=fun a ha=>by
  show (if id=id then Q .normal a w else Q (.exit id) a w); rw [if_pos rfl]; exact h a ha
theorem X.past {id id':Nat} (hne:Nat.beq id' id=false) (h:X n Q (.exit id') e w):X n (Exit.inBlock id Q) (.exit id') e w:=fun a ha=>by
  have:id'≠id:=fun hh=>by subst hh; simp at hne
  show (if id'=id then Q .normal a w else Q (.exit id') a w); rw [if_neg this]; exact h a ha
theorem X.blockEnd {id:Nat} (h:X n Q .normal e w):X n (Exit.inBlock id Q) .normal e w:=h
theorem X.blockRet {id:Nat} (h:X n Q .ret e w):X n (Exit.inBlock id Q) .ret e w:=h
theorem X.nextExit {ι:Type} {env:ι→Env} {R:ι→World→Prop} {μ:ι→Nat} {m:Nat} {id:Nat} (h:X n Q (.exit id) e w):X n (Next n env R μ m Q) (.exit id) e w:=h
theorem X.nextRet {ι:Type} {env:ι→Env} {R:ι→World→Prop} {μ:ι→Nat} {m:Nat} (h:X n Q .ret e w):X n (Next n env R μ m Q) .ret e w:=h
theorem X.next {ι:Type} {env:ι→Env} {R:ι→World→Prop} {μ:ι→Nat} {m:Nat} (x:ι) (hs:Sub (env x) e) (hR:R x w) (hlt:μ x<m):X n (Next n env R μ m Q) .normal e w :=
  fun a ha=>⟨x,ha.sub hs,hR,hlt⟩
theorem X.join {ι:Type} {env:ι→Env} {R:ι→World→Prop} (x:ι) (hs:Sub (env x) e) (hR:R x w):X n (Join n env R Q) .normal e w :=
  fun a ha=>⟨x,ha.sub hs,hR⟩
theorem X.sub {x:Exit} (hs:Sub e' e) (h:X n Q x e' w):X n Q x e w:=fun a ha=>h a (ha.sub hs)
inductive ResIs (P:Program) (e:Env) (w:World):List ResultVar→List Value→Prop
  | nil:ResIs P e w [] []
  | tmp {t:Tmp} {v:Value} {rs:List ResultVar} {vs:List Value} (h:lk e t=some v) (r:ResIs P e w rs vs):ResIs P e w (.tmp t :: rs) (v :: vs)
  | cell {t:Tmp} {ty:TypeId} {ad:Addr} {v:Value} {rs:List ResultVar} {vs:List Value} (h:lk e t=some (.pointer (some ad))) (hl:(loadVar ty ad).run P w=.ok v w) (r:ResIs P e w rs vs):ResIs P e w (.cell t ty :: rs) (v :: vs)
def resSem (a:Act):ResultVar→Sem Value
  | .tmp t=>pure (a.tmps.getD t undef)
  | .cell p t=>do loadVar t (← asAddr (a.tmps.getD p undef))
theorem ResIs.run {rs : List ResultVar} {vs : List Value} (h : ResIs P e w rs vs) {a : Act} (ha : Fits n e a) :
    (rs.mapM (resSem a)).run P w=.ok vs w:=by
  induction h with
  | nil=>rfl
  | @tmp t v rs vs h r ih =>
    have:=ha.get _ _ h
    have h1:(resSem a (.tmp t)).run P w=.ok (a.tmps.getD t undef) w:=rfl
    rw [List.mapM_cons,Sem.run_bind,h1,Result.andThen_ok,Sem.run_bind,ih]
    simp [this]
  | @cell t ty ad v rs vs h hl r ih =>
    have:=ha.get _ _ h
    have h1:(resSem a (.cell t ty)).run P w=.ok v w:=by
      show (do loadVar ty (← asAddr (a.tmps.getD t undef)):Sem Value).run P w=_
      rw [Sem.run_bind]
      simp only [Array.getD_eq_getD_getElem?,this,Option.getD_some,asAddr,Sem.run_pure,Result.andThen_ok]
      exact hl
    rw [List.mapM_cons,Sem.run_bind,h1,Result.andThen_ok,Sem.run_bind,ih]
    rfl
def resVal:List Value→Value
  | [v]=>v
  | vs=>.tuple vs.toArray
theorem X.result {fn:Func} {R:Value→World→Prop} {rs:List ResultVar} {vs:List Value} (hr:fn.results=rs.toArray) (hv:ResIs P e w rs vs) (h:R (resVal vs) w):X n (Post P fn R) .ret e w:=by
  intro a ha
  refine ⟨ha.defers,resVal vs,?_,_,rfl,h⟩
  have hm:=hv.run ha
  have h2:(results fn a.tmps)=(do
      let vs ← fn.results.mapM (resSem a)
      pure (if h:vs.size=1 then vs[0] else .tuple vs):Sem Value):=rfl
  rw [h2,hr,List.mapM_toArray,Sem.run_bind,Sem.run_map,hm]
  simp only [Result.andThen_ok,Sem.run_pure]
  congr 1
  match vs with
  | []=>rfl
  | [v]=>rfl
  | v :: u :: r=>rw [dif_neg (by simp)]; rfl
theorem X.result1 {fn:Func} {R:Value→World→Prop} {r:ResultVar} {v:Value} (hr:fn.results=[r].toArray) (hv:ResIs P e w [r] [v]) (h:R v w):X n (Post P fn R) .ret e w:=X.result hr hv h
theorem X.result2 {fn:Func} {R:Value→World→Prop} {r r':ResultVar} {v v':Value} (hr:fn.results=[r,r'].toArray) (hv:ResIs P e w [r,r'] [v,v']) (h:R (.tuple [v,v'].toArray) w):X n (Post P fn R) .ret e w:=X.result hr hv h
theorem X.result3 {fn:Func} {R:Value→World→Prop} {r r' r'':ResultVar} {v v' v'':Value} (hr:fn.results=[r,r',r''].toArray) (hv:ResIs P e w [r,r',r''] [v,v',v'']) (h:R (.tuple [v,v',v''].toArray) w):X n (Post P fn R) .ret e w:=X.result hr hv h
end
section
variable {P : Program} {n : Nat} {Q : Exit → Act → World → Prop} {ops : Array Oper} {rest : List Oper} {e : Env} {w : World} {d : Nat} {ty : TypeId} {pos : String} {after : Array Edge} {op : Op}
theorem W.sr {id : Nat} {l : List Oper} {y : Code} (h : L P n (Exit.then (fun a w=>y.wp P Q a w) Q) l.toArray l e w) : W P n Q (.seq (.region id l.toArray false) y) e w:=W.seq (W.region h)
theorem X.be {y : Code} {id : Nat} (h : W P n (Exit.inBlock id Q) y e w) : X n (Exit.then (fun a w=>y.wp P (Exit.inBlock id Q) a w) (Exit.inBlock id Q)) .normal e w:=X.seq h
theorem W.brk {y : Code} {id : Nat} {K : Act → World → Prop} {ι : Type} {env : ι → Env} {R : ι → World → Prop} {μ : ι → Nat} {m : Nat} (h : W P n Q y e w) : W P n (Exit.then K (Next n env R μ m (Exit.inBlock id (Exit.then (fun a w=>y.wp P Q a w) Q)))) (.exit id) e w:=W.exit<|X.thenExit<|X.nextExit<|X.here<|X.seq h
end
end Go.Proofs.YthoooolflmbmbaaGreat
