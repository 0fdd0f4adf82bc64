/- Regions that draw their order: the reads are taken first, the calls are in a chain, stores stand last. Nothing of a program in sight. -/
import Derived.Test.YthoooolflmbmbaaGreatOps
namespace Go.Proofs.YthoooolflmbmbaaGreat
open Go.RowKit
set_option linter.unusedVariables false
set_option linter.unusedSimpArgs false
def late (ops:Array Oper) (i:Nat):Nat→Nat→Bool
  | 0,_=>false
  | f + 1,j=>match ops[j]? with
    | none=>false
    | some o=>o.after.any fun e=>Region.binds .any e && (e.on == i || late ops i f e.on)
def Closed (ops:Array Oper) (listed:Array Bool):Prop :=
  ∀ j o,ops[j]?=some o→listed.getD j false=true→∀ e∈o.after,Region.binds .any e=true→listed.getD e.on false=true
section
variable {P:Program} {n:Nat} {Q:Exit→Act→World→Prop} {ops:Array Oper} {S:World→Prop} {T:List Nat}
theorem late_unlisted {listed:Array Bool} (hc:Closed ops listed) {i:Nat} (hi:listed.getD i false=false):∀ f j,late ops i f j=true→j ∉ Region.ready .any ops listed∧listed.getD j false=false
  | 0,j,h=>by simp [late] at h
  | f + 1,j,h=>by
    unfold late at h
    cases ho:ops[j]? with
    | none=>simp [ho] at h
    | some o =>
      simp only [ho] at h
      obtain ⟨e,he,h1⟩:∃ e,e∈o.after∧(Region.binds .any e && (e.on == i || late ops i f e.on))=true:=by
        rw [Array.any_eq_true] at h
        obtain ⟨k,hk,h⟩:=h
        exact ⟨o.after[k],Array.getElem_mem hk,h⟩
      simp only [Bool.and_eq_true,Bool.or_eq_true,beq_iff_eq] at h1
      have hun:listed.getD e.on false=false:=by
        rcases h1.2 with h2 | h2
        · rw [h2]; exact hi
        exact (late_unlisted hc hi f e.on h2).2
      refine ⟨fun hm=>?_,?_⟩
      · obtain ⟨_,o',ho',hall⟩:=mem_ready.1 hm
        rw [ho] at ho'; injection ho' with ho'; subst ho'
        rw [hall e he h1.1] at hun; cases hun
      cases hj:listed.getD j false with
      | false=>rfl
      | true=>rw [hc j o ho hj e he h1.1] at hun; cases hun
def wpAnyT (P:Program) (ops:Array Oper) (Q:Exit→Act→World→Prop) (S:World→Prop) (T:List Nat):Nat→Array Bool→Act→World→Prop
  | 0,listed,a,w=>Region.ready .any ops listed=[]∧Q .normal a w
  | fuel + 1,listed,a,w =>
    (Region.ready .any ops listed=[]→Q .normal a w) ∧
    ∀ i∈Region.ready .any ops listed,wpOp P ops Q i (fun a' w'=>(T.contains i=true∨S w')∧wpAnyT P ops Q S T fuel (listed.setIfInBounds i true) a' w') a w
theorem wpAny_of_T:∀ (fuel:Nat) (listed:Array Bool) (a:Act) (w:World),wpAnyT P ops Q S T fuel listed a w→wpAny P .any ops Q fuel listed a w
  | 0,_,_,_,h=>h
  | fuel + 1,_,_,_,h=>⟨h.1,fun i hi=>wpOp_mono (fun a' w' h'=>wpAny_of_T fuel _ a' w' h'.2) (h.2 i hi)⟩
theorem Closed.set {listed:Array Bool} (hc:Closed ops listed) {i:Nat} (hi:i∈Region.ready .any ops listed):Closed ops (listed.setIfInBounds i true):=by
  intro j o ho hj e he hb
  by_cases hji:i=j
  · subst hji
    obtain ⟨_,o',ho',hall⟩:=mem_ready.1 hi
    rw [ho] at ho'; injection ho' with ho'; subst ho'
    exact getD_set_true (hall e he hb)
  rw [getD_set_ne false hji] at hj
  exact getD_set_true (hc j o ho hj e he hb)
theorem getD_false_of_true {listed:Array Bool} {i:Nat} (h:listed.getD i true=false):listed.getD i false=false:=by
  rcases Nat.lt_or_ge i listed.size with h' | h'
  · simp [h'] at h ⊢; exact h
  simp [Array.getElem?_eq_none h'] at h
theorem wpAnyT_first {i : Nat} {oi : Oper} {v : Value} (hi : ops[i]? = some oi) (hsel : ∀ (j : Nat) (o : Oper) cs b, ops[j]? = some o → o.op ≠ .select cs b)
    (hQ:∀ c a w,Q (.panic c) (a.put oi.dst v) w→Q (.panic c) a w) (hT:∀ j,T.contains j=true→∃ f,late ops i f j=true) :
    ∀ (fuel:Nat) (listed:Array Bool) (a:Act) (w:World),Closed ops listed →
      (∀ j oj,ops[j]?=some oj→j≠i→listed.getD j true=false→(∀ e∈oj.after,Region.binds .any e=true→e.on≠i)→oi.apart ops oj=true) →
      i∈Region.ready .any ops listed→YieldsIf P ops S oi v a→S w →
      wpAnyT P ops Q S T fuel (listed.setIfInBounds i true) (a.put oi.dst v) w→wpAnyT P ops Q S T (fuel + 1) listed a w:=by
  intro fuel
  induction fuel with
  | zero =>
    intro listed a w hcl _ hr hy hS H
    refine ⟨fun h=>(by rw [h] at hr; cases hr),fun j hj=>?_⟩
    by_cases hji:j=i
    · subst hji; exact hy.wpOp hi hS ⟨.inr hS,H⟩
    · have:=ready_mono hj hji
      rw [H.1] at this
      cases this
  | succ fuel ih =>
    intro listed a w hcl hfree hr hy hS H
    refine ⟨fun h=>(by rw [h] at hr; cases hr),fun j hj=>?_⟩
    by_cases hji:j=i
    · subst hji; exact hy.wpOp hi hS ⟨.inr hS,H⟩
    have h1:=H.2 j (ready_mono hj hji);have hiun:=getD_false_of_true (mem_ready.1 hr).1
    have hjT:¬ T.contains j=true:=fun hh=>by
      obtain ⟨f,hf⟩:=hT j hh
      exact (late_unlisted hcl hiun f j hf).1 hj
    obtain ⟨hjun,oj,hoj,hall⟩:=mem_ready.1 hj
    have hnot:∀ e∈oj.after,Region.binds .any e=true→e.on≠i:=fun e he hb heq=>by
      have h1:=hall e he hb
      rw [heq,hiun] at h1
      cases h1
    have h2:=wpOp_putIf hoj (hfree j oj hoj hji hjun hnot) (fun cs b=>hsel i oi cs b hi) (fun cs b=>hsel j oj cs b hoj) hQ hy h1
    have hfree' : ∀ k ok, ops[k]? = some ok → k ≠ i → (listed.setIfInBounds j true).getD k true = false →
        (∀ e∈ok.after,Region.binds .any e=true→e.on≠i)→oi.apart ops ok=true:=fun k ok hk hki hun hno=>by
      refine hfree k ok hk hki ?_ hno
      by_cases hjk:j=k
      · subst hjk; exact hjun
      rw [getD_set_ne true hjk] at hun; exact hun
    refine wpOp_mono (fun a' w' h3=>?_) h2
    have hS':=h3.2.1.resolve_left hjT
    refine ⟨.inr hS',ih (listed.setIfInBounds j true) a' w' (hcl.set hj) hfree' (ready_mono hr (Ne.symm hji)) h3.1 hS' ?_⟩
    rw [Array.setIfInBounds_comm _ _ hji]
    exact h3.2.2
def NoHang (Q:Exit→Act→World→Prop):Prop:=∀ c (a:Act) (dst:Option Tmp) (v:Value) w,Q (.panic c) (a.put dst v) w→Q (.panic c) a w
theorem put_defers (a:Act) (dst:Option Tmp) (v:Value):(a.put dst v).defers=a.defers:=by cases dst <;> rfl
theorem NoHang.post {fn:Func} {R:Value→World→Prop}:NoHang (Post P fn R):=fun c a dst v w h=>by
  obtain ⟨h1,h2⟩:=h
  rw [put_defers] at h1
  exact ⟨h1,h2⟩
theorem NoHang.then {K:Act→World→Prop} (h:NoHang Q):NoHang (Exit.then K Q):=h
theorem NoHang.block {id:Nat} (h:NoHang Q):NoHang (Exit.inBlock id Q):=h
theorem NoHang.next {ι:Type} {env:ι→Env} {R:ι→World→Prop} {μ:ι→Nat} {m:Nat} (h:NoHang Q):NoHang (Next n env R μ m Q):=h
theorem NoHang.join {ι:Type} {env:ι→Env} {R:ι→World→Prop} (h:NoHang Q):NoHang (Join n env R Q):=h
def lateAll (ops:Array Oper) (T:List Nat) (i:Nat):Bool:=T.all fun j=>late ops i 12 j
def takeB (ops:Array Oper) (T:List Nat) (listed:Array Bool) (i:Nat):Bool :=
  Region.free .any ops listed i && (Region.ready .any ops listed).contains i && lateAll ops T i
def D (P:Program) (n:Nat) (Q:Exit→Act→World→Prop) (ops:Array Oper) (S:World→Prop) (T:List Nat) (fuel:Nat) (listed:Array Bool) (e:Env) (w:World):Prop :=
  Region.noSelect ops=true∧NoHang Q→Closed ops listed→∀ a,Fits n e a→wpAnyT P ops Q S T fuel listed a w
theorem closed0 (k:Nat):Closed ops (Array.replicate k false):=fun j o ho hj=>by
  simp [Array.getElem?_replicate] at hj
  split at hj <;> simp_all
variable {e:Env} {w:World}
theorem W.draw {id : Nat} {l : List Oper} (S : World → Prop) (T : List Nat) (hm : P.follows .mixedOrders = true) (hs : Region.noSelect l.toArray = true) (hQ : NoHang Q)
    (h:D P n Q l.toArray S T l.length (Array.replicate l.length false) e w.drew):W P n Q (.region id l.toArray true) e w:=fun a ha =>
  wp_region_any hm (by
    have:=wpAny_of_T _ _ _ _ (h ⟨hs,hQ⟩ (closed0 _) a ha)
    simpa using this)
variable {fuel:Nat} {listed:Array Bool} {d:Nat} {op:Op} {ty:TypeId} {pos:String} {after:Array Edge}
theorem takeB.spec {i : Nat} {oi : Oper} (hi : ops[i]? = some oi) (h : takeB ops T listed i = true) :
    (∀ j oj,ops[j]?=some oj→j≠i→listed.getD j true=false→(∀ e∈oj.after,Region.binds .any e=true→e.on≠i)→oi.apart ops oj=true) ∧
    i∈Region.ready .any ops listed∧(∀ j,T.contains j=true→∃ f,late ops i f j=true):=by
  simp only [takeB,Bool.and_eq_true] at h
  refine ⟨Region.free_spec hi h.1.1,by simpa using h.1.2,fun j hj=>⟨12,?_⟩⟩
  have:=h.2
  simp only [lateAll,List.all_eq_true] at this
  exact this j (by simpa using hj)
theorem D.take (i : Nat) {v : Value} (hi : ops[i]? = some ⟨some d, op, ty, pos, after, none⟩) (hb : takeB ops T listed i = true) (hy : ∀ w', S w' → R1 P e op ty w' v) (hS : S w) (hd : Nat.blt d n = true)
    (h:D P n Q ops S T fuel (listed.setIfInBounds i true) ((d,v) :: e) w):D P n Q ops S T (fuel + 1) listed e w:=fun hs hc a ha=>by
  obtain ⟨h1,h2,h3⟩:=takeB.spec hi hb
  exact wpAnyT_first hi (Region.noSelect_spec hs.1) (fun c a w=>hs.2 c a _ v w) h3 fuel listed a w hc h1 h2 (.inl ⟨rfl,fun w' hw'=>hy w' hw' n a _ pos after none ha⟩) hS (h hs (hc.set h2) _ (ha.put hd v))
theorem D.m (i : Nat) {x : Operand} {v : Value} (hi : ops[i]? = some ⟨some d, .move x, ty, pos, after, none⟩) (hb : takeB ops T listed i = true) (hx : ev e x = some v) (hS : S w) (hd : Nat.blt d n = true)
    (h:D P n Q ops S T fuel (listed.setIfInBounds i true) ((d,v) :: e) w):D P n Q ops S T (fuel + 1) listed e w:=D.take i hi hb (fun _ _=>R1.move hx) hS hd h
theorem D.takeOn (i : Nat) {j : Nat} {want : Bool} {oj : Oper} {dj : Nat} {v : Value} (hi : ops[i]? = some ⟨some d, op, ty, pos, after, some (j, want)⟩) (hj : ops[j]? = some oj) (hdj : oj.dst = some dj) (hl : lk e dj = some (.bool want))
    (hb:takeB ops T listed i=true) (hy:∀ w',S w'→R1 P e op ty w' v) (hS:S w) (hd:Nat.blt d n=true)
    (h:D P n Q ops S T fuel (listed.setIfInBounds i true) ((d,v) :: e) w):D P n Q ops S T (fuel + 1) listed e w:=fun hs hc a ha=>by
  obtain ⟨h1,h2,h3⟩:=takeB.spec hi hb;have hg:=ha.get _ _ hl
  have hwant:Region.wanted ⟨some d,op,ty,pos,after,some (j,want)⟩ (yielded ops a.tmps)=true:=by
    have:yielded ops a.tmps j=some want:=by simp [yielded,hj,hdj,hg]
    simp [Region.wanted,this]
  exact wpAnyT_first hi (Region.noSelect_spec hs.1) (fun c a w=>hs.2 c a _ v w) h3 fuel listed a w hc h1 h2 (.inl ⟨hwant,fun w' hw'=>hy w' hw' n a _ pos after _ ha⟩) hS (h hs (hc.set h2) _ (ha.put hd v))
theorem D.off (i : Nat) {j : Nat} {want b : Bool} {oj : Oper} {dj : Nat} (hi : ops[i]? = some ⟨some d, op, ty, pos, after, some (j, want)⟩) (hj : ops[j]? = some oj) (hdj : oj.dst = some dj) (hl : lk e dj = some (.bool b)) (hbw : (b == want) = false)
    (hb:takeB ops T listed i=true) (hS:S w) (hd:Nat.blt d n=true)
    (h:D P n Q ops S T fuel (listed.setIfInBounds i true) ((d,undef) :: e) w):D P n Q ops S T (fuel + 1) listed e w:=fun hs hc a ha=>by
  obtain ⟨h1,h2,h3⟩:=takeB.spec hi hb;have hg:=ha.get _ _ hl
  have hwant:Region.wanted ⟨some d,op,ty,pos,after,some (j,want)⟩ (yielded ops a.tmps)=false:=by
    have:yielded ops a.tmps j=some b:=by simp [yielded,hj,hdj,hg]
    simp only [Region.wanted,this]
    cases b <;> cases want <;> simp_all
  exact wpAnyT_first hi (Region.noSelect_spec hs.1) (fun c a w=>hs.2 c a _ undef w) h3 fuel listed a w hc h1 h2 (.inr ⟨hwant,rfl⟩) hS (h hs (hc.set h2) _ (ha.put hd undef))
theorem D.offU (i : Nat) {j : Nat} {want : Bool} {oj : Oper} {dj : Nat} (hi : ops[i]? = some ⟨some d, op, ty, pos, after, some (j, want)⟩) (hj : ops[j]? = some oj) (hdj : oj.dst = some dj) (hl : lk e dj = some undef)
    (hb:takeB ops T listed i=true) (hS:S w) (hd:Nat.blt d n=true)
    (h:D P n Q ops S T fuel (listed.setIfInBounds i true) ((d,undef) :: e) w):D P n Q ops S T (fuel + 1) listed e w:=fun hs hc a ha=>by
  obtain ⟨h1,h2,h3⟩:=takeB.spec hi hb;have hg:=ha.get _ _ hl
  have hwant:Region.wanted ⟨some d,op,ty,pos,after,some (j,want)⟩ (yielded ops a.tmps)=false:=by
    have:yielded ops a.tmps j=none:=by simp [yielded,hj,hdj,hg,undef]
    simp only [Region.wanted,this]
    rfl
  exact wpAnyT_first hi (Region.noSelect_spec hs.1) (fun c a w=>hs.2 c a _ undef w) h3 fuel listed a w hc h1 h2 (.inr ⟨hwant,rfl⟩) hS (h hs (hc.set h2) _ (ha.put hd undef))
theorem upon_congrQ {o : Oper} {a : Act} {K : Act → World → Prop} {Q Q' : Exit → Act → World → Prop} (hp : ∀ c a w, Q (.panic c) a w → Q' (.panic c) a w) (ho : ∀ a w, Q .outgrown a w → Q' .outgrown a w) {w : World}
    (h:o.wp P a w K Q):o.wp P a w K Q':=by
  unfold Oper.wp at *
  generalize (execOp a.eval o).run P w=r at *
  cases r with
  | ok m w' =>
    cases m <;> simp only [Oper.upon] at h ⊢ <;> try exact h
    exact Calls.mono h fun en w'' he=>by
      cases en with
      | returned u=>exact he
      | panicked c=>exact hp _ _ _ he
      | outgrown=>obtain ⟨a',w3,h3⟩:=he; exact ⟨a',w3,ho _ _ h3⟩
  | halt x w' =>
    cases x <;> simp only [Oper.upon] at h ⊢ <;> try exact h
    exact hp _ _ _ h
def Then (P:Program) (n:Nat) (Q:Exit→Act→World→Prop) (ops:Array Oper) (S:World→Prop) (T:List Nat) (fuel i:Nat) (listed:Array Bool):Exit→Act→World→Prop :=
  Exit.then (fun a w=>(T.contains i=true∨S w)∧wpAnyT P ops Q S T fuel (listed.setIfInBounds i true) a w) Q
theorem D.one (i : Nat) {oi : Oper} (hi : ops[i]? = some oi) (hr : Region.ready .any ops listed = [i])
    (h:(∀ e' w',((T.contains i=true∨S w')∧D P n Q ops S T fuel (listed.setIfInBounds i true) e' w')→X n (Then P n Q ops S T fuel i listed) .normal e' w')→L P n (Then P n Q ops S T fuel i listed) ops [oi] e w):D P n Q ops S T (fuel + 1) listed e w:=fun hs hc a ha=>by
  have hm:i∈Region.ready .any ops listed:=by rw [hr]; simp
  refine ⟨fun h0=>absurd (h0 ▸ hm) (by simp),fun j hj=>?_⟩
  rw [hr] at hj
  obtain rfl:j=i:=by simpa using hj
  have h1:=h (fun e' w' ⟨h1,h2⟩ a' ha'=>⟨h1,h2 hs (hc.set hm) a' ha'⟩) a ha
  unfold wpOp
  simp only [hi]
  unfold wpList at h1
  split
  · rename_i hw
    rw [if_pos hw] at h1
    rcases h1 with h1 | ⟨h1,a',w',h2⟩
    · exact .inl (upon_congrQ (fun _ _ _ q=>q) (fun _ _ q=>q) (Oper.wp_mono (fun a w q=>q) h1))
    exact .inr ⟨h1,a',w',h2⟩
  rename_i hw
  rw [if_neg hw] at h1
  exact h1
def Step1 (P:Program) (n:Nat) (Q:Exit→Act→World→Prop) (ops:Array Oper) (S:World→Prop) (T:List Nat) (fuel i:Nat) (listed:Array Bool) (e:Env) (w:World):Prop :=
  ∃ oi,ops[i]?=some oi∧((∀ e' w',((T.contains i=true∨S w')∧D P n Q ops S T fuel (listed.setIfInBounds i true) e' w')→X n (Then P n Q ops S T fuel i listed) .normal e' w')→L P n (Then P n Q ops S T fuel i listed) ops [oi] e w)
theorem D.many {rs:List Nat} (hr:Region.ready .any ops listed=rs) (hne:rs.isEmpty=false) (h:∀ i∈rs,Step1 P n Q ops S T fuel i listed e w):D P n Q ops S T (fuel + 1) listed e w:=fun hs hc a ha=>by
  refine ⟨fun h0=>(by rw [hr] at h0; rw [h0] at hne; simp at hne),fun j hj=>?_⟩
  have hm:=hj
  rw [hr] at hj
  obtain ⟨oi,hi,h0⟩:=h j hj;have h1:=h0 (fun e' w' ⟨h1,h2⟩ a' ha'=>⟨h1,h2 hs (hc.set hm) a' ha'⟩) a ha
  unfold wpOp
  simp only [hi]
  unfold wpList at h1
  split
  · rename_i hw
    rw [if_pos hw] at h1
    rcases h1 with h1 | ⟨h1,a',w',h2⟩
    · exact .inl (upon_congrQ (fun _ _ _ q=>q) (fun _ _ q=>q) (Oper.wp_mono (fun a w q=>q) h1))
    exact .inr ⟨h1,a',w',h2⟩
  rename_i hw
  rw [if_neg hw] at h1
  exact h1
theorem D.done (hr:Region.ready .any ops listed=[]) (h:X n Q .normal e w):∀ fuel,D P n Q ops S T fuel listed e w
  | 0=>fun _ _ a ha=>⟨hr,h a ha⟩
  | _ + 1=>fun _ _ a ha=>⟨fun _=>h a ha,by rw [hr]; simp⟩
end
section
variable {P : Program} {n : Nat} {Q : Exit → Act → World → Prop} {ops : Array Oper} {rest : List Oper} {e : Env} {w : World} {d : Nat} {ty : TypeId} {pos : String} {after : Array Edge} {op : Op}
variable {S : World → Prop} {T : List Nat} {fuel : Nat} {listed : Array Bool}
theorem D.t (i : Nat) {v : Value} (hi : ops[i]?=some ⟨some d,op,ty,pos,after,none⟩) (hb : (takeB ops T listed i&&Nat.blt d n)=true) (hy : ∀ w',S w' → R1 P e op ty w' v) (hS : S w) (h : D P n Q ops S T fuel (listed.setIfInBounds i true) ((d,v)::e) w) : D P n Q ops S T (fuel + 1) listed e w:=D.take i hi (Bool.and_eq_true_iff.1 hb).1 hy hS (Bool.and_eq_true_iff.1 hb).2 h
theorem D.z (i : Nat) {x : Operand} {v : Value} (hi : ops[i]?=some ⟨some d,.move x,ty,pos,after,none⟩) (hb : (takeB ops T listed i&&Nat.blt d n)=true) (hx : ev e x=some v) (hS : S w) (h : D P n Q ops S T fuel (listed.setIfInBounds i true) ((d,v)::e) w) : D P n Q ops S T (fuel + 1) listed e w:=D.m i hi (Bool.and_eq_true_iff.1 hb).1 hx hS (Bool.and_eq_true_iff.1 hb).2 h
theorem D.o (i : Nat) {j : Nat} {want : Bool} (hi : ops[i]?=some ⟨some d,op,ty,pos,after,some (j,want)⟩) (hl : offB ops e j want=true) (hb : (takeB ops T listed i&&Nat.blt d n)=true) (hS : S w) (h : D P n Q ops S T fuel (listed.setIfInBounds i true) ((d,undef)::e) w) : D P n Q ops S T (fuel + 1) listed e w:=by
  obtain ⟨oj,dj,b,h1,h2,h3,h4⟩:=condB_spec hl
  exact D.off i hi h1 h2 h3 (by simpa using h4) (Bool.and_eq_true_iff.1 hb).1 hS (Bool.and_eq_true_iff.1 hb).2 h
theorem D.u (i : Nat) {j : Nat} {want : Bool} {v : Value} (hi : ops[i]?=some ⟨some d,op,ty,pos,after,some (j,want)⟩) (hl : onB ops e j want=true) (hb : (takeB ops T listed i&&Nat.blt d n)=true) (hy : ∀ w',S w' → R1 P e op ty w' v) (hS : S w) (h : D P n Q ops S T fuel (listed.setIfInBounds i true) ((d,v)::e) w) : D P n Q ops S T (fuel + 1) listed e w:=by
  obtain ⟨oj,dj,b,h1,h2,h3,h4⟩:=condB_spec hl
  have h5:b=want:=by simpa using h4
  exact D.takeOn i hi h1 h2 (h5 ▸ h3) (Bool.and_eq_true_iff.1 hb).1 hy hS (Bool.and_eq_true_iff.1 hb).2 h
end
end Go.Proofs.YthoooolflmbmbaaGreat
