/- Regions that draw their order: two calls in a chain and two allocations beside them, in any order. Nothing of a program in sight. -/
import Derived.Test.YthoooolflmbmbaaGreatRat
namespace Go.Proofs.YthoooolflmbmbaaGreat
open Go.RowKit
set_option linter.unusedVariables false
set_option linter.unusedSimpArgs false
def Inc (e' e:Env):Prop:=∀ t v,lk e' t=some v→lk e t=some v
theorem Inc.refl (e:Env):Inc e e:=fun _ _ h=>h
theorem lk_here (d:Nat) (v:Value) (e:Env):lk ((d,v) :: e) d=some v:=by simp [lk]
theorem lk_skip {d t:Nat} {v u:Value} {e:Env} (h:Nat.beq d t=false) (k:lk e t=some u):lk ((d,v) :: e) t=some u:=by simp only [lk,h,cond_false]; exact k
theorem Inc.skip {e' e:Env} (h:Inc e' e) {d:Nat} {v:Value} (hd:lk e' d=none):Inc e' ((d,v) :: e):=fun t u ht=>by
  cases hb:Nat.beq d t with
  | true=>have:=Nat.eq_of_beq_eq_true hb; subst this; rw [hd] at ht; cases ht
  | false=>exact lk_skip hb (h t u ht)
theorem Inc.put {e' e:Env} {d:Nat} {v:Value} (hd:lk e d=some v) (h:Inc e' e):Inc ((d,v) :: e') e:=fun t u ht=>by
  simp only [lk] at ht
  cases hb:Nat.beq d t with
  | true=>rw [hb] at ht; simp at ht; subst ht; have:=Nat.eq_of_beq_eq_true hb; subst this; exact hd
  | false=>rw [hb] at ht; exact h t u ht
theorem ev_inc {e' e:Env} (h:Inc e' e) {x:Operand} {v:Value} (hx:ev e' x=some v):ev e x=some v:=by
  cases x with
  | tmp t=>exact h _ _ hx
  | _=>exact hx
theorem evl_inc {e' e:Env} (h:Inc e' e):∀ {xs:List Operand} {vs:List Value},evl e' xs=some vs→evl e xs=some vs
  | [],_,hx=>hx
  | x :: r,vs,hx=>by
    simp only [evl] at hx
    cases h1:ev e' x with
    | none=>simp [h1] at hx
    | some v =>
      cases h2:evl e' r with
      | none=>simp [h1,h2] at hx
      | some us =>
        simp only [h1,h2] at hx
        simp only [evl,ev_inc h h1,evl_inc h h2]; exact hx
theorem beq_comm_ (a b:Nat):Nat.beq a b=Nat.beq b a:=by
  cases h:Nat.beq a b with
  | true=>have:=Nat.eq_of_beq_eq_true h; subst this; exact h.symm
  | false=>cases k:Nat.beq b a with
    | true=>have:=Nat.eq_of_beq_eq_true k; subst this; rw [h] at k; cases k
    | false=>rfl
section
variable {P:Program} {n:Nat} {Q:Exit→Act→World→Prop} {ops:Array Oper} {S:World→Prop} {T:List Nat} {fuel:Nat} {listed:Array Bool} {e e':Env} {w:World}
theorem D.inc (h:Inc e' e) (k:D P n Q ops S T fuel listed e' w):D P n Q ops S T fuel listed e w:=fun hs hc a ha=>k hs hc a ⟨ha.defers,ha.size,fun t v ht=>ha.get t v (h t v ht)⟩
theorem setT_comm (l:Array Bool) (i j:Nat):(l.setIfInBounds i true).setIfInBounds j true=(l.setIfInBounds j true).setIfInBounds i true:=by
  by_cases h:i=j
  · subst h; rfl
  exact Array.setIfInBounds_comm _ _ h
theorem stepCall {i d : Nat} {f : FuncId} {xs : List Operand} {vs : List Value} {ats : Array TypeId} {ty : TypeId} {pos : String} {after : Array Edge} {R : Value → World → Prop}
    (hi:ops[i]?=some ⟨some d,.call ⟨.value (.func f),xs.toArray,ats⟩,ty,pos,after,none⟩) (hx:evl e xs=some vs) (hr:Ret P f vs.toArray w R) (hd:Nat.blt d n=true)
    (h:∀ v w',R v w'→(T.contains i=true∨S w')∧D P n Q ops S T fuel (listed.setIfInBounds i true) ((d,v) :: e) w'):Step1 P n Q ops S T fuel i listed e w :=
  ⟨_,hi,fun hX=>L.call hx hr hd (fun v w' hv=>L.nil (hX _ _ (h v w' hv)))⟩
theorem stepAlloc {i d : Nat} {t : TypeId} {z : Value} {s b : Nat} {ty : TypeId} {pos : String} {after : Array Edge}
    (hi:ops[i]?=some ⟨some d,.alloc t,ty,pos,after,none⟩) (hz:zeroT P t=some (z,s,b)) (hd:Nat.blt d n=true)
    (h:∀ g w',New w w' g t z.cells→(T.contains i=true∨S w')∧D P n Q ops S T fuel (listed.setIfInBounds i true) ((d,.pointer (some ⟨g,0,none⟩)) :: e) w'):Step1 P n Q ops S T fuel i listed e w :=
  ⟨_,hi,fun hX=>L.alloc hz hd (fun g w' hN=>L.nil (hX _ _ (h g w' hN)))⟩
def par2B (ops:Array Oper) (listed:Array Bool) (i1 i2 j1 j2:Nat):Bool :=
  Region.ready .any ops listed == [i1,j1,j2] &&
  Region.ready .any ops (listed.setIfInBounds j1 true) == [i1,j2] &&
  Region.ready .any ops (listed.setIfInBounds j2 true) == [i1,j1] &&
  Region.ready .any ops ((listed.setIfInBounds j1 true).setIfInBounds j2 true) == [i1] &&
  Region.ready .any ops (listed.setIfInBounds i1 true) == [i2,j1,j2] &&
  Region.ready .any ops ((listed.setIfInBounds i1 true).setIfInBounds j1 true) == [i2,j2] &&
  Region.ready .any ops ((listed.setIfInBounds i1 true).setIfInBounds j2 true) == [i2,j1] &&
  Region.ready .any ops (((listed.setIfInBounds i1 true).setIfInBounds j1 true).setIfInBounds j2 true) == [i2] &&
  Region.ready .any ops ((listed.setIfInBounds i1 true).setIfInBounds i2 true) == [j1,j2] &&
  Region.ready .any ops (((listed.setIfInBounds i1 true).setIfInBounds i2 true).setIfInBounds j1 true) == [j2] &&
  Region.ready .any ops (((listed.setIfInBounds i1 true).setIfInBounds i2 true).setIfInBounds j2 true) == [j1]
structure Par2 (w wa1 wb1 wa2 wb2 w':World) (F1 F2:Prop) (g1 g2 t1 t2:Nat) (c1 c2:Array Value):Prop where
  m1:Mod [] w wa1
  f1:F1
  m2:Mod [] wb1 wa2
  f2:F2
  m3:Mod [] wb2 w'
  m12:Mod [] w wa2
  n1:Mod [] wb1 w'
  mod:Mod [] w w'
  ge1:w.heap.size≤g1
  ge2:w.heap.size≤g2
  ne:g1≠g2
  blk1:Blk w' g1 t1 c1
  blk2:Blk w' g2 t2 c2
  p11:g1<wa1.heap.size∨wb1.heap.size≤g1
  p12:g1<wa2.heap.size∨wb2.heap.size≤g1
  p21:g2<wa1.heap.size∨wb1.heap.size≤g2
  p22:g2<wa2.heap.size∨wb2.heap.size≤g2
theorem D.par2 {w0 : World} {P : Program} {n : Nat} {Q : Exit → Act → World → Prop} {ops : Array Oper} {T : List Nat} {fuel : Nat} {listed : Array Bool} {e : Env} {w : World} (i1 i2 j1 j2 : Nat) {d1 d2 a1 a2 : Nat} {f1 f2 : FuncId} {xs1 xs2 : List Operand} {vs1 vs2 : List Value} {ats1 ats2 : Array TypeId} {ty1 ty2 ty3 ty4 : TypeId} {pos1 pos2 pos3 pos4 : String} {af1 af2 af3 af4 : Array Edge} {F1 F2 : World → Value → World → Prop} {t1 t2 : TypeId} {z1 z2 : Value} {s1 s2 y1 y2 : Nat}
    (oc1:ops[i1]?=some ⟨some d1,.call ⟨.value (.func f1),xs1.toArray,ats1⟩,ty1,pos1,af1,none⟩) (oc2:ops[i2]?=some ⟨some d2,.call ⟨.value (.func f2),xs2.toArray,ats2⟩,ty2,pos2,af2,none⟩)
    (oj1:ops[j1]?=some ⟨some a1,.alloc t1,ty3,pos3,af3,none⟩) (oj2:ops[j2]?=some ⟨some a2,.alloc t2,ty4,pos4,af4,none⟩)
    (hpar:par2B ops listed i1 i2 j1 j2=true) (hx1:evl e xs1=some vs1) (hx2:evl e xs2=some vs2) (P1:zeroT P t1=some (z1,s1,y1)) (P2:zeroT P t2=some (z2,s2,y2))
    (hk:((lk e d1).isNone && (lk e d2).isNone && (lk e a1).isNone && (lk e a2).isNone)=true) (hn:(Nat.blt d1 n && Nat.blt d2 n && Nat.blt a1 n && Nat.blt a2 n)=true)
    (hne:(Nat.beq d1 d2 || Nat.beq d1 a1 || Nat.beq d1 a2 || Nat.beq d2 a1 || Nat.beq d2 a2 || Nat.beq a1 a2)=false)
    (hS:Mod [] w0 w)
    (con1:∀ wa,Mod [] w wa→Ret P f1 vs1.toArray wa (fun v wb=>F1 wa v wb∧Mod [] wa wb)) (con2:∀ wa,Mod [] w wa→Ret P f2 vs2.toArray wa (fun v wb=>F2 wa v wb∧Mod [] wa wb))
    (fin:∀ v1 v2 g1 g2 wa1 wb1 wa2 wb2 w',Par2 w wa1 wb1 wa2 wb2 w' (F1 wa1 v1 wb1) (F2 wa2 v2 wb2) g1 g2 t1 t2 z1.cells z2.cells →
      D P n Q ops (fun w'=>Mod [] w0 w') T fuel ((((listed.setIfInBounds i1 true).setIfInBounds i2 true).setIfInBounds j1 true).setIfInBounds j2 true) ((a2,.pointer (some ⟨g2,0,none⟩)) :: (a1,.pointer (some ⟨g1,0,none⟩)) :: (d2,v2) :: (d1,v1) :: e) w') :
    D P n Q ops (fun w'=>Mod [] w0 w') T (fuel + 1 + 1 + 1 + 1) listed e w:=by
  simp only [par2B,Bool.and_eq_true,beq_iff_eq] at hpar
  obtain ⟨⟨⟨⟨⟨⟨⟨⟨⟨⟨r_,r_j1⟩,r_j2⟩,r_j1j2⟩,r_c1⟩,r_c1j1⟩,r_c1j2⟩,r_c1j1j2⟩,r_c1c2⟩,r_c1c2j1⟩,r_c1c2j2⟩:=hpar
  simp only [Bool.and_eq_true,Option.isNone_iff_eq_none] at hk hn
  obtain ⟨⟨⟨k_d1,k_d2⟩,k_a1⟩,k_a2⟩:=hk
  obtain ⟨⟨⟨b_d1,b_d2⟩,b_a1⟩,b_a2⟩:=hn
  have bd1:=b_d1;have bd2:=b_d2;have ba1:=b_a1;have ba2:=b_a2
  simp only [Bool.or_eq_false_iff] at hne
  obtain ⟨⟨⟨⟨⟨n_d1_d2,n_d1_a1⟩,n_d1_a2⟩,n_d2_a1⟩,n_d2_a2⟩,n_a1_a2⟩:=hne
  have n_d2_d1:Nat.beq d2 d1=false:=by rw [← n_d1_d2]; exact beq_comm_ _ _
  have n_a1_d1:Nat.beq a1 d1=false:=by rw [← n_d1_a1]; exact beq_comm_ _ _
  have n_a2_d1:Nat.beq a2 d1=false:=by rw [← n_d1_a2]; exact beq_comm_ _ _
  have n_a1_d2:Nat.beq a1 d2=false:=by rw [← n_d2_a1]; exact beq_comm_ _ _
  have n_a2_d2:Nat.beq a2 d2=false:=by rw [← n_d2_a2]; exact beq_comm_ _ _
  have n_a2_a1:Nat.beq a2 a1=false:=by rw [← n_a1_a2]; exact beq_comm_ _ _
  refine D.many (rs:=[i1,j1,j2]) r_ rfl ?_
  intro i hi
  simp only [List.mem_cons,List.not_mem_nil,or_false] at hi
  rcases hi with hi | hi | hi
  ·
    rw [hi]
    refine stepCall oc1 (evl_inc (Inc.refl e) hx1) (con1 w (Mod.refl [] _)) bd1 ?_
    rintro v1 x1 ⟨hF1,hM1⟩
    refine ⟨.inr (hS.trans hM1),?_⟩
    refine D.many (rs:=[i2,j1,j2]) r_c1 rfl ?_
    intro i hi
    simp only [List.mem_cons,List.not_mem_nil,or_false] at hi
    rcases hi with hi | hi | hi
    ·
      rw [hi]
      refine stepCall oc2 (evl_inc ((Inc.refl e).skip k_d1) hx2) (con2 x1 hM1) bd2 ?_
      rintro v2 x2 ⟨hF2,hM2⟩
      refine ⟨.inr (hS.trans (hM1.trans hM2)),?_⟩
      refine D.many (rs:=[j1,j2]) r_c1c2 rfl ?_
      intro i hi
      simp only [List.mem_cons,List.not_mem_nil,or_false] at hi
      rcases hi with hi | hi
      ·
        rw [hi]
        refine stepAlloc oj1 P1 ba1 ?_
        intro g1 x3 D1
        have hM3:=D1.mod
        refine ⟨.inr (hS.trans ((hM1.trans hM2).trans hM3)),?_⟩
        refine D.many (rs:=[j2]) r_c1c2j1 rfl ?_
        intro i hi
        simp only [List.mem_cons,List.not_mem_nil,or_false] at hi
        skip
        rw [hi]
        refine stepAlloc oj2 P2 ba2 ?_
        intro g2 x4 D2
        have hM4:=D2.mod
        refine ⟨.inr (hS.trans (((hM1.trans hM2).trans hM3).trans hM4)),?_⟩
        exact D.inc (Inc.put (lk_here _ _ _) (Inc.put ((lk_skip n_a2_a1 (lk_here _ _ _))) (Inc.put ((lk_skip n_a2_d2 ((lk_skip n_a1_d2 (lk_here _ _ _))))) (Inc.put ((lk_skip n_a2_d1 ((lk_skip n_a1_d1 ((lk_skip n_d2_d1 (lk_here _ _ _))))))) (((((Inc.refl e).skip k_d1).skip k_d2).skip k_a1).skip k_a2))))) (fin v1 v2 g1 g2 w x1 x1 x2 x4 ⟨(Mod.refl [] _),hF1,(Mod.refl [] _),hF2,(hM3.trans hM4),hM1,((hM2.trans hM3).trans hM4),(((hM1.trans hM2).trans hM3).trans hM4),(New.ge D1 (hM1.trans hM2).size),(New.ge D2 ((hM1.trans hM2).trans hM3).size),(Blk.ne_ (Blk.gr D1.blk (Mod.refl [] _)) D2),(Blk.gr D1.blk hM4),(Blk.gr D2.blk (Mod.refl [] _)),(.inr (New.ge D1 hM2.size)),(.inr (New.ge D1 (Mod.refl [] _).size)),(.inr (New.ge D2 (hM2.trans hM3).size)),(.inr (New.ge D2 hM3.size))⟩)
      rw [hi]
      refine stepAlloc oj2 P2 ba2 ?_
      intro g2 x3 D2
      have hM3:=D2.mod
      refine ⟨.inr (hS.trans ((hM1.trans hM2).trans hM3)),?_⟩
      refine D.many (rs:=[j1]) r_c1c2j2 rfl ?_
      intro i hi
      simp only [List.mem_cons,List.not_mem_nil,or_false] at hi
      skip
      rw [hi]
      refine stepAlloc oj1 P1 ba1 ?_
      intro g1 x4 D1
      have hM4:=D1.mod
      refine ⟨.inr (hS.trans (((hM1.trans hM2).trans hM3).trans hM4)),?_⟩
      rw [setT_comm ((listed.setIfInBounds i1 true).setIfInBounds i2 true) j2 j1]
      exact D.inc (Inc.put ((lk_skip n_a1_a2 (lk_here _ _ _))) (Inc.put (lk_here _ _ _) (Inc.put ((lk_skip n_a1_d2 ((lk_skip n_a2_d2 (lk_here _ _ _))))) (Inc.put ((lk_skip n_a1_d1 ((lk_skip n_a2_d1 ((lk_skip n_d2_d1 (lk_here _ _ _))))))) (((((Inc.refl e).skip k_d1).skip k_d2).skip k_a2).skip k_a1))))) (fin v1 v2 g1 g2 w x1 x1 x2 x4 ⟨(Mod.refl [] _),hF1,(Mod.refl [] _),hF2,(hM3.trans hM4),hM1,((hM2.trans hM3).trans hM4),(((hM1.trans hM2).trans hM3).trans hM4),(New.ge D1 ((hM1.trans hM2).trans hM3).size),(New.ge D2 (hM1.trans hM2).size),(Ne.symm (Blk.ne_ (Blk.gr D2.blk (Mod.refl [] _)) D1)),(Blk.gr D1.blk (Mod.refl [] _)),(Blk.gr D2.blk hM4),(.inr (New.ge D1 (hM2.trans hM3).size)),(.inr (New.ge D1 hM3.size)),(.inr (New.ge D2 hM2.size)),(.inr (New.ge D2 (Mod.refl [] _).size))⟩)
    ·
      rw [hi]
      refine stepAlloc oj1 P1 ba1 ?_
      intro g1 x2 D1
      have hM2:=D1.mod
      refine ⟨.inr (hS.trans (hM1.trans hM2)),?_⟩
      refine D.many (rs:=[i2,j2]) r_c1j1 rfl ?_
      intro i hi
      simp only [List.mem_cons,List.not_mem_nil,or_false] at hi
      rcases hi with hi | hi
      ·
        rw [hi]
        refine stepCall oc2 (evl_inc (((Inc.refl e).skip k_d1).skip k_a1) hx2) (con2 x2 (hM1.trans hM2)) bd2 ?_
        rintro v2 x3 ⟨hF2,hM3⟩
        refine ⟨.inr (hS.trans ((hM1.trans hM2).trans hM3)),?_⟩
        refine D.many (rs:=[j2]) (by rw [setT_comm (listed.setIfInBounds i1 true) j1 i2]; exact r_c1c2j1) rfl ?_
        intro i hi
        simp only [List.mem_cons,List.not_mem_nil,or_false] at hi
        skip
        rw [hi]
        refine stepAlloc oj2 P2 ba2 ?_
        intro g2 x4 D2
        have hM4:=D2.mod
        refine ⟨.inr (hS.trans (((hM1.trans hM2).trans hM3).trans hM4)),?_⟩
        rw [setT_comm (listed.setIfInBounds i1 true) j1 i2]
        exact D.inc (Inc.put (lk_here _ _ _) (Inc.put ((lk_skip n_a2_a1 ((lk_skip n_d2_a1 (lk_here _ _ _))))) (Inc.put ((lk_skip n_a2_d2 (lk_here _ _ _))) (Inc.put ((lk_skip n_a2_d1 ((lk_skip n_d2_d1 ((lk_skip n_a1_d1 (lk_here _ _ _))))))) (((((Inc.refl e).skip k_d1).skip k_a1).skip k_d2).skip k_a2))))) (fin v1 v2 g1 g2 w x1 x2 x3 x4 ⟨(Mod.refl [] _),hF1,hM2,hF2,hM4,(hM1.trans hM2),((hM2.trans hM3).trans hM4),(((hM1.trans hM2).trans hM3).trans hM4),(New.ge D1 hM1.size),(New.ge D2 ((hM1.trans hM2).trans hM3).size),(Blk.ne_ (Blk.gr D1.blk hM3) D2),(Blk.gr D1.blk (hM3.trans hM4)),(Blk.gr D2.blk (Mod.refl [] _)),(.inr (New.ge D1 (Mod.refl [] _).size)),(.inl (Nat.lt_of_lt_of_le D1.blk.lt (Mod.refl [] _).size)),(.inr (New.ge D2 (hM2.trans hM3).size)),(.inr (New.ge D2 (Mod.refl [] _).size))⟩)
      rw [hi]
      refine stepAlloc oj2 P2 ba2 ?_
      intro g2 x3 D2
      have hM3:=D2.mod
      refine ⟨.inr (hS.trans ((hM1.trans hM2).trans hM3)),?_⟩
      refine D.many (rs:=[i2]) r_c1j1j2 rfl ?_
      intro i hi
      simp only [List.mem_cons,List.not_mem_nil,or_false] at hi
      skip
      rw [hi]
      refine stepCall oc2 (evl_inc ((((Inc.refl e).skip k_d1).skip k_a1).skip k_a2) hx2) (con2 x3 ((hM1.trans hM2).trans hM3)) bd2 ?_
      rintro v2 x4 ⟨hF2,hM4⟩
      refine ⟨.inr (hS.trans (((hM1.trans hM2).trans hM3).trans hM4)),?_⟩
      rw [setT_comm ((listed.setIfInBounds i1 true).setIfInBounds j1 true) j2 i2,setT_comm (listed.setIfInBounds i1 true) j1 i2]
      exact D.inc (Inc.put ((lk_skip n_d2_a2 (lk_here _ _ _))) (Inc.put ((lk_skip n_d2_a1 ((lk_skip n_a2_a1 (lk_here _ _ _))))) (Inc.put (lk_here _ _ _) (Inc.put ((lk_skip n_d2_d1 ((lk_skip n_a2_d1 ((lk_skip n_a1_d1 (lk_here _ _ _))))))) (((((Inc.refl e).skip k_d1).skip k_a1).skip k_a2).skip k_d2))))) (fin v1 v2 g1 g2 w x1 x3 x4 x4 ⟨(Mod.refl [] _),hF1,(hM2.trans hM3),hF2,(Mod.refl [] _),((hM1.trans hM2).trans hM3),((hM2.trans hM3).trans hM4),(((hM1.trans hM2).trans hM3).trans hM4),(New.ge D1 hM1.size),(New.ge D2 (hM1.trans hM2).size),(Blk.ne_ (Blk.gr D1.blk (Mod.refl [] _)) D2),(Blk.gr D1.blk (hM3.trans hM4)),(Blk.gr D2.blk hM4),(.inr (New.ge D1 (Mod.refl [] _).size)),(.inl (Nat.lt_of_lt_of_le D1.blk.lt hM3.size)),(.inr (New.ge D2 hM2.size)),(.inl (Nat.lt_of_lt_of_le D2.blk.lt (Mod.refl [] _).size))⟩)
    rw [hi]
    refine stepAlloc oj2 P2 ba2 ?_
    intro g2 x2 D2
    have hM2:=D2.mod
    refine ⟨.inr (hS.trans (hM1.trans hM2)),?_⟩
    refine D.many (rs:=[i2,j1]) r_c1j2 rfl ?_
    intro i hi
    simp only [List.mem_cons,List.not_mem_nil,or_false] at hi
    rcases hi with hi | hi
    ·
      rw [hi]
      refine stepCall oc2 (evl_inc (((Inc.refl e).skip k_d1).skip k_a2) hx2) (con2 x2 (hM1.trans hM2)) bd2 ?_
      rintro v2 x3 ⟨hF2,hM3⟩
      refine ⟨.inr (hS.trans ((hM1.trans hM2).trans hM3)),?_⟩
      refine D.many (rs:=[j1]) (by rw [setT_comm (listed.setIfInBounds i1 true) j2 i2]; exact r_c1c2j2) rfl ?_
      intro i hi
      simp only [List.mem_cons,List.not_mem_nil,or_false] at hi
      skip
      rw [hi]
      refine stepAlloc oj1 P1 ba1 ?_
      intro g1 x4 D1
      have hM4:=D1.mod
      refine ⟨.inr (hS.trans (((hM1.trans hM2).trans hM3).trans hM4)),?_⟩
      rw [setT_comm (listed.setIfInBounds i1 true) j2 i2,setT_comm ((listed.setIfInBounds i1 true).setIfInBounds i2 true) j2 j1]
      exact D.inc (Inc.put ((lk_skip n_a1_a2 ((lk_skip n_d2_a2 (lk_here _ _ _))))) (Inc.put (lk_here _ _ _) (Inc.put ((lk_skip n_a1_d2 (lk_here _ _ _))) (Inc.put ((lk_skip n_a1_d1 ((lk_skip n_d2_d1 ((lk_skip n_a2_d1 (lk_here _ _ _))))))) (((((Inc.refl e).skip k_d1).skip k_a2).skip k_d2).skip k_a1))))) (fin v1 v2 g1 g2 w x1 x2 x3 x4 ⟨(Mod.refl [] _),hF1,hM2,hF2,hM4,(hM1.trans hM2),((hM2.trans hM3).trans hM4),(((hM1.trans hM2).trans hM3).trans hM4),(New.ge D1 ((hM1.trans hM2).trans hM3).size),(New.ge D2 hM1.size),(Ne.symm (Blk.ne_ (Blk.gr D2.blk hM3) D1)),(Blk.gr D1.blk (Mod.refl [] _)),(Blk.gr D2.blk (hM3.trans hM4)),(.inr (New.ge D1 (hM2.trans hM3).size)),(.inr (New.ge D1 (Mod.refl [] _).size)),(.inr (New.ge D2 (Mod.refl [] _).size)),(.inl (Nat.lt_of_lt_of_le D2.blk.lt (Mod.refl [] _).size))⟩)
    rw [hi]
    refine stepAlloc oj1 P1 ba1 ?_
    intro g1 x3 D1
    have hM3:=D1.mod
    refine ⟨.inr (hS.trans ((hM1.trans hM2).trans hM3)),?_⟩
    refine D.many (rs:=[i2]) (by rw [setT_comm (listed.setIfInBounds i1 true) j2 j1]; exact r_c1j1j2) rfl ?_
    intro i hi
    simp only [List.mem_cons,List.not_mem_nil,or_false] at hi
    skip
    rw [hi]
    refine stepCall oc2 (evl_inc ((((Inc.refl e).skip k_d1).skip k_a2).skip k_a1) hx2) (con2 x3 ((hM1.trans hM2).trans hM3)) bd2 ?_
    rintro v2 x4 ⟨hF2,hM4⟩
    refine ⟨.inr (hS.trans (((hM1.trans hM2).trans hM3).trans hM4)),?_⟩
    rw [setT_comm (listed.setIfInBounds i1 true) j2 j1,setT_comm ((listed.setIfInBounds i1 true).setIfInBounds j1 true) j2 i2,setT_comm (listed.setIfInBounds i1 true) j1 i2]
    exact D.inc (Inc.put ((lk_skip n_d2_a2 ((lk_skip n_a1_a2 (lk_here _ _ _))))) (Inc.put ((lk_skip n_d2_a1 (lk_here _ _ _))) (Inc.put (lk_here _ _ _) (Inc.put ((lk_skip n_d2_d1 ((lk_skip n_a1_d1 ((lk_skip n_a2_d1 (lk_here _ _ _))))))) (((((Inc.refl e).skip k_d1).skip k_a2).skip k_a1).skip k_d2))))) (fin v1 v2 g1 g2 w x1 x3 x4 x4 ⟨(Mod.refl [] _),hF1,(hM2.trans hM3),hF2,(Mod.refl [] _),((hM1.trans hM2).trans hM3),((hM2.trans hM3).trans hM4),(((hM1.trans hM2).trans hM3).trans hM4),(New.ge D1 (hM1.trans hM2).size),(New.ge D2 hM1.size),(Ne.symm (Blk.ne_ (Blk.gr D2.blk (Mod.refl [] _)) D1)),(Blk.gr D1.blk hM4),(Blk.gr D2.blk (hM3.trans hM4)),(.inr (New.ge D1 hM2.size)),(.inl (Nat.lt_of_lt_of_le D1.blk.lt (Mod.refl [] _).size)),(.inr (New.ge D2 (Mod.refl [] _).size)),(.inl (Nat.lt_of_lt_of_le D2.blk.lt hM3.size))⟩)
  ·
    rw [hi]
    refine stepAlloc oj1 P1 ba1 ?_
    intro g1 x1 D1
    have hM1:=D1.mod
    refine ⟨.inr (hS.trans hM1),?_⟩
    refine D.many (rs:=[i1,j2]) r_j1 rfl ?_
    intro i hi
    simp only [List.mem_cons,List.not_mem_nil,or_false] at hi
    rcases hi with hi | hi
    ·
      rw [hi]
      refine stepCall oc1 (evl_inc ((Inc.refl e).skip k_a1) hx1) (con1 x1 hM1) bd1 ?_
      rintro v1 x2 ⟨hF1,hM2⟩
      refine ⟨.inr (hS.trans (hM1.trans hM2)),?_⟩
      refine D.many (rs:=[i2,j2]) (by rw [setT_comm listed j1 i1]; exact r_c1j1) rfl ?_
      intro i hi
      simp only [List.mem_cons,List.not_mem_nil,or_false] at hi
      rcases hi with hi | hi
      ·
        rw [hi]
        refine stepCall oc2 (evl_inc (((Inc.refl e).skip k_a1).skip k_d1) hx2) (con2 x2 (hM1.trans hM2)) bd2 ?_
        rintro v2 x3 ⟨hF2,hM3⟩
        refine ⟨.inr (hS.trans ((hM1.trans hM2).trans hM3)),?_⟩
        refine D.many (rs:=[j2]) (by rw [setT_comm listed j1 i1,setT_comm (listed.setIfInBounds i1 true) j1 i2]; exact r_c1c2j1) rfl ?_
        intro i hi
        simp only [List.mem_cons,List.not_mem_nil,or_false] at hi
        skip
        rw [hi]
        refine stepAlloc oj2 P2 ba2 ?_
        intro g2 x4 D2
        have hM4:=D2.mod
        refine ⟨.inr (hS.trans (((hM1.trans hM2).trans hM3).trans hM4)),?_⟩
        rw [setT_comm listed j1 i1,setT_comm (listed.setIfInBounds i1 true) j1 i2]
        exact D.inc (Inc.put (lk_here _ _ _) (Inc.put ((lk_skip n_a2_a1 ((lk_skip n_d2_a1 ((lk_skip n_d1_a1 (lk_here _ _ _))))))) (Inc.put ((lk_skip n_a2_d2 (lk_here _ _ _))) (Inc.put ((lk_skip n_a2_d1 ((lk_skip n_d2_d1 (lk_here _ _ _))))) (((((Inc.refl e).skip k_a1).skip k_d1).skip k_d2).skip k_a2))))) (fin v1 v2 g1 g2 x1 x2 x2 x3 x4 ⟨hM1,hF1,(Mod.refl [] _),hF2,hM4,(hM1.trans hM2),(hM3.trans hM4),(((hM1.trans hM2).trans hM3).trans hM4),(New.ge D1 (Mod.refl [] _).size),(New.ge D2 ((hM1.trans hM2).trans hM3).size),(Blk.ne_ (Blk.gr D1.blk (hM2.trans hM3)) D2),(Blk.gr D1.blk ((hM2.trans hM3).trans hM4)),(Blk.gr D2.blk (Mod.refl [] _)),(.inl (Nat.lt_of_lt_of_le D1.blk.lt (Mod.refl [] _).size)),(.inl (Nat.lt_of_lt_of_le D1.blk.lt hM2.size)),(.inr (New.ge D2 hM3.size)),(.inr (New.ge D2 (Mod.refl [] _).size))⟩)
      rw [hi]
      refine stepAlloc oj2 P2 ba2 ?_
      intro g2 x3 D2
      have hM3:=D2.mod
      refine ⟨.inr (hS.trans ((hM1.trans hM2).trans hM3)),?_⟩
      refine D.many (rs:=[i2]) (by rw [setT_comm listed j1 i1]; exact r_c1j1j2) rfl ?_
      intro i hi
      simp only [List.mem_cons,List.not_mem_nil,or_false] at hi
      skip
      rw [hi]
      refine stepCall oc2 (evl_inc ((((Inc.refl e).skip k_a1).skip k_d1).skip k_a2) hx2) (con2 x3 ((hM1.trans hM2).trans hM3)) bd2 ?_
      rintro v2 x4 ⟨hF2,hM4⟩
      refine ⟨.inr (hS.trans (((hM1.trans hM2).trans hM3).trans hM4)),?_⟩
      rw [setT_comm listed j1 i1,setT_comm ((listed.setIfInBounds i1 true).setIfInBounds j1 true) j2 i2,setT_comm (listed.setIfInBounds i1 true) j1 i2]
      exact D.inc (Inc.put ((lk_skip n_d2_a2 (lk_here _ _ _))) (Inc.put ((lk_skip n_d2_a1 ((lk_skip n_a2_a1 ((lk_skip n_d1_a1 (lk_here _ _ _))))))) (Inc.put (lk_here _ _ _) (Inc.put ((lk_skip n_d2_d1 ((lk_skip n_a2_d1 (lk_here _ _ _))))) (((((Inc.refl e).skip k_a1).skip k_d1).skip k_a2).skip k_d2))))) (fin v1 v2 g1 g2 x1 x2 x3 x4 x4 ⟨hM1,hF1,hM3,hF2,(Mod.refl [] _),((hM1.trans hM2).trans hM3),(hM3.trans hM4),(((hM1.trans hM2).trans hM3).trans hM4),(New.ge D1 (Mod.refl [] _).size),(New.ge D2 (hM1.trans hM2).size),(Blk.ne_ (Blk.gr D1.blk hM2) D2),(Blk.gr D1.blk ((hM2.trans hM3).trans hM4)),(Blk.gr D2.blk hM4),(.inl (Nat.lt_of_lt_of_le D1.blk.lt (Mod.refl [] _).size)),(.inl (Nat.lt_of_lt_of_le D1.blk.lt (hM2.trans hM3).size)),(.inr (New.ge D2 (Mod.refl [] _).size)),(.inl (Nat.lt_of_lt_of_le D2.blk.lt (Mod.refl [] _).size))⟩)
    rw [hi]
    refine stepAlloc oj2 P2 ba2 ?_
    intro g2 x2 D2
    have hM2:=D2.mod
    refine ⟨.inr (hS.trans (hM1.trans hM2)),?_⟩
    refine D.many (rs:=[i1]) r_j1j2 rfl ?_
    intro i hi
    simp only [List.mem_cons,List.not_mem_nil,or_false] at hi
    skip
    rw [hi]
    refine stepCall oc1 (evl_inc (((Inc.refl e).skip k_a1).skip k_a2) hx1) (con1 x2 (hM1.trans hM2)) bd1 ?_
    rintro v1 x3 ⟨hF1,hM3⟩
    refine ⟨.inr (hS.trans ((hM1.trans hM2).trans hM3)),?_⟩
    refine D.many (rs:=[i2]) (by rw [setT_comm (listed.setIfInBounds j1 true) j2 i1,setT_comm listed j1 i1]; exact r_c1j1j2) rfl ?_
    intro i hi
    simp only [List.mem_cons,List.not_mem_nil,or_false] at hi
    skip
    rw [hi]
    refine stepCall oc2 (evl_inc ((((Inc.refl e).skip k_a1).skip k_a2).skip k_d1) hx2) (con2 x3 ((hM1.trans hM2).trans hM3)) bd2 ?_
    rintro v2 x4 ⟨hF2,hM4⟩
    refine ⟨.inr (hS.trans (((hM1.trans hM2).trans hM3).trans hM4)),?_⟩
    rw [setT_comm (listed.setIfInBounds j1 true) j2 i1,setT_comm listed j1 i1,setT_comm ((listed.setIfInBounds i1 true).setIfInBounds j1 true) j2 i2,setT_comm (listed.setIfInBounds i1 true) j1 i2]
    exact D.inc (Inc.put ((lk_skip n_d2_a2 ((lk_skip n_d1_a2 (lk_here _ _ _))))) (Inc.put ((lk_skip n_d2_a1 ((lk_skip n_d1_a1 ((lk_skip n_a2_a1 (lk_here _ _ _))))))) (Inc.put (lk_here _ _ _) (Inc.put ((lk_skip n_d2_d1 (lk_here _ _ _))) (((((Inc.refl e).skip k_a1).skip k_a2).skip k_d1).skip k_d2))))) (fin v1 v2 g1 g2 x2 x3 x3 x4 x4 ⟨(hM1.trans hM2),hF1,(Mod.refl [] _),hF2,(Mod.refl [] _),((hM1.trans hM2).trans hM3),hM4,(((hM1.trans hM2).trans hM3).trans hM4),(New.ge D1 (Mod.refl [] _).size),(New.ge D2 hM1.size),(Blk.ne_ (Blk.gr D1.blk (Mod.refl [] _)) D2),(Blk.gr D1.blk ((hM2.trans hM3).trans hM4)),(Blk.gr D2.blk (hM3.trans hM4)),(.inl (Nat.lt_of_lt_of_le D1.blk.lt hM2.size)),(.inl (Nat.lt_of_lt_of_le D1.blk.lt (hM2.trans hM3).size)),(.inl (Nat.lt_of_lt_of_le D2.blk.lt (Mod.refl [] _).size)),(.inl (Nat.lt_of_lt_of_le D2.blk.lt hM3.size))⟩)
  rw [hi]
  refine stepAlloc oj2 P2 ba2 ?_
  intro g2 x1 D2
  have hM1:=D2.mod
  refine ⟨.inr (hS.trans hM1),?_⟩
  refine D.many (rs:=[i1,j1]) r_j2 rfl ?_
  intro i hi
  simp only [List.mem_cons,List.not_mem_nil,or_false] at hi
  rcases hi with hi | hi
  ·
    rw [hi]
    refine stepCall oc1 (evl_inc ((Inc.refl e).skip k_a2) hx1) (con1 x1 hM1) bd1 ?_
    rintro v1 x2 ⟨hF1,hM2⟩
    refine ⟨.inr (hS.trans (hM1.trans hM2)),?_⟩
    refine D.many (rs:=[i2,j1]) (by rw [setT_comm listed j2 i1]; exact r_c1j2) rfl ?_
    intro i hi
    simp only [List.mem_cons,List.not_mem_nil,or_false] at hi
    rcases hi with hi | hi
    ·
      rw [hi]
      refine stepCall oc2 (evl_inc (((Inc.refl e).skip k_a2).skip k_d1) hx2) (con2 x2 (hM1.trans hM2)) bd2 ?_
      rintro v2 x3 ⟨hF2,hM3⟩
      refine ⟨.inr (hS.trans ((hM1.trans hM2).trans hM3)),?_⟩
      refine D.many (rs:=[j1]) (by rw [setT_comm listed j2 i1,setT_comm (listed.setIfInBounds i1 true) j2 i2]; exact r_c1c2j2) rfl ?_
      intro i hi
      simp only [List.mem_cons,List.not_mem_nil,or_false] at hi
      skip
      rw [hi]
      refine stepAlloc oj1 P1 ba1 ?_
      intro g1 x4 D1
      have hM4:=D1.mod
      refine ⟨.inr (hS.trans (((hM1.trans hM2).trans hM3).trans hM4)),?_⟩
      rw [setT_comm listed j2 i1,setT_comm (listed.setIfInBounds i1 true) j2 i2,setT_comm ((listed.setIfInBounds i1 true).setIfInBounds i2 true) j2 j1]
      exact D.inc (Inc.put ((lk_skip n_a1_a2 ((lk_skip n_d2_a2 ((lk_skip n_d1_a2 (lk_here _ _ _))))))) (Inc.put (lk_here _ _ _) (Inc.put ((lk_skip n_a1_d2 (lk_here _ _ _))) (Inc.put ((lk_skip n_a1_d1 ((lk_skip n_d2_d1 (lk_here _ _ _))))) (((((Inc.refl e).skip k_a2).skip k_d1).skip k_d2).skip k_a1))))) (fin v1 v2 g1 g2 x1 x2 x2 x3 x4 ⟨hM1,hF1,(Mod.refl [] _),hF2,hM4,(hM1.trans hM2),(hM3.trans hM4),(((hM1.trans hM2).trans hM3).trans hM4),(New.ge D1 ((hM1.trans hM2).trans hM3).size),(New.ge D2 (Mod.refl [] _).size),(Ne.symm (Blk.ne_ (Blk.gr D2.blk (hM2.trans hM3)) D1)),(Blk.gr D1.blk (Mod.refl [] _)),(Blk.gr D2.blk ((hM2.trans hM3).trans hM4)),(.inr (New.ge D1 hM3.size)),(.inr (New.ge D1 (Mod.refl [] _).size)),(.inl (Nat.lt_of_lt_of_le D2.blk.lt (Mod.refl [] _).size)),(.inl (Nat.lt_of_lt_of_le D2.blk.lt hM2.size))⟩)
    rw [hi]
    refine stepAlloc oj1 P1 ba1 ?_
    intro g1 x3 D1
    have hM3:=D1.mod
    refine ⟨.inr (hS.trans ((hM1.trans hM2).trans hM3)),?_⟩
    refine D.many (rs:=[i2]) (by rw [setT_comm listed j2 i1,setT_comm (listed.setIfInBounds i1 true) j2 j1]; exact r_c1j1j2) rfl ?_
    intro i hi
    simp only [List.mem_cons,List.not_mem_nil,or_false] at hi
    skip
    rw [hi]
    refine stepCall oc2 (evl_inc ((((Inc.refl e).skip k_a2).skip k_d1).skip k_a1) hx2) (con2 x3 ((hM1.trans hM2).trans hM3)) bd2 ?_
    rintro v2 x4 ⟨hF2,hM4⟩
    refine ⟨.inr (hS.trans (((hM1.trans hM2).trans hM3).trans hM4)),?_⟩
    rw [setT_comm listed j2 i1,setT_comm (listed.setIfInBounds i1 true) j2 j1,setT_comm ((listed.setIfInBounds i1 true).setIfInBounds j1 true) j2 i2,setT_comm (listed.setIfInBounds i1 true) j1 i2]
    exact D.inc (Inc.put ((lk_skip n_d2_a2 ((lk_skip n_a1_a2 ((lk_skip n_d1_a2 (lk_here _ _ _))))))) (Inc.put ((lk_skip n_d2_a1 (lk_here _ _ _))) (Inc.put (lk_here _ _ _) (Inc.put ((lk_skip n_d2_d1 ((lk_skip n_a1_d1 (lk_here _ _ _))))) (((((Inc.refl e).skip k_a2).skip k_d1).skip k_a1).skip k_d2))))) (fin v1 v2 g1 g2 x1 x2 x3 x4 x4 ⟨hM1,hF1,hM3,hF2,(Mod.refl [] _),((hM1.trans hM2).trans hM3),(hM3.trans hM4),(((hM1.trans hM2).trans hM3).trans hM4),(New.ge D1 (hM1.trans hM2).size),(New.ge D2 (Mod.refl [] _).size),(Ne.symm (Blk.ne_ (Blk.gr D2.blk hM2) D1)),(Blk.gr D1.blk hM4),(Blk.gr D2.blk ((hM2.trans hM3).trans hM4)),(.inr (New.ge D1 (Mod.refl [] _).size)),(.inl (Nat.lt_of_lt_of_le D1.blk.lt (Mod.refl [] _).size)),(.inl (Nat.lt_of_lt_of_le D2.blk.lt (Mod.refl [] _).size)),(.inl (Nat.lt_of_lt_of_le D2.blk.lt (hM2.trans hM3).size))⟩)
  rw [hi]
  refine stepAlloc oj1 P1 ba1 ?_
  intro g1 x2 D1
  have hM2:=D1.mod
  refine ⟨.inr (hS.trans (hM1.trans hM2)),?_⟩
  refine D.many (rs:=[i1]) (by rw [setT_comm listed j2 j1]; exact r_j1j2) rfl ?_
  intro i hi
  simp only [List.mem_cons,List.not_mem_nil,or_false] at hi
  skip
  rw [hi]
  refine stepCall oc1 (evl_inc (((Inc.refl e).skip k_a2).skip k_a1) hx1) (con1 x2 (hM1.trans hM2)) bd1 ?_
  rintro v1 x3 ⟨hF1,hM3⟩
  refine ⟨.inr (hS.trans ((hM1.trans hM2).trans hM3)),?_⟩
  refine D.many (rs:=[i2]) (by rw [setT_comm listed j2 j1,setT_comm (listed.setIfInBounds j1 true) j2 i1,setT_comm listed j1 i1]; exact r_c1j1j2) rfl ?_
  intro i hi
  simp only [List.mem_cons,List.not_mem_nil,or_false] at hi
  skip
  rw [hi]
  refine stepCall oc2 (evl_inc ((((Inc.refl e).skip k_a2).skip k_a1).skip k_d1) hx2) (con2 x3 ((hM1.trans hM2).trans hM3)) bd2 ?_
  rintro v2 x4 ⟨hF2,hM4⟩
  refine ⟨.inr (hS.trans (((hM1.trans hM2).trans hM3).trans hM4)),?_⟩
  rw [setT_comm listed j2 j1,setT_comm (listed.setIfInBounds j1 true) j2 i1,setT_comm listed j1 i1,setT_comm ((listed.setIfInBounds i1 true).setIfInBounds j1 true) j2 i2,setT_comm (listed.setIfInBounds i1 true) j1 i2]
  exact D.inc (Inc.put ((lk_skip n_d2_a2 ((lk_skip n_d1_a2 ((lk_skip n_a1_a2 (lk_here _ _ _))))))) (Inc.put ((lk_skip n_d2_a1 ((lk_skip n_d1_a1 (lk_here _ _ _))))) (Inc.put (lk_here _ _ _) (Inc.put ((lk_skip n_d2_d1 (lk_here _ _ _))) (((((Inc.refl e).skip k_a2).skip k_a1).skip k_d1).skip k_d2))))) (fin v1 v2 g1 g2 x2 x3 x3 x4 x4 ⟨(hM1.trans hM2),hF1,(Mod.refl [] _),hF2,(Mod.refl [] _),((hM1.trans hM2).trans hM3),hM4,(((hM1.trans hM2).trans hM3).trans hM4),(New.ge D1 hM1.size),(New.ge D2 (Mod.refl [] _).size),(Ne.symm (Blk.ne_ (Blk.gr D2.blk (Mod.refl [] _)) D1)),(Blk.gr D1.blk (hM3.trans hM4)),(Blk.gr D2.blk ((hM2.trans hM3).trans hM4)),(.inl (Nat.lt_of_lt_of_le D1.blk.lt (Mod.refl [] _).size)),(.inl (Nat.lt_of_lt_of_le D1.blk.lt hM3.size)),(.inl (Nat.lt_of_lt_of_le D2.blk.lt hM2.size)),(.inl (Nat.lt_of_lt_of_le D2.blk.lt (hM2.trans hM3).size))⟩)
end
theorem range_bd (w:World):Bd (List.range w.heap.size) w:=fun m hm=>by simpa using hm
theorem U32.par {M:List Nat} {wa wb w':World} {v:Value} {xs:List Nat} (h:U32 (List.range wa.heap.size) wb v xs) (hm:Mod [] wb w') (hM:∀ m∈M,m<wa.heap.size∨wb.heap.size≤m):U32 M w' v xs:=by
  refine ⟨?_,h.2⟩
  have h0:=h.1;obtain ⟨A,cap,h1,h2,h3,h4,h5,h6⟩:=h0
  have h7:Sl M wb 1 v xs.length (xs.map fun (x:Nat)=>Value.int .u32 x):=by
    refine ⟨A,cap,h1,h2,h3,h4,h5,fun ad ha=>⟨fun hn hh=>?_,(h6 ad ha).2⟩⟩
    have hl:0<(xs.map fun (x:Nat)=>Value.int .u32 (x:Int)).length:=by rw [h4]; omega
    have hb:=World.block_lt_of_cell? wb _ ((h6 ad ha).2 0 _ (List.getElem?_eq_getElem hl))
    rw [add_block] at hb
    rcases hM _ hh with h8 | h8
    · exact (h6 ad ha).1 hn (by simpa using h8)
    omega
  exact h7.gr (by omega) hm
theorem RN.par {M:List Nat} {wa wb w':World} {v:Value} {q:Rat} (h:RN (List.range wa.heap.size) wb v q) (hm:Mod [] wb w') (hM:∀ m∈M,m<wa.heap.size∨wb.heap.size≤m):RN M w' v q:=by
  obtain ⟨A,c,B,d,rfl,h1,h2⟩:=h
  exact RN.mk rfl (h1.par hm hM) (h2.par hm hM)
section
variable {w wa1 wb1 wa2 wb2 w':World} {F1 F2:Prop} {g1 g2 t1 t2:Nat} {c1 c2:Array Value} {M:List Nat}
theorem Par2.a1 (h:Par2 w wa1 wb1 wa2 wb2 w' F1 F2 g1 g2 t1 t2 c1 c2) (hbd:Bd M w):∀ m∈g2 :: g1 :: M,m<wa1.heap.size∨wb1.heap.size≤m:=fun m hm=>by
  simp only [List.mem_cons] at hm
  rcases hm with rfl | rfl | hm
  · exact h.p21
  · exact h.p11
  exact .inl (Nat.lt_of_lt_of_le (hbd m hm) h.m1.size)
theorem Par2.a2 (h:Par2 w wa1 wb1 wa2 wb2 w' F1 F2 g1 g2 t1 t2 c1 c2) (hbd:Bd M w):∀ m∈g2 :: g1 :: M,m<wa2.heap.size∨wb2.heap.size≤m:=fun m hm=>by
  simp only [List.mem_cons] at hm
  rcases hm with rfl | rfl | hm
  · exact h.p22
  · exact h.p12
  exact .inl (Nat.lt_of_lt_of_le (hbd m hm) h.m12.size)
theorem U32.par2 {v:Value} {xs:List Nat} (k:U32 M w v xs) (h:Par2 w wa1 wb1 wa2 wb2 w' F1 F2 g1 g2 t1 t2 c1 c2):U32 (g2 :: g1 :: M) w' v xs:=((k.more h.ge1).more h.ge2).gr h.mod
theorem Bd.par2 (k:Bd M w) (h:Par2 w wa1 wb1 wa2 wb2 w' F1 F2 g1 g2 t1 t2 c1 c2):Bd (g2 :: g1 :: M) w':=fun m hm=>by
  simp only [List.mem_cons] at hm
  rcases hm with rfl | rfl | hm
  · exact h.blk2.lt
  · exact h.blk1.lt
  exact Nat.lt_of_lt_of_le (k m hm) h.mod.size
end
end Go.Proofs.YthoooolflmbmbaaGreat
