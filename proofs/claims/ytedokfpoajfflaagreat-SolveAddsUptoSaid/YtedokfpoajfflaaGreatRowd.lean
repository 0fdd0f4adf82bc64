/- Rows of one's own that are built and appended to in a region that draws its order. Nothing of a program in sight. -/
import Derived.Test.YtedokfpoajfflaaGreatPar
import Derived.Test.YtedokfpoajfflaaGreatGen
namespace Go.Proofs.YtedokfpoajfflaaGreat
open Go.RowKit
set_option linter.unusedVariables false
set_option linter.unusedSimpArgs false
structure Rw where
  el:TypeId
  s:Nat
  k:Nat
  cs:List Value
  f:Value→Prop
def Lives (B:Nat) (sl:Nat→Nat) (emb:Nat→Value→Value) (row:Nat→Rw) (e:Env) (w:World) (Lv:Nat→Prop):Prop :=
  ∃ val:Nat→Value,(∀ i,Lv i→lk e (sl i)=some (emb i (val i))∧w.ownsRow B (row i).el (row i).s (val i) (row i).k (row i).cs∧(row i).f (val i))∧∀ i j,Lv i→Lv j→i≠j→Away (val i) (val j)
theorem Lives.weak {B:Nat} {sl:Nat→Nat} {emb:Nat→Value→Value} {row:Nat→Rw} {e:Env} {w:World} {Lv Lv':Nat→Prop} (h:Lives B sl emb row e w Lv) (hw:∀ i,Lv' i→Lv i):Lives B sl emb row e w Lv':=by
  obtain ⟨val,h1,h2⟩:=h
  exact ⟨val,fun i hi=>h1 i (hw i hi),fun i j hi hj=>h2 i j (hw i hi) (hw j hj)⟩
section
variable {P:Program} {n:Nat} {ops:Array Oper} {w0:World} {e:Env} {sl:Nat→Nat} {emb:Nat→Value→Value} {row:Nat→Rw}
def RowStep (P:Program) (n:Nat) (ops:Array Oper) (w0:World) (e:Env) (sl:Nat→Nat) (emb:Nat→Value→Value) (row:Nat→Rw) (oi:Oper) (i:Nat) (dead:Nat→Prop):Prop :=
  ∀ (Q:Exit→Act→World→Prop) (e':Env) (w':World) (Lv:Nat→Prop),Inc e e'→Mod [] w0 w'→Lives w0.heap.size sl emb row e' w' Lv→(∀ j,dead j→Lv j)→¬ Lv i→(∀ j,Lv j→(sl j)≠(sl i)) →
    (∀ v w'',Mod [] w0 w''→Lives w0.heap.size sl emb row (((sl i),emb i v) :: e') w'' (fun j=>j=i∨(Lv j∧¬ dead j))→L P n Q ops [] (((sl i),emb i v) :: e') w'')→L P n Q ops [oi] e' w'
theorem lk_other {d d':Nat} {v:Value} {e:Env} (h:d'≠d):lk ((d,v) :: e) d'=lk e d':=by
  have:Nat.beq d d'=false:=by
    cases hb:Nat.beq d d' with
    | false=>rfl
    | true=>exact absurd (Nat.eq_of_beq_eq_true hb).symm h
  simp only [lk,this,cond_false]
theorem RowStep.build {oi : Oper} {i len : Nat} {cells : Array Value} {dead : Nat → Prop} (hf : ∀ g, (row i).f (.slice (some ⟨g, 0, none⟩) len len))
    (hown:∀ {g:Nat} {w1 w2:World},New w1 w2 g (row i).el cells→w0.heap.size≤w1.heap.size→w2.ownsRow w0.heap.size (row i).el (row i).s (.slice (some ⟨g,0,none⟩) len len) (row i).k (row i).cs)
    (hL:∀ {Q:Exit→Act→World→Prop} {e':Env} {w':World},Inc e e'→(∀ g w'',New w' w'' g (row i).el cells→L P n Q ops [] (((sl i),emb i (.slice (some ⟨g,0,none⟩) len len)) :: e') w'')→L P n Q ops [oi] e' w'):RowStep P n ops w0 e sl emb row oi i dead:=by
  intro Q e' w' Lv hI hS hLv hdead hno hdd K
  obtain ⟨val,h1,h2⟩:=hLv
  refine hL hI (fun g w'' hN=>K _ _ (hS.trans hN.mod) ?_)
  refine ⟨fun j=>if j=i then .slice (some ⟨g,0,none⟩) len len else val j,fun j hj=>?_,fun a b ha hb hab=>?_⟩ <;> dsimp only
  · by_cases e1:j=i
    · subst e1
      rw [if_pos rfl]
      exact ⟨lk_here _ _ _,hown hN hS.size,hf g⟩
    rw [if_neg e1]
    have hj2:=(hj.resolve_left e1).1;obtain ⟨h3,h4,h5⟩:=h1 j hj2
    exact ⟨by rw [lk_other (hdd j hj2)]; exact h3,own_gr h4 hN.mod (by simp),h5⟩
  by_cases e1:a=i
  · have e2:b≠i:=fun e2=>hab (e1.trans e2.symm)
    rw [if_pos e1,if_neg e2]
    exact (own_away_new (h1 b (hb.resolve_left e2).1).2.1 hN).symm
  rw [if_neg e1]
  by_cases e2:b=i
  · rw [if_pos e2]; exact own_away_new (h1 a (ha.resolve_left e1).1).2.1 hN
  rw [if_neg e2]; exact h2 a b (ha.resolve_left e1).1 (hb.resolve_left e2).1 hab
theorem RowStep.app {oi : Oper} {i a : Nat} {dead : Nat → Prop} {m : Nat} {news : List Value} (ha : dead a) (hf : ∀ v, (row i).f v) (hel : (row a).el = (row i).el) (hs : (row a).s = (row i).s) (hk : (row i).k = (row a).k + m) (hcs : (row i).cs = (row a).cs ++ news)
    (hL:∀ {Q:Exit→Act→World→Prop} {e':Env} {w':World} {v:Value},Inc e e'→Mod [] w0 w'→(∀ j,dead j→∃ u,lk e' (sl j)=some (emb j u)∧w'.ownsRow w0.heap.size (row j).el (row j).s u (row j).k (row j).cs)→lk e' (sl a)=some (emb a v)→w'.ownsRow w0.heap.size (row a).el (row a).s v (row a).k (row a).cs →
      (∀ v' w'',w''.ownsRow w0.heap.size (row a).el (row a).s v' ((row a).k + m) ((row a).cs ++ news)→Grew v w' v' w''→L P n Q ops [] (((sl i),emb i v') :: e') w'')→L P n Q ops [oi] e' w'):RowStep P n ops w0 e sl emb row oi i dead:=by
  intro Q e' w' Lv hI hS hLv hdead hno hdd K
  obtain ⟨val,h1,h2⟩:=hLv;obtain ⟨h3,h4,_⟩:=h1 a (hdead a ha)
  refine hL hI hS (fun j hj=>⟨val j,(h1 j (hdead j hj)).1,(h1 j (hdead j hj)).2.1⟩) h3 h4 (fun v' w'' hown hG=>K _ _ ?_ ?_)
  · exact hS.old hG.mod (fun g hg=>.inr (own_ge h4 g (by unfold ownL at hg; simpa using hg)).1)
  have hold:∀ j,Lv j→¬ dead j→w''.ownsRow w0.heap.size (row j).el (row j).s (val j) (row j).k (row j).cs∧Away (val j) v':=fun j hj hnd=>by
    have hja:j≠a:=fun e1=>hnd (e1 ▸ ha)
    have hw:=h2 j a hj (hdead a ha) hja;have h5:=(h1 j hj).2.1
    exact ⟨own_gr h5 hG.mod (fun g hg h9=>hw g h9 (by unfold ownL at hg; simpa using hg)),Away.grew hw hG h5⟩
  refine ⟨fun j=>if j=i then v' else val j,fun j hj=>?_,fun x y hx hy hxy=>?_⟩ <;> dsimp only
  · by_cases e1:j=i
    · subst e1
      rw [if_pos rfl]
      refine ⟨lk_here _ _ _,?_,hf _⟩
      rw [← hel,← hs,hk,hcs]; exact hown
    rw [if_neg e1]
    have hj2:=hj.resolve_left e1
    exact ⟨by rw [lk_other (hdd j hj2.1)]; exact (h1 j hj2.1).1,(hold j hj2.1 hj2.2).1,(h1 j hj2.1).2.2⟩
  by_cases e1:x=i
  · have e2:y≠i:=fun e2=>hxy (e1.trans e2.symm)
    rw [if_pos e1,if_neg e2]
    have hy2:=hy.resolve_left e2
    exact (hold y hy2.1 hy2.2).2.symm
  rw [if_neg e1]
  have hx2:=hx.resolve_left e1
  by_cases e2:y=i
  · rw [if_pos e2]; exact (hold x hx2.1 hx2.2).2
  rw [if_neg e2]; exact h2 x y hx2.1 (hy.resolve_left e2).1 hxy
variable {Q:Exit→Act→World→Prop} {T:List Nat} {fuel:Nat} {listed:Array Bool} {w:World} {I:List Nat} {cons:Nat→Nat} {last:Nat}
def rowsB (ops:Array Oper) (listed:Array Bool) (I:List Nat) (z last:Nat) (cons:Nat→Nat):Bool :=
  listed.size == ops.size && (I.contains last && !(z == last)) && I.all (fun i=>decide (i<ops.size) && !listed.getD i false && (i == last || i == z || late ops i 12 last)) &&
  (List.range ops.size).all (fun j=>listed.getD j false || I.contains j || late ops last 12 j) &&
  (List.range ops.size).all (fun j=>match ops[j]? with | some o=>o.after.all (fun x=>!Region.binds .any x || decide (x.on<j)) | none=>true) &&
  I.all (fun j=>!I.contains (cons j) || (match ops[cons j]? with | some o=>o.after.any (fun x=>Region.binds .any x && x.on == j) | none=>false))
theorem least_of {p:Nat→Prop}:∀ (m:Nat),p m→∃ j,p j∧∀ k,k<j→¬ p k:=fun m=>by
  induction m using Nat.strongRecOn with
  | _ m ih =>
    intro hm
    by_cases h:∃ k,k<m∧p k
    · obtain ⟨k,h1,h2⟩:=h
      exact ih k h1 h2
    exact ⟨m,hm,fun k hk hp=>h ⟨k,hk,hp⟩⟩
theorem D.rows (m0 z : Nat) (hI : rowsB ops listed I z last cons = true) (hm0 : I.length = m0) (hnd : I.Nodup) (hd_ : (I.all fun i => I.all fun j => i == j || !(sl i == sl j)) = true) (he_ : (I.all fun i => (lk e (sl i)).isNone) = true)
    (hst:∀ i∈I,∃ oi,ops[i]?=some oi∧RowStep P n ops w0 e sl emb row oi i (fun j=>j∈I∧cons j=i)) (hS:Mod [] w0 w)
    (k:∀ (b:Bool) e' w',Inc e e'→Mod [] w0 w'→Lives w0.heap.size sl emb row e' w' (fun j=>j∈I∧(b=true∨j≠z)∧cons j ∉ I)→D P n Q ops (Mod [] w0) T (fuel + (if b then 0 else 1)) ((if b then I else I.erase z).foldl (fun l i=>l.setIfInBounds i true) listed) e' w') :
    D P n Q ops (Mod [] w0) T (fuel + m0) listed e w:=by
  subst hm0
  have hd:∀ i∈I,∀ j∈I,i≠j→sl i≠sl j:=fun i hi j hj hij=>by
    have h1:=List.all_eq_true.1 (List.all_eq_true.1 hd_ i hi) j hj
    simp only [Bool.or_eq_true,beq_iff_eq,Bool.not_eq_true',beq_eq_false_iff_ne] at h1
    exact h1.resolve_left hij
  have he:∀ i∈I,lk e (sl i)=none:=fun i hi=>by simpa using List.all_eq_true.1 he_ i hi
  simp only [rowsB,Bool.and_eq_true,List.all_eq_true,beq_iff_eq,List.mem_range,Bool.or_eq_true,decide_eq_true_eq,Bool.not_eq_true',List.contains_iff_mem,beq_eq_false_iff_ne] at hI
  obtain ⟨⟨⟨⟨⟨hsz,hlast,hzl⟩,hI1⟩,hI2⟩,hI3⟩,hI4⟩:=hI
  have hfold:∀ (J:List Nat) (l:Array Bool),(J.foldl (fun l i=>l.setIfInBounds i true) l).size=l.size∧∀ j,j<l.size→(J.foldl (fun l i=>l.setIfInBounds i true) l).getD j false=(l.getD j false || decide (j∈J)):=by
    intro J
    induction J with
    | nil=>intro l; simp
    | cons i r ih =>
      intro l
      obtain ⟨h1,h2⟩:=ih (l.setIfInBounds i true)
      refine ⟨by rw [List.foldl_cons,h1]; simp,fun j hj=>?_⟩
      rw [List.foldl_cons,h2 j (by simpa using hj)]
      by_cases e1:j=i
      · subst e1; simp [Array.getD_eq_getD_getElem?,Array.getElem?_setIfInBounds,hj]
      have e2:¬ i=j:=fun h=>e1 h.symm
      simp [Array.getD_eq_getD_getElem?,Array.getElem?_setIfInBounds,e1,e2]
  have harr:∀ (J:List Nat) (l:Array Bool),l.size=listed.size→(∀ j,j<listed.size→l.getD j false=(listed.getD j false || decide (j∈J)))→l=J.foldl (fun l i=>l.setIfInBounds i true) listed:=fun J l hl1 hl2=>by
    obtain ⟨h1,h2⟩:=hfold J listed
    refine Array.ext (by rw [hl1,h1]) (fun j hj1 hj2=>?_)
    have h3:=hl2 j (by omega)
    rw [← h2 j (by omega)] at h3
    simpa [Array.getD_eq_getD_getElem?,hj1,hj2] using h3
  have main : ∀ (m : Nat) (rem : List Nat) (l : Array Bool) (e' : Env) (w' : World), rem.length = m → rem.Nodup → (∀ i ∈ rem, i ∈ I) → last ∈ rem → l.size = listed.size → (∀ j, j < listed.size → l.getD j false = (listed.getD j false || (decide (j ∈ I) && decide (j ∉ rem)))) → Inc e e' → Mod [] w0 w' →
      Lives w0.heap.size sl emb row e' w' (fun j=>j∈I∧j ∉ rem∧(cons j∈rem∨cons j ∉ I))→D P n Q ops (Mod [] w0) T (fuel + m) l e' w':=by
    intro m
    induction m with
    | zero =>
      intro rem l e' w' hm _ _ hlr
      obtain rfl:=List.eq_nil_of_length_eq_zero hm
      cases hlr
    | succ m ih =>
      intro rem l e' w' hm hrn hsub hlr hl1 hl2 hInc hS' hLv
      intro hs hc a ha
      have hun:∀ i∈rem,l.getD i false=false:=fun i hi=>by
        have h1:=hI1 i (hsub i hi)
        rw [hl2 i (by rw [hsz]; exact h1.1.1),h1.1.2]
        simp [hi]
      have hne:(Region.ready .any ops l).isEmpty=false:=by
        have h4:=hI1 last hlast
        obtain ⟨j,⟨hj1,hj2⟩,hj3⟩:=least_of (p:=fun j=>j<ops.size∧l.getD j false=false) last ⟨h4.1.1,hun last hlr⟩
        have hjo:ops[j]?=some ops[j]:=Array.getElem?_eq_getElem hj1
        have h5:=hI3 j hj1
        rw [hjo] at h5
        have hr:j∈Region.ready .any ops l:=mem_ready.2 ⟨by
          have hjl:j<l.size:=by omega
          simpa [Array.getD_eq_getD_getElem?,hjl] using hj2,_,hjo,fun x hx hb=>by
          have h6:=Array.all_eq_true'.1 h5 x hx
          simp only [hb,Bool.not_true,Bool.false_or,decide_eq_true_eq] at h6
          cases h7:l.getD x.on false with
          | true=>rfl
          | false=>exact absurd ⟨by omega,h7⟩ (hj3 x.on h6)⟩
        cases h8:Region.ready .any ops l with
        | nil=>rw [h8] at hr; cases hr
        | cons _ _=>rfl
      refine D.many (fuel:=fuel + m) rfl hne (fun i hi=>?_) hs hc a ha
      obtain ⟨hi1,oi,hoi,hall⟩:=mem_ready.1 hi;have hif:=getD_false_of_true hi1
      have hisz:i<ops.size:=(Array.getElem?_eq_some_iff.1 hoi).1
      have hir:i∈rem:=Classical.byContradiction fun h9=>by
        have h1:=hl2 i (by omega)
        rw [hif] at h1
        rcases hI2 i hisz with (h2 | h2) | h2
        · rw [h2] at h1; simp at h1
        · rw [decide_eq_true h2,decide_eq_true h9] at h1; simp at h1
        exact (late_unlisted hc (hun last hlr) 12 i h2).1 hi
      have hiI:=hsub i hir;obtain ⟨oi',hoi',hstep⟩:=hst i hiI
      refine ⟨oi',hoi',fun hX=>?_⟩
      refine hstep _ _ _ _ hInc hS' hLv (fun j hj=>?_) (fun h9=>h9.2.1 hir) (fun j hj=>?_) (fun v w'' hS'' hLv''=>?_)
      · obtain ⟨hjI,hjc⟩:=hj
        refine ⟨hjI,fun hjr=>?_,.inl (hjc ▸ hir)⟩
        have h4:=hI4 j hjI
        rcases h4 with h4 | h4
        · rw [hjc] at h4
          have:I.contains i=true:=by simpa using hiI
          rw [h4] at this; cases this
        rw [hjc,hoi] at h4
        obtain ⟨x,hx,h5⟩:=Array.any_eq_true'.1 h4
        simp only [Bool.and_eq_true,beq_iff_eq] at h5
        have h6:=hall x hx h5.1
        rw [h5.2,hun j hjr] at h6; cases h6
      · exact hd j hj.1 i hiI (fun e1=>hj.2.1 (e1 ▸ hir))
      have hz':(l.setIfInBounds i true).size=listed.size:=by simp [hl1]
      have hget:∀ j,j<listed.size→(l.setIfInBounds i true).getD j false=(listed.getD j false || (decide (j∈I) && decide (j ∉ rem.erase i))):=fun j hj=>by
        have h1:=hl2 j hj
        by_cases e1:j=i
        · subst e1
          have h2:j ∉ rem.erase j:=List.Nodup.not_mem_erase hrn
          rw [decide_eq_true hiI,decide_eq_true h2]
          have hjl:j<l.size:=by omega
          simp [Array.getD_eq_getD_getElem?,Array.getElem?_setIfInBounds,hjl]
        have e2:¬ i=j:=fun h=>e1 h.symm
        have h2:j∈rem.erase i↔j∈rem:=List.mem_erase_of_ne e1
        have h3:(l.setIfInBounds i true).getD j false=l.getD j false:=by simp [Array.getD_eq_getD_getElem?,Array.getElem?_setIfInBounds,e2]
        rw [h3,h1]
        simp only [h2]
      have hlen:(rem.erase i).length=m:=by rw [List.length_erase_of_mem hir]; omega
      have hLv3:Lives w0.heap.size sl emb row ((sl i,emb i v) :: e') w'' (fun j=>j∈I∧j ∉ rem.erase i∧(cons j∈rem.erase i∨cons j ∉ I)):=hLv''.weak (fun j hj=>by
        by_cases e1:j=i
        · exact .inl e1
        refine .inr ⟨⟨hj.1,fun h9=>hj.2.1 ((List.mem_erase_of_ne e1).2 h9),?_⟩,fun h9=>?_⟩
        · rcases hj.2.2 with h9 | h9
          · exact .inl (List.mem_of_mem_erase h9)
          exact .inr h9
        rcases hj.2.2 with h8 | h8
        · rw [h9.2] at h8; exact (List.Nodup.not_mem_erase hrn) h8
        rw [h9.2] at h8; exact h8 hiI)
      refine L.nil (hX _ _ ⟨.inr hS'',?_⟩)
      by_cases hil:i=last
      · subst hil
        have hz:∀ r∈rem.erase i,r=z:=fun r hr=>Classical.byContradiction fun h9=>by
          have hr2:=List.mem_of_mem_erase hr;have h1:=(hI1 r (hsub r hr2)).2
          have hri:r≠i:=fun e1=>(List.Nodup.not_mem_erase hrn) (e1 ▸ hr)
          rcases h1 with (h2 | h2) | h2
          · exact hri h2
          · exact h9 h2
          exact (late_unlisted hc (hun r hr2) 12 i h2).1 hi
        by_cases hzr:z∈rem.erase i
        · have hl2':rem.erase i=[z]:=by
            have hn2:(rem.erase i).Nodup:=hrn.erase _
            cases h8:rem.erase i with
            | nil=>rw [h8] at hzr; cases hzr
            | cons x r =>
              rw [h8] at hn2 hz
              have hx:=hz x (by simp)
              cases r with
              | nil=>rw [hx]
              | cons y r =>
                have hy:=hz y (by simp)
                rw [List.nodup_cons] at hn2
                exact absurd (by rw [hx,hy]; simp) hn2.1
          rw [hl2'] at hlen hget hLv3
          have hm1:m=1:=by simpa using hlen.symm
          subst hm1
          have h7:=k false _ _ (Inc.skip hInc (he i hiI)) hS'' (hLv3.weak (fun j hj=>⟨hj.1,by simpa using hj.2.1,.inr hj.2.2⟩))
          have e1:=harr (I.erase z) _ hz' (fun j hj=>by
            rw [hget j hj]
            congr 1
            rw [← Bool.decide_and,decide_eq_decide,hnd.mem_erase_iff]
            simp only [List.mem_singleton]
            exact ⟨fun h=>⟨h.2,h.1⟩,fun h=>⟨h.2,h.1⟩⟩)
          rw [e1]; exact h7
        have hl2':rem.erase i=[]:=by
          cases h8:rem.erase i with
          | nil=>rfl
          | cons x r=>exact absurd (by rw [h8,← hz x (by rw [h8]; simp)]; simp) hzr
        rw [hl2'] at hlen hget hLv3
        have hm1:m=0:=by simpa using hlen.symm
        subst hm1
        have h7:=k true _ _ (Inc.skip hInc (he i hiI)) hS'' (hLv3.weak (fun j hj=>⟨hj.1,by simp,.inr hj.2.2⟩));have e1:=harr I _ hz' (fun j hj=>by rw [hget j hj]; simp)
        rw [e1]; exact h7
      exact ih (rem.erase i) _ _ _ hlen (hrn.erase _) (fun j hj=>hsub j (List.mem_of_mem_erase hj)) ((List.mem_erase_of_ne (fun h=>hil h.symm)).2 hlr) hz' hget (Inc.skip hInc (he i hiI)) hS'' hLv3
  refine main I.length I listed e w rfl hnd (fun i hi=>hi) hlast rfl (fun j hj=>?_) (Inc.refl _) hS ⟨fun _=>.slice none 0 0,fun i hi=>absurd hi.1 hi.2.1,fun i j hi _ _=>absurd hi.1 hi.2.1⟩
  by_cases h:j∈I
  · simp [h]
  simp [h]
theorem Bd.box {M:List Nat} {w w':World} {g:Nat} (h:Bd M w) (hm:Mod [] w w') (hg:g<w'.heap.size):Bd (g :: M) w':=fun m hh=>by
  rcases List.mem_cons.1 hh with rfl | h1
  · exact hg
  exact Nat.lt_of_lt_of_le (h m h1) hm.size
theorem own_box {B el s g:Nat} {w:World} {xs:List Value} (h:w.ownsRow B el s (.slice (some ⟨g,0,none⟩) 1 1) 1 xs):Blk w g el xs.toArray:=by
  obtain ⟨h1,h2⟩:=h
  rcases h2 with ⟨h2,_⟩ | ⟨g',cap,cur,h2,hb,hg,hnc,hcm,hcs,htake⟩
  · cases h2
  injection h2 with h3 h4 h5
  injection h3 with h3
  injection h3 with h3
  subst h3; subst h5
  have e:cur.toList=xs:=by
    rw [← htake,List.take_of_length_le (by rw [Array.length_toList,hcs]; omega)]
  have e2:cur=xs.toArray:=by rw [← e]
  rw [← e2]; exact hg
end
end Go.Proofs.YtedokfpoajfflaaGreat
