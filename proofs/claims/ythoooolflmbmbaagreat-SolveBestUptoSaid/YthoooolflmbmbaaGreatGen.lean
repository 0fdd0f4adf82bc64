/- Rows whose elements lead further; stores of structs. Nothing of a program in sight. -/
import Derived.Test.YthoooolflmbmbaaGreatOwnI
import Derived.Laws.CopyRow
namespace Go.Proofs.YthoooolflmbmbaaGreat
open Go.RowKit
set_option linter.unusedVariables false
set_option linter.unusedSimpArgs false
theorem mq:(∀ l c:Nat,ownL (.slice none l c)=[])∧(∀ (M:List Nat),[] ++ M=M)∧(∀ (a:Nat) (M L:List Nat),(a∈M ++ L)=(a∈M∨a∈L))∧(∀ (a b:Nat) (M:List Nat),(a∈b :: M)=(a=b∨a∈M))∧(∀ a:Nat,(a∈([]:List Nat))=False)∧(∀ p:Prop,(p∨False)=p)∧(∀ p:Prop,(False∨p)=p) :=
  ⟨fun l c=>rfl,fun M=>rfl,fun a M L=>by simp,fun a b M=>by simp,fun a=>by simp,fun p=>by simp,fun p=>by simp⟩
theorem Lay.su {α:Type} {R:Rd α} {M M':List Nat} {w:World} {v:Value} {as_:List α} (h:Lay R M w v as_) (hs:∀ b∈M',b∈M:=by intro b hb; first | exact hb | (simp only [mq] at hb ⊢; grind)):Lay R M' w v as_:=h.sub hs
theorem LayL.su {α:Type} {R:Rd α} {M M':List Nat} {w:World} {css:List (List Value)} {as_:List α} (h:LayL R M w css as_) (hs:∀ b∈M',b∈M:=by intro b hb; first | exact hb | (simp only [mq] at hb ⊢; grind)):LayL R M' w css as_:=h.sub hs
theorem U32.su {M M':List Nat} {w:World} {v:Value} {xs:List Nat} (h:U32 M w v xs) (hs:∀ b∈M',b∈M:=by intro b hb; first | exact hb | (simp only [mq] at hb ⊢; grind)):U32 M' w v xs:=h.sub hs
theorem Bd.su {M M':List Nat} {w:World} (h:Bd M w) (hs:∀ b∈M',b∈M:=by intro b hb; first | exact hb | (simp only [mq] at hb ⊢; grind)):Bd M' w:=h.sub hs
theorem SlE.su {M M':List Nat} {w:World} {ad:Addr} {cs:List Value} (h:SlE M w ad cs) (hs:∀ b∈M',b∈M:=by intro b hb; first | exact hb | (simp only [mq] at hb ⊢; grind)):SlE M' w ad cs:=h.sub hs
theorem Lay.mo {α:Type} {R:Rd α} {G M:List Nat} {w w':World} {v:Value} {as_:List α} (h:Lay R M w v as_) (hm:Mod G w w') (hs:∀ g∈G,g∈M:=by first | exact mem_own | (intro b hb; simp [hb])):Lay R M w' v as_:=h.mod hm hs
theorem LayL.mo {α:Type} {R:Rd α} {G M:List Nat} {w w':World} {css:List (List Value)} {as_:List α} (h:LayL R M w css as_) (hm:Mod G w w') (hs:∀ g∈G,g∈M:=by first | exact mem_own | (intro b hb; simp [hb])):LayL R M w' css as_:=h.mod hm hs
theorem U32.mo {G M:List Nat} {w w':World} {v:Value} {xs:List Nat} (h:U32 M w v xs) (hm:Mod G w w') (hs:∀ g∈G,g∈M:=by first | exact mem_own | (intro b hb; simp [hb])):U32 M w' v xs:=h.mod hm hs
theorem own_one {w:World} {B el s k:Nat} {v:Value} {xs:List Value} (h:w.ownsRow B el s v k xs):v.oneCell'=true:=by
  obtain ⟨A,c,rfl⟩:=own_form h; rfl
theorem own_away_res {w w':World} {B el s k el' s' k':Nat} {v u:Value} {xs ys:List Value} (h:w.ownsRow B el s v k xs) (h':w'.ownsRow w.heap.size el' s' u k' ys):Away v u:=fun g h1 h2=>by
  have:=(own_ge h g h1).2
  have:=(own_ge h' g h2).1
  omega
theorem lay_one {α:Type} {R:Rd α} {M:List Nat} {w:World} {v:Value} {xs:List α} (h:Lay R M w v xs):v.oneCell'=true:=by
  obtain ⟨A,c,rfl⟩:=h.form; rfl
theorem own_lay2 {α:Type} {R:Rd α} {M N:List Nat} {w w0:World} {el k:Nat} {v u:Value} {xs:List α} {css:List (List Value)} (hbd:Bd M w0) (h:w.ownsRow w0.heap.size el R.size v k css.flatten) (hk:k=xs.length) (hl:LayL R N w css xs) (haw:Away u v) (hs:∀ g∈ownL u ++ M,g∈N):Lay R (ownL u ++ M) w v xs :=
  Lay.of_own (own_congr h hk rfl) (hl.sub hs) (fun g hg hh=>by
    rcases List.mem_append.1 hh with h1 | h1
    · exact haw g (by unfold ownL at h1; simpa using h1) hg
    exact hbd.not (own_ge h g hg).1 h1)
section
variable {α β:Type} {R:Rd α} {R':Rd β} {M:List Nat} {w:World} {v:Value} {css:List (List Value)} {as:List α} {f:α→β}
theorem LayL.conv (h:LayL R M w css as) (k:∀ cs a,a∈as→R.rd M w cs a→R'.rd M w cs (f a)):LayL R' M w css (as.map f) :=
  ⟨by rw [h.len,List.length_map],fun i cs a h1 h2=>by
    rw [List.getElem?_map,Option.map_eq_some_iff] at h2
    obtain ⟨b,h3,rfl⟩:=h2
    exact k cs b (List.mem_of_getElem? h3) (h.get i cs b h1 h3)⟩
theorem Lay.conv (h:Lay R M w v as) (hs:R.size=R'.size) (k:∀ cs a,a∈as→R.rd M w cs a→R'.rd M w cs (f a)):Lay R' M w v (as.map f):=by
  obtain ⟨css,h1,h2⟩:=h
  exact ⟨css,by rw [List.length_map,← hs]; exact h1,h2.conv k⟩
end
section
variable {α:Type} {R:Rd α} {M:List Nat} {w w':World} {v:Value} {css:List (List Value)} {as:List α} {cs:List Value} {a:α} {B el k i:Nat}
theorem LayL.set (h:LayL R M w css as) (hr:R.rd M w cs a) (i:Nat):LayL R M w (css.set i cs) (as.set i a) :=
  ⟨by simp [h.len],fun j ds b h1 h2=>by
    rw [List.getElem?_set] at h1 h2
    by_cases e:i=j
    · rw [if_pos e] at h1 h2
      split at h1
      · rename_i hi
        have hl:=h.len
        rw [if_pos (by omega)] at h2
        injection h1 with h1; injection h2 with h2
        subst h1; subst h2; exact hr
      cases h1
    rw [if_neg e] at h1 h2
    exact h.get j ds b h1 h2⟩
theorem own_elemQ {s:Nat} (ho:w.ownsRow B el s v k css.flatten) (hs:s=R.size) (hl:LayL R M w css as) {j:Nat} (hj:j<as.length):∃ z cs,as[j]?=some z∧SlE [] w (elemAt v s j) cs∧R.rd M w cs z:=by
  subst hs
  have hlay:Lay R [] w v as:=Lay.of_own (own_congr ho (by
    have h1:=ho.1;have h2:=hl.flat
    rw [h2] at h1
    exact (Nat.eq_of_mul_eq_mul_right R.pos h1.symm)) rfl) (hl.sub (by simp)) (by simp)
  obtain ⟨css',h1,h2⟩:=hlay;obtain ⟨cs,hc,hr⟩:=hl.at_ hj
  refine ⟨_,cs,List.getElem?_eq_getElem hj,⟨fun h0=>?_,by simp,fun o u hu=>?_⟩,hr⟩
  · have:=R.len hr; rw [h0] at this; have:=R.pos; simp at *; omega
  have O2:o<R.size:=by
    have:=(List.getElem?_eq_some_iff.1 hu).1
    rw [R.len hr] at this; exact this
  exact (Sl.of_own (M:=[]) ho (by simp)).cell (by rw [flat_get hl.all hc O2]; exact hu)
theorem flat_set {s:Nat}:∀ {css:List (List Value)} {i:Nat} {cs:List Value},(∀ c∈css,c.length=s)→cs.length=s→i<css.length→css.flatten.take (i * s) ++ cs ++ css.flatten.drop (i * s + s)=(css.set i cs).flatten
  | [],i,cs,_,_,h=>by simp at h
  | c :: r,0,cs,hs,hc,_=>by
    have h1:=hs c (by simp)
    simp only [List.flatten_cons,List.set_cons_zero,Nat.zero_mul,List.take_zero,List.nil_append,Nat.zero_add]
    rw [List.drop_append,h1,List.drop_of_length_le (by omega),Nat.sub_self]; simp
  | c :: r,i + 1,cs,hs,hc,hi=>by
    have h1:=hs c (by simp);have ih:=flat_set (css:=r) (i:=i) (fun c hc=>hs c (by simp [hc])) hc (by simpa using hi)
    simp only [List.flatten_cons,List.set_cons_succ]
    rw [← ih,List.take_append,List.drop_append,h1,List.take_of_length_le (by rw [h1,Nat.add_mul]; omega),List.drop_of_length_le (by rw [h1,Nat.add_mul]; omega)]
    have e1:(i + 1) * s - s=i * s:=by rw [Nat.add_mul]; omega
    have e2:(i + 1) * s + s - s=i * s + s:=by rw [Nat.add_mul]; omega
    rw [e1,e2]; simp
end
section
variable {P:Program} {n:Nat} {Q:Exit→Act→World→Prop} {ops:Array Oper} {rest:List Oper} {e:Env} {w w':World} {d:Nat} {ty:TypeId} {pos:String} {after:Array Edge} {x y:Operand} {t el:TypeId} {v u:Value}
theorem L.guardOn {j:Nat} {want:Bool} {oj:Oper} {dj:Nat} {dst:Option Tmp} {op:Op} (hj:ops[j]?=some oj) (hdj:oj.dst=some dj) (hl:lk e dj=some (.bool want)) (h:L P n Q ops (⟨dst,op,ty,pos,after,none⟩ :: rest) e w):L P n Q ops (⟨dst,op,ty,pos,after,some (j,want)⟩ :: rest) e w:=fun a ha=>by
  have h1:=h a ha;have hg:=ha.get _ _ hl
  have hy:yielded ops a.tmps j=some want:=by simp [yielded,hj,hdj,hg]
  unfold wpList at h1 ⊢
  rw [if_pos (by simp [Region.wanted])] at h1
  rw [if_pos (by simp [Region.wanted,hy])]
  exact h1
theorem R1.nilCheck {ad:Addr} (hx:ev e x=some (.pointer (some ad))):R1 P e (.nilCheck x) ty w (.pointer (some ad)):=fun n a d pos after g ha=>by
  simp [execOp,ha.eval hx]
theorem L.storeAgg {t' : TypeId} {g o : Nat} {cs : Array Value} {cs' : List Value} (hx : ev e x = some (.pointer (some ⟨g, o, none⟩))) (hy : ev e y = some (.agg cs'.toArray)) (hb : Blk w g t' cs) (hsz : o + cs'.length ≤ cs.size) (h1 : ∀ c ∈ cs', c.oneCell' = true) (ht : aggT P t = some cs'.length)
    (h:∀ w',Blk w' g t' (cs.toList.take o ++ cs' ++ cs.toList.drop (o + cs'.length)).toArray→Mod [g] w w'→L P n Q ops rest e w'):L P n Q ops (⟨none,.store t x y,ty,pos,after,none⟩ :: rest) e w :=
  fun a ha=>wpList_plain rfl fun K hK=>by
    unfold Oper.wp
    obtain ⟨dd,h2,h3,h4⟩:=aggT.spec ht;obtain ⟨i,hi,hsz2⟩:=Option.map_eq_some_iff.1 h4;have hr:=run_storeCells_at (P:=P) g o t' cs' 0 cs w hb (by simpa using hsz) h1
    have:(execOp a.eval ⟨none,.store t x y,ty,pos,after,none⟩).run P w=.ok .skip (w.setRow g (cs.toList.take o ++ cs' ++ cs.toList.drop (o + cs'.length)).toArray):=by
      simp only [Nat.add_zero] at hr
      simp [execOp,ha.eval hx,ha.eval hy,Instr.storeAt,Instr.sureAddr,storeVar,Go.sizeOf,typeInfo,hi,Value.cells,hsz2,hr]
    rw [this]
    have hs:=hb.setRow (cs.toList.take o ++ cs' ++ cs.toList.drop (o + cs'.length)).toArray
    exact hK _ _ (h _ hs.1 hs.2 _ (ha.putNone _))
theorem L.storeOwnA {α : Type} {R : Rd α} {M : List Nat} {css : List (List Value)} {as : List α} {cs' : List Value} {a : α} {B k i s : Nat} (hx : ev e x = some (.pointer (some (elemAt v s i)))) (hy : ev e y = some (.agg cs'.toArray)) (hs : s = R.size) (ho : w.ownsRow B el s v k css.flatten) (hl : LayL R M w css as) (hM : ∀ g ∈ ownL v, g ∈ M) (hi : i < as.length) (hr : R.rd M w cs' a) (ht : aggT P t = some s)
    (h:∀ w',w'.ownsRow B el s v k (css.set i cs').flatten→LayL R M w' (css.set i cs') (as.set i a)→Mod (ownL v) w w'→L P n Q ops rest e w'):L P n Q ops (⟨none,.store t x y,ty,pos,after,none⟩ :: rest) e w:=by
  subst hs
  have hlen:=hl.flat
  have hk:k=as.length:=by have h1:=ho.1; rw [hlen] at h1; exact (Nat.eq_of_mul_eq_mul_right R.pos h1.symm)
  obtain ⟨hlo,O2⟩:=ho;have hcl:=R.len hr
  rcases O2 with ⟨_,h0⟩ | ⟨g,cap,cur,rfl,hB,hg,hnc,hcm,hcs,htake⟩
  · omega
  have hmul:i * R.size + R.size≤k * R.size:=by
    have:(i + 1) * R.size≤k * R.size:=Nat.mul_le_mul_right _ (by omega)
    rw [Nat.add_mul] at this; omega
  have hmul2:k * R.size≤cap * R.size:=Nat.mul_le_mul_right _ hnc
  have hx':ev e x=some (.pointer (some ⟨g,i * R.size,none⟩)):=by rw [hx]; simp [elemAt,add_lit]
  refine L.storeAgg hx' hy (cs:=cur) hg (by omega) (R.one hr) (by rw [hcl]; exact ht) (fun w' hb hm=>h w' ?_ ((hl.mod hm (fun g' hg'=>hM g' (by simpa [ownL,Value.ownBlock] using hg'))).set ?_ i) (by simpa [ownL,Value.ownBlock] using hm))
  · refine ⟨?_,.inr ⟨g,cap,_,rfl,hB,hb,hnc,hcm,?_,?_⟩⟩
    · have hl2:=((hl.set hr i).flat)
      rw [hl2,List.length_set,hk]
    · simp only [List.size_toArray,List.length_append,List.length_take,List.length_drop,Array.length_toList]; omega
    have hll:css.length=as.length:=hl.len
    rw [← flat_set hl.all hcl (by omega),← htake,hcl]
    have C1:min (i * R.size) (min (k * R.size) cur.size)=i * R.size:=by omega
    have C2:min (i * R.size) cur.size=i * R.size:=by omega
    apply List.ext_getElem?
    intro j
    simp only [List.getElem?_append,List.getElem?_take,List.getElem?_drop,List.length_append,List.length_take,List.length_drop,Array.length_toList,hcl,C1,C2]
    by_cases h1:j<i * R.size
    · simp only [if_pos h1,if_pos (show j<k * R.size by omega),if_pos (show j<i * R.size + R.size by omega)]
    by_cases h2:j<i * R.size + R.size
    · simp only [if_neg h1,if_pos h2,if_pos (show j<k * R.size by omega)]
    by_cases h3:j<k * R.size
    · simp only [if_pos h3,if_neg h1,if_neg h2,if_pos (show i * R.size + R.size + (j - (i * R.size + R.size))<k * R.size by omega)]
    simp only [if_neg h3,if_neg h1,if_neg h2,if_neg (show ¬ i * R.size + R.size + (j - (i * R.size + R.size))<k * R.size by omega)]
  exact R.mod hr hm (fun g' hg'=>hM g' (by simpa [ownL,Value.ownBlock] using hg'))
theorem L.storeOwnS {α : Type} {R : Rd α} {M : List Nat} {css : List (List Value)} {as : List (List α)} {a : List α} {B k i : Nat} (hx : ev e x = some (.pointer (some (elemAt v 1 i)))) (hy : ev e y = some u) (ho : w.ownsRow B el 1 v k css.flatten) (hl : LayL (rdR R) M w css as) (hM : ∀ g ∈ ownL v, g ∈ M) (hi : i < as.length) (hr : Lay R M w u a) (ht : plainT P t = true)
    (h:∀ w',w'.ownsRow B el 1 v k (css.set i [u]).flatten→LayL (rdR R) M w' (css.set i [u]) (as.set i a)→Mod (ownL v) w w'→L P n Q ops rest e w'):L P n Q ops (⟨none,.store t x y,ty,pos,after,none⟩ :: rest) e w:=by
  have hlen:=hl.flat
  have hk:k=as.length:=by have h1:=ho.1; rw [hlen] at h1; have h2:(rdR R).size=1:=rfl; rw [h2] at h1; omega
  have hall:=hl.all;have hll:=hl.len;obtain ⟨A,cap,rfl⟩:=hr.form
  refine L.storeOwn hx hy ho (by omega) rfl ht (fun w' h1 h2=>h w' (own_congr h1 rfl ?_) ((hl.mod h2 hM).set ⟨_,rfl,hr.mod h2 hM⟩ i) h2)
  have h3:=flat_set (s:=1) (cs:=[Value.slice A a.length cap]) (i:=i) hall rfl (by omega)
  rw [← h3]
  apply List.ext_getElem?
  intro j
  have hfl:css.flatten.length=as.length:=by rw [hlen]; show as.length * 1=_; omega
  rw [List.getElem?_set]
  simp only [List.getElem?_append,List.getElem?_take,List.getElem?_drop,List.length_append,List.length_take,hfl,Nat.mul_one,List.length_singleton]
  by_cases h4:i=j
  · subst h4
    rw [if_pos rfl,if_pos (by omega),if_pos (by omega),if_neg (by omega)]
    rw [show i - min i as.length=0 by omega]; rfl
  rw [if_neg h4]
  by_cases h5:j<i
  · rw [if_pos (by omega),if_pos (by omega),if_pos h5]
  rw [if_neg (by omega)]
  congr 1; omega
end
section
variable {P:Program} {n:Nat} {e:Env} {w:World}
theorem X.result0 {fn:Func} {R:Value→World→Prop} (hr:fn.results=[].toArray) (h:R (.tuple #[]) w):X n (Post P fn R) .ret e w:=X.result hr .nil h
theorem X.fall0 {fn:Func} {R:Value→World→Prop} (hr:fn.results=[].toArray) (h:R (.tuple #[]) w):X n (Post P fn R) .normal e w:=fun a ha=>(X.result0 (n:=n) (e:=e) hr h:X n (Post P fn R) .ret e w) a ha
end
end Go.Proofs.YthoooolflmbmbaaGreat
