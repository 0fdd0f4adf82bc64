/- Slices of one's own that are appended to. Nothing of a program in sight. -/
import Derived.Test.YthoooolflmbmbaaGreatFacts
namespace Go.Proofs.YthoooolflmbmbaaGreat
open Go.RowKit
set_option linter.unusedVariables false
set_option linter.unusedSimpArgs false
def ownL (v:Value):List Nat:=v.ownBlock.toList
structure Grew (v:Value) (w:World) (v':Value) (w':World):Prop where
  mod:Mod (ownL v) w w'
  at_:v'.ownBlock=v.ownBlock∨v'.ownBlock=some w.heap.size
  there:∀ g,v'.ownBlock=some g→g<w'.heap.size
section
variable {w w':World} {B el s n:Nat} {v v':Value} {xs:List Value} {M:List Nat}
theorem Grew.sub (h:Grew v w v' w') {c:List Value} {u:Value} {k z:Nat} (hf:Sl (ownL v ++ M) w z u k c) (hz:0<z):Sl (ownL v' ++ M) w' z u k c:=by
  rcases h.at_ with h1 | h1
  · have:ownL v'=ownL v:=by unfold ownL; rw [h1]
    rw [this]
    exact hf.mod hz h.mod (fun g hg=>List.mem_append.2 (.inl hg))
  have h2:Sl (w.heap.size :: (ownL v ++ M)) w z u k c:=hf.more hz (Nat.le_refl _)
  have h3:Sl (w.heap.size :: (ownL v ++ M)) w' z u k c:=h2.mod hz h.mod (fun g hg=>by simp [hg])
  refine h3.sub (fun g hg=>?_)
  have:ownL v'=[w.heap.size]:=by unfold ownL; rw [h1]; rfl
  rw [this] at hg
  rcases List.mem_append.1 hg with h4 | h4
  · simp at h4; simp [h4]
  simp [h4]
theorem U32.grew {u:Value} {ys:List Nat} (hf:U32 (ownL v ++ M) w u ys) (h:Grew v w v' w'):U32 (ownL v' ++ M) w' u ys:=⟨h.sub hf.1 (by omega),hf.2⟩
theorem Bd.grew (hf:Bd (ownL v ++ M) w) (h:Grew v w v' w'):Bd (ownL v' ++ M) w':=fun m hm=>by
  rcases List.mem_append.1 hm with h1 | h1
  · unfold ownL at h1
    exact h.there m (by simpa using h1)
  exact Nat.lt_of_lt_of_le (hf m (List.mem_append.2 (.inr h1))) h.mod.size
theorem Blk.grew {g t:Nat} {cs:Array Value} (hb:Blk w g t cs) (h:Grew v w v' w') (hg:v.ownBlock≠some g):Blk w' g t cs:=hb.mod h.mod (by unfold ownL; simp; exact hg)
theorem Mod.grew {w0:World} {G:List Nat} (hm:Mod G w0 w) (h:Grew v w v' w') (hB:∀ g,v.ownBlock=some g→w0.heap.size≤g):Mod G w0 w' :=
  hm.old h.mod (fun g hg=>.inr (hB g (by unfold ownL at hg; simpa using hg)))
theorem Sl.of_own (h:w.ownsRow B el s v n xs) (hM:∀ g,v.ownBlock=some g→g ∉ M):Sl M w s v n xs:=by
  obtain ⟨h1,h2⟩:=h
  rcases h2 with ⟨rfl,rfl⟩ | ⟨g,cap,cur,rfl,hb,hg,hnc,hcm,hcs,htake⟩
  · have:xs=[]:=List.eq_nil_of_length_eq_zero (by simpa using h1)
    subst this
    exact Sl.nil 0 rfl
  refine Sl.of_blk (t:=el) (c:=cur) hg 0 hnc hcm h1 (hM g rfl) (fun j hj=>?_)
  rw [Nat.zero_add,← htake,List.getElem?_take,if_pos (by omega)]
  simp
theorem own_nil (w:World) (B el s:Nat):w.ownsRow B el s (.slice none 0 0) 0 []:=World.ownsRow_nil w B el s
theorem own_new {g:Nat} {cs:Array Value} (hN:New w w' g el cs) (hB:B≤w.heap.size) {cap:Nat} (hc:cs.size=cap * s) (hm:cap≤maxLen) {k:Nat} (hk:k≤cap):w'.ownsRow B el s (.slice (some ⟨g,0,none⟩) k cap) k (cs.toList.take (k * s)):=by
  refine ⟨?_,.inr ⟨g,cap,cs,rfl,hN.ge hB,hN.blk,hk,hm,hc,rfl⟩⟩
  rw [List.length_take,Array.length_toList,hc]
  exact Nat.min_eq_left (Nat.mul_le_mul_right _ hk)
theorem own_gr {G:List Nat} (h:w.ownsRow B el s v n xs) (hm:Mod G w w') (hg:∀ g∈G,v.ownBlock≠some g):w'.ownsRow B el s v n xs:=by
  refine ⟨h.1,?_⟩
  rcases h.2 with hn | ⟨g,cap,cur,rfl,hb,hgg,rest⟩
  · exact .inl hn
  refine .inr ⟨g,cap,cur,rfl,hb,?_,rest⟩
  rw [hm.block g (Array.getElem?_eq_some_iff.1 hgg).1 (fun hh=>hg g hh rfl)]
  exact hgg
theorem own_ge (h:w.ownsRow B el s v n xs):∀ g,v.ownBlock=some g→B≤g∧g<w.heap.size:=h.lt
end
section
variable {P:Program} {n:Nat} {Q:Exit→Act→World→Prop} {ops:Array Oper} {rest:List Oper} {e:Env} {w:World} {d:Nat} {ty:TypeId} {pos:String} {after:Array Edge}
theorem run_append_nothing (t ty el:TypeId) (s:Nat) (ht:sliceT P t=some (el,s)) {A:Option Addr} {l cap c:Nat} (hl:l≤cap):(Builtin.append_ #[t,t] ty #[.slice A l cap,.slice none 0 c]).run P w=.ok (.slice A l cap) w:=by
  have h1:=(sliceT.spec ht).1;obtain ⟨i,hi,hs⟩:=(sliceT.spec ht).2.1
  cases A with
  | none=>simp [Builtin.append_,run_underlying h1,Go.sizeOf,typeInfo,hi,Builtin.lenOf,Builtin.firstCells,hl]
  | some a=>simp [Builtin.append_,run_underlying h1,Go.sizeOf,typeInfo,hi,Builtin.lenOf,Builtin.firstCells,hl,storeCells]
theorem run_append_Sl {B el s m k by_ : Nat} {t ty : TypeId} {v u z : Value} {xs news : List Value} {M : List Nat} (hown : w.ownsRow B el s v k xs) (hsrc : Sl M w s u m news) (h1 : ∀ c ∈ news, c.oneCell' = true)
    (ht:sliceT P t=some (el,s)) (hz:zeroT P el=some (z,s,by_)) (hb:(k + m) * by_≤140737488355328) (hm:k + m≤maxLen) (hB:B≤w.heap.size) :
    ∃ v' w',(Builtin.append_ #[t,t] ty #[v,u]).run P w=.ok v' w'∧w'.ownsRow B el s v' (k + m) (xs ++ news)∧Grew v w v' w':=by
  obtain ⟨A,cap,rfl,h2,h3,h4,h5,h6⟩:=hsrc
  cases A with
  | none =>
    have hc:=h5 rfl
    have C0:m=0:=by omega
    subst C0
    have hn:news=[]:=List.eq_nil_of_length_eq_zero (by simpa using h4)
    subst hn
    have hv:∃ A l cap,v=.slice A l cap∧l≤cap:=by
      rcases hown.2 with ⟨rfl,_⟩ | ⟨g,cap,cur,rfl,_,_,hnc,_⟩
      · exact ⟨_,_,_,rfl,Nat.le_refl _⟩
      exact ⟨_,_,_,rfl,hnc⟩
    obtain ⟨A,l,cap',rfl,hl⟩:=hv
    refine ⟨_,w,run_append_nothing t ty el s ht hl,by simpa using hown,Mod.refl _ _,.inl rfl,fun g hg=>(own_ge hown g hg).2⟩
  | some a =>
    obtain ⟨hu,⟨i,hi,hs⟩,hpos⟩:=sliceT.spec ht
    obtain ⟨i',hi',P1,P2,P3,P4⟩:=zeroT.spec hz;obtain ⟨v',w',hr,r1,r2,_,r4⟩:=run_append_own_at (P:=P) w B t ty el i' z s by_ hu hi' P1 P2 P3 P4 hpos v k xs hown a m cap news h4 (h6 a rfl).2 h1 hm hb hB
    exact ⟨v',w',hr,r1,Mod.of_grown r2,r4,fun g hg=>(own_ge r1 g hg).2⟩
theorem L.append {x y : Operand} {B el s m k by_ : Nat} {t : TypeId} {v u z : Value} {xs news : List Value} {M : List Nat} (hx : ev e x = some v) (hy : ev e y = some u) (hown : w.ownsRow B el s v k xs) (hsrc : Sl M w s u m news) (h1 : ∀ c ∈ news, c.oneCell' = true)
    (ht:sliceT P t=some (el,s)) (hz:zeroT P el=some (z,s,by_)) (hb:(k + m) * by_≤140737488355328) (hm:k + m≤maxLen) (hB:B≤w.heap.size) (hd:Nat.blt d n=true)
    (h:∀ v' w',w'.ownsRow B el s v' (k + m) (xs ++ news)→Grew v w v' w'→L P n Q ops rest ((d,v') :: e) w') :
    L P n Q ops (⟨some d,.call ⟨.builtin .append,[x,y].toArray,[t,t].toArray⟩,ty,pos,after,none⟩ :: rest) e w :=
  fun a ha=>wpList_plain rfl fun K hK=>by
    obtain ⟨v',w',hr,r1,r2⟩:=run_append_Sl (P:=P) (ty:=ty) hown hsrc h1 ht hz hb hm hB
    unfold Oper.wp
    have:(execOp a.eval ⟨some d,.call ⟨.builtin .append,[x,y].toArray,[t,t].toArray⟩,ty,pos,after,none⟩).run P w=.ok (.value v') w':=by
      simp [execOp,resolve,invoke,builtin,ha.eval hx,ha.eval hy,hr]
    rw [this]
    exact hK _ _ (h v' w' r1 r2 _ (ha.put hd v'))
theorem L.buildEmpty {t el : TypeId} {s : Nat} (ht : sliceT P t = some (el, s)) (hd : Nat.blt d n = true)
    (h:∀ g w',New w w' g el #[]→L P n Q ops rest ((d,.slice (some ⟨g,0,none⟩) 0 0) :: e) w'):L P n Q ops (⟨some d,.buildSlice t 0 [].toArray,ty,pos,after,none⟩ :: rest) e w :=
  fun a ha=>wpList_plain rfl fun K hK=>by
    unfold Oper.wp
    have h1:=(sliceT.spec ht).1;obtain ⟨i,hi,hs⟩:=(sliceT.spec ht).2.1
    have:(execOp a.eval ⟨some d,.buildSlice t 0 [].toArray,ty,pos,after,none⟩).run P w=.ok (.value (.slice (some ⟨w.heap.size,0,none⟩) 0 0)) (w.alloc (.cells #[] el)):=by
      simp [execOp,Instr.buildSlice,run_underlying h1,Go.sizeOf,typeInfo,hi,Instr.fill,newRow,Array.range_zero']
    rw [this]
    exact hK _ _ (h _ _ (New.of_alloc w el _) _ (ha.put hd _))
theorem L.buildSlice {t el : TypeId} {s by_ len : Nat} {z : Value} {parts : List (Nat × Operand)} {vs cells : List Value} (hx : evl e (parts.map (·.2)) = some vs) (ht : sliceT P t = some (el, s)) (hz : zeroT P el = some (z, s, by_))
    (hf:Instr.fill (fun i=>some (i * s,s)) ((Array.range (len * s)).map (z.cells[· % z.cells.size]!)) ((parts.map (·.1)).zip vs)=some cells.toArray) (hpos:len * s≠0) (hsm:len * s≤16777216) (hd:Nat.blt d n=true)
    (h:∀ g w',New w w' g el cells.toArray→L P n Q ops rest ((d,.slice (some ⟨g,0,none⟩) len len) :: e) w'):L P n Q ops (⟨some d,.buildSlice t len parts.toArray,ty,pos,after,none⟩ :: rest) e w :=
  fun a ha=>wpList_plain rfl fun K hK=>by
    unfold Oper.wp
    have h1:=(sliceT.spec ht).1;obtain ⟨i',hi',P1,P2,P3,P4⟩:=zeroT.spec hz
    have h2:(parts.map fun (x:Nat × Operand)=>(x.1,a.eval x.2))=(parts.map (·.1)).zip vs:=by
      rw [← ha.evals hx]
      clear hx hf
      induction parts with
      | nil=>rfl
      | cons p r ih=>simp [ih]
    subst P2
    have hr:=run_buildSlice (P:=P) w t el len (parts.map fun (x:Nat × Operand)=>(x.1,a.eval x.2)).toArray cells.toArray i' z h1 hi' P1 (by omega) hpos (by rw [List.toList_toArray,h2]; exact hf)
    have:(execOp a.eval ⟨some d,.buildSlice t len parts.toArray,ty,pos,after,none⟩).run P w=.ok (.value (.slice (some ⟨w.heap.size,0,none⟩) len len)) (w.alloc (.cells cells.toArray el)):=by
      simp only [execOp,List.map_toArray]
      simp [hr]
    rw [this]
    exact hK _ _ (h _ _ (New.of_alloc w el _) _ (ha.put hd _))
theorem L.build1 {t el : TypeId} {by_ : Nat} {z v : Value} {x : Operand} (hx : ev e x = some v) (h1 : v.oneCell' = true) (ht : sliceT P t = some (el, 1)) (hz : zeroT P el = some (z, 1, by_)) (hd : Nat.blt d n = true)
    (h:∀ g w',New w w' g el #[v]→L P n Q ops rest ((d,.slice (some ⟨g,0,none⟩) 1 1) :: e) w'):L P n Q ops (⟨some d,.buildSlice t 1 [(0,x)].toArray,ty,pos,after,none⟩ :: rest) e w:=by
  have hvc:v.cells=#[v]:=by cases v <;> simp_all [Value.cells,Value.oneCell']
  have hzc:=(zeroT.spec hz);obtain ⟨i',hi',P1,P2,P3,P4⟩:=hzc
  exact L.buildSlice (parts:=[(0,x)]) (vs:=[v]) (cells:=[v]) (by simp [evl,hx]) ht hz (by
    have:∀ q:Value,(#[q]:Array Value).setIfInBounds 0 v=#[v]:=fun q=>rfl
    simp only [List.map_cons,List.map_nil,List.zip_cons_cons,List.zip_nil_right,Instr.fill,hvc]
    simp [Array.range]
    rfl) (by decide) (by decide) hd h
end
theorem Sl.row1 {w:World} {g el:Nat} {v:Value} {M:List Nat} (hb:Blk w g el #[v]) (hg:g ∉ M):Sl M w 1 (.slice (some ⟨g,0,none⟩) 1 1) 1 [v] :=
  Sl.of_blk hb 0 (Nat.le_refl _) (by decide) rfl hg (fun j hj=>by simp at hj; subst hj; rfl)
section
variable {w w':World} {el s n k:Nat} {v u:Value} {xs cs:List Value} {M:List Nat}
theorem Sl.ownd {z:Nat} (h:Sl M w z u k cs) (hz:0<z) (hown:w'.ownsRow w.heap.size el s v n xs) (hm:Mod [] w w'):Sl (ownL v ++ M) w' z u k cs:=by
  cases hv:v.ownBlock with
  | none => have : ownL v = [] := by unfold ownL; rw [hv]; rfl
            rw [this]; exact h.gr hz hm
  | some g =>
    have:ownL v=[g]:=by unfold ownL; rw [hv]; rfl
    rw [this]
    exact (h.more hz (own_ge hown g hv).1).gr hz hm
theorem Bd.ownd (h:Bd M w) (hown:w'.ownsRow w.heap.size el s v n xs) (hm:Mod [] w w'):Bd (ownL v ++ M) w':=fun m hh=>by
  rcases List.mem_append.1 hh with h1 | h1
  · unfold ownL at h1; exact (own_ge hown m (by simpa using h1)).2
  exact Nat.lt_of_lt_of_le (h m h1) hm.size
theorem own_form (hown:w.ownsRow n el s v k xs):∃ A c,v=.slice A k c:=by
  rcases hown.2 with ⟨rfl,rfl⟩ | ⟨g,cap,cur,rfl,_⟩
  · exact ⟨_,_,rfl⟩
  exact ⟨_,_,rfl⟩
theorem own_less {B B':Nat} (hown:w.ownsRow B el s v k xs) (hB:B'≤B):w.ownsRow B' el s v k xs:=by
  refine ⟨hown.1,?_⟩
  rcases hown.2 with h | ⟨g,cap,cur,h1,h2,h3⟩
  · exact .inl h
  exact .inr ⟨g,cap,cur,h1,Nat.le_trans hB h2,h3⟩
end
theorem own_ne_old {w w':World} {el s n g t:Nat} {v:Value} {xs:List Value} {cs:Array Value} (h:w'.ownsRow w.heap.size el s v n xs) (hb:Blk w g t cs):v.ownBlock≠some g:=fun hh=>by
  have:=(own_ge h g hh).1; have:=hb.lt; omega
theorem own_ne_new {w w':World} {B el s n g t:Nat} {v:Value} {xs:List Value} {cs:Array Value} (h:w.ownsRow B el s v n xs) (hN:New w w' g t cs):v.ownBlock≠some g:=fun hh=>by
  have:=(own_ge h g hh).2; have:=hN.eq; omega
theorem Grew.ne {w w':World} {v v':Value} {g t:Nat} {cs:Array Value} (hG:Grew v w v' w') (hno:v.ownBlock≠some g) (hb:Blk w g t cs):v'.ownBlock≠some g:=by
  rcases hG.at_ with h | h
  · rw [h]; exact hno
  rw [h]; intro hh; simp at hh; have:=hb.lt; omega
theorem own_far {w w':World} {B el s n g:Nat} {v:Value} {xs:List Value} (h:w.ownsRow B el s v n xs) (hm:Mod [g] w w') (hno:v.ownBlock≠some g):w'.ownsRow B el s v n xs :=
  own_gr h hm (by intro x hx hh; simp at hx; subst hx; exact hno hh)
def Strs (M:List Nat) (w:World) (v:Value) (ss:List ByteArray):Prop:=Sl M w 1 v ss.length (ss.map Value.string)
section
variable {M M' G:List Nat} {w w':World} {v u:Value} {ss:List ByteArray} {el s n:Nat} {xs:List Value}
theorem Strs.form (h:Strs M w v ss):∃ A cap,v=.slice A ss.length cap:=Sl.form h
theorem Strs.mod (h:Strs M w v ss) (hm:Mod G w w') (hg:∀ g∈G,g∈M):Strs M w' v ss:=Sl.mod h (by omega) hm hg
theorem Strs.gr (h:Strs M w v ss) (hm:Mod [] w w'):Strs M w' v ss:=Sl.gr h (by omega) hm
theorem Strs.sub (h:Strs M w v ss) (hM:∀ g∈M',g∈M):Strs M' w v ss:=Sl.sub h hM
theorem Strs.new (h:Strs M w v ss) {g:Nat} {t:TypeId} {c:Array Value} (hN:New w w' g t c):Strs (g :: M) w' v ss:=Sl.new h (by omega) hN
theorem Strs.grew {v':Value} (h:Strs (ownL v ++ M) w u ss) (hG:Grew v w v' w'):Strs (ownL v' ++ M) w' u ss:=Grew.sub hG h (by omega)
theorem Strs.ownd (h:Strs M w u ss) (hown:w'.ownsRow w.heap.size el s v n xs) (hm:Mod [] w w'):Strs (ownL v ++ M) w' u ss:=Sl.ownd h (by omega) hown hm
theorem Strs.nil:Strs M w (.slice none 0 0) []:=Sl.nil 0 rfl
theorem Strs.of_own {B:Nat} (h:w.ownsRow B el 1 v ss.length (ss.map Value.string)) (hM:∀ g,v.ownBlock=some g→g ∉ M):Strs M w v ss:=Sl.of_own h hM
theorem Strs.one:∀ c∈ss.map Value.string,c.oneCell'=true:=by simp [Value.oneCell']
theorem Strs.cell (h:Strs M w v ss) {i:Nat} (hi:i<ss.length):w.cell? (elemAt v 1 i)=some (.string ss[i]):=Sl.cell0 h (by simp [hi])
end
section
variable {P:Program} {e:Env} {w:World} {ty:TypeId} {M:List Nat} {v:Value} {ss:List ByteArray} {x y:Operand} {t el:TypeId} {k:IntKind} {i:Int} {j:Nat}
end
theorem U32.ownd {w w':World} {el s n:Nat} {v u:Value} {xs:List Value} {ys:List Nat} {M:List Nat} (h:U32 M w u ys) (hown:w'.ownsRow w.heap.size el s v n xs) (hm:Mod [] w w'):U32 (ownL v ++ M) w' u ys:=⟨Sl.ownd h.1 (by omega) hown hm,h.2⟩
theorem own_gs {w w' : World} {B el : Nat} {s : Nat} {v : Value} {n : Nat} {xs : List Value} {G : List Nat} (h : w.ownsRow B el s v n xs) (hm : Mod G w w') (hg : ∀ g ∈ G,v.ownBlock≠some g:=by simp) : w'.ownsRow B el s v n xs:=own_gr h hm hg
end Go.Proofs.YthoooolflmbmbaaGreat
