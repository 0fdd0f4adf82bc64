/- Rows of one's own that are read and stored into: numbers, labels. Nothing of a program in sight. -/
import Derived.Test.YthoooolflmbmbaaGreatLay
namespace Go.Proofs.YthoooolflmbmbaaGreat
open Go.RowKit
set_option linter.unusedVariables false
set_option linter.unusedSimpArgs false
def ints (xs:List Nat):List Value:=xs.map fun (x:Nat)=>Value.int .i64 (x:Int)
theorem ints_length (xs:List Nat):(ints xs).length=xs.length:=by simp [ints]
theorem ints_set (xs:List Nat) (i x:Nat):(ints xs).set i (.int .i64 (x:Int))=ints (xs.set i x):=by simp [ints,List.map_set]
theorem ints_get {xs:List Nat} {i:Nat} (h:i<xs.length):(ints xs)[i]?=some (.int .i64 ((xs.getD i 0:Nat):Int)):=by simp [ints,h]
section
variable {P:Program} {n:Nat} {Q:Exit→Act→World→Prop} {ops:Array Oper} {rest:List Oper} {e:Env} {w w' w'':World} {d:Nat} {ty:TypeId} {pos:String} {after:Array Edge} {x y:Operand} {t el:TypeId} {v u:Value} {B k i:Nat} {xs:List Value} {z:Int} {kk:IntKind} {G:List Nat}
theorem R1.lenOwn {s:Nat} (hx:ev e x=some v) (ho:w.ownsRow B el s v k xs) (ht:sliceT P t=some (el,s)):R1 P e (.call ⟨.builtin .len,[x].toArray,[t].toArray⟩) ty w (.int .i64 (k:Int)):=R1.lenSl (Sl.of_own (M:=[]) ho (fun _ _ h=>by cases h)) hx ht
theorem R1.atOwn {s:Nat} (hx:ev e x=some v) (hy:ev e y=some (.int kk z)) (ho:w.ownsRow B el s v k xs) (ht:sliceT P t=some (el,s)) (hz:z=(i:Int)) (hi:i<k):R1 P e (.indexAddr t x y) ty w (.pointer (some (elemAt v s i))) :=
  R1.at_ i (Sl.of_own (M:=[]) ho (fun _ _ h=>by cases h)) hx hy ht hz hi
theorem R1.ldOwn (hx:ev e x=some (.pointer (some (elemAt v 1 i)))) (ho:w.ownsRow B el 1 v k xs) (hc:xs[i]?=some u) (ht:plainT P t=true):R1 P e (.load t x) ty w u :=
  R1.load hx ((Sl.of_own (M:=[]) ho (fun _ _ h=>by cases h)).cell0 (by simpa using hc)) ht
theorem R1.ldLab {l:List Nat} (hx:ev e x=some (.pointer (some (elemAt v 1 i)))) (ho:w.ownsRow B el 1 v k (ints l)) (hi:i<k) (ht:plainT P t=true):R1 P e (.load t x) ty w (.int .i64 ((l.getD i 0:Nat):Int)) :=
  R1.ldOwn hx ho (ints_get (by have:=ho.1; rw [ints_length] at this; omega)) ht
theorem L.storeOwn (hx : ev e x = some (.pointer (some (elemAt v 1 i)))) (hy : ev e y = some u) (ho : w.ownsRow B el 1 v k xs) (hi : i < k) (h1 : u.oneCell' = true) (ht : plainT P t = true)
    (h:∀ w',w'.ownsRow B el 1 v k (xs.set i u)→Mod (ownL v) w w'→L P n Q ops rest e w'):L P n Q ops (⟨none,.store t x y,ty,pos,after,none⟩ :: rest) e w:=by
  obtain ⟨hl,O2⟩:=ho
  rcases O2 with ⟨_,h0⟩ | ⟨g,cap,cur,rfl,hB,hg,hnc,hcm,hcs,htake⟩
  · omega
  have hx':ev e x=some (.pointer (some ⟨g,i,none⟩)):=by rw [hx]; simp [elemAt,add_lit]
  refine L.store hx' hy (cs:=cur) hg (by omega) h1 ht (fun w' hb hm=>h w' ⟨by simpa using hl,.inr ⟨g,cap,_,rfl,hB,hb,hnc,hcm,by simpa using hcs,?_⟩⟩ hm)
  rw [Array.toList_setIfInBounds,List.take_set,htake]
theorem L.storeLab {l : List Nat} {c : Nat} (hx : ev e x = some (.pointer (some (elemAt v 1 i)))) (hy : ev e y = some (.int .i64 (c : Int))) (ho : w.ownsRow B el 1 v k (ints l)) (hi : i < k) (ht : plainT P t = true)
    (h:∀ w',w'.ownsRow B el 1 v k (ints (l.set i c))→Mod (ownL v) w w'→L P n Q ops rest e w'):L P n Q ops (⟨none,.store t x y,ty,pos,after,none⟩ :: rest) e w :=
  L.storeOwn hx hy ho hi rfl ht (fun w' h2 h3=>h w' (by rw [← ints_set]; exact h2) h3)
theorem Mod.oldOwn {s:Nat} (h:Mod G w w') (k':Mod (ownL v) w' w'') (ho:w'.ownsRow w.heap.size el s v k xs):Mod G w w'' :=
  h.old k' (fun g hg=>.inr (own_ge ho g (by unfold ownL at hg; simpa using hg)).1)
theorem Blk.ownfar {g t':Nat} {cs:Array Value} (hb:Blk w g t' cs) (hm:Mod (ownL v) w w') (hno:v.ownBlock≠some g):Blk w' g t' cs:=hb.mod hm (by unfold ownL; simpa using hno)
theorem mem_own {M:List Nat}:∀ g∈ownL v,g∈ownL v ++ M:=fun g hg=>List.mem_append.2 (.inl hg)
theorem own_made {g:Nat} {m:Nat} (hN:New w w' g el (madeCells (Value.int .i64 0).cells (m * 1))) (hB:B≤w.heap.size) (hm:m≤maxLen):w'.ownsRow B el 1 (.slice (some ⟨g,0,none⟩) m m) m (ints (List.replicate m 0)):=by
  have h1:=toList_madeCells_one (.int .i64 0) (m * 1)
  have h2:(madeCells (Value.int .i64 0).cells (m * 1)).size=m * 1:=by rw [← Array.length_toList]; simp only [Value.cells]; rw [h1]; simp
  have:=own_new hN hB h2 hm (Nat.le_refl m)
  simp only [Value.cells] at this
  rw [h1] at this
  simpa [ints] using this
theorem own_ne_new' {g g' l c:Nat} (h:g≠g'):(Value.slice (some ⟨g',0,none⟩) l c).ownBlock≠some g:=fun hh=>by simp [Value.ownBlock] at hh; exact h hh.symm
theorem Bd.sub {M M':List Nat} (h:Bd M w) (hs:∀ b∈M',b∈M):Bd M' w:=fun m hm=>h m (hs m hm)
theorem of_cons {M:List Nat} {g:Nat} (h:ownL v=[g]):∀ b∈ownL v ++ M,b∈g :: M:=fun b hb=>by rw [h] at hb; simpa using hb
def Away (v u:Value):Prop:=∀ g,v.ownBlock=some g→u.ownBlock≠some g
theorem own_away_new {s g t' l c:Nat} {cs:Array Value} (h:w.ownsRow B el s v k xs) (hN:New w w' g t' cs):Away v (.slice (some ⟨g,0,none⟩) l c):=fun b h1 h2=>by
  have h3:g=b:=by simpa [Value.ownBlock] using h2
  have:=(own_ge h b h1).2
  have:=hN.eq
  omega
theorem Away.symm (h:Away v u):Away u v:=fun g h1 h2=>h g h2 h1
theorem own_away {s' el' k' B' s:Nat} {ys:List Value} (h:w.ownsRow B el s v k xs) (hm:Mod (ownL u) w w') (ha:Away v u):w'.ownsRow B el s v k xs:=own_gr h hm (fun g hg h2=>ha g h2 (by unfold ownL at hg; simpa using hg))
theorem Away.grew {s:Nat} {v':Value} (ha:Away u v) (hG:Grew v w v' w') (ho:w.ownsRow B el s u k xs):Away u v':=fun g h1 h2=>by
  rcases hG.at_ with h3 | h3
  · rw [h3] at h2; exact ha g h1 h2
  rw [h3] at h2; injection h2 with h2; subst h2
  have:=(own_ge ho _ h1).2; omega
theorem Away.nil (c l:Nat):Away u (.slice none l c):=fun g _ h=>by simp [Value.ownBlock] at h
end
theorem LayL.grew2 {α:Type} {R:Rd α} {M:List Nat} {w w':World} {v v':Value} {css:List (List Value)} {as:List α} (h:LayL R M w css as) (hG:Grew v w v' w') (hv:∀ g∈ownL v,g∈M):LayL R (ownL v' ++ M) w' css as :=
  ((h.sub (M':=ownL v ++ M) (fun g hg=>by rcases List.mem_append.1 hg with h1 | h1; exact hv g h1; exact h1)).grew hG)
theorem Lay.grew2 {α:Type} {R:Rd α} {M:List Nat} {w w':World} {u v v':Value} {as:List α} (h:Lay R M w u as) (hG:Grew v w v' w') (hv:∀ g∈ownL v,g∈M):Lay R (ownL v' ++ M) w' u as :=
  ((h.sub (M':=ownL v ++ M) (fun g hg=>by rcases List.mem_append.1 hg with h1 | h1; exact hv g h1; exact h1)).grew hG)
theorem U32.grew2 {M:List Nat} {w w':World} {u v v':Value} {xs:List Nat} (h:U32 M w u xs) (hG:Grew v w v' w') (hv:∀ g∈ownL v,g∈M):U32 (ownL v' ++ M) w' u xs :=
  ((h.sub (M':=ownL v ++ M) (fun g hg=>by rcases List.mem_append.1 hg with h1 | h1; exact hv g h1; exact h1)).grew hG)
theorem SlE.grew2 {M:List Nat} {w w':World} {ad:Addr} {v v':Value} {cs:List Value} (h:SlE M w ad cs) (hG:Grew v w v' w') (hv:∀ g∈ownL v,g∈M):SlE (ownL v' ++ M) w' ad cs:=by
  rcases hG.at_ with h1 | h1
  · have:ownL v'=ownL v:=by unfold ownL; rw [h1]
    rw [this]
    exact (h.mod hG.mod hv).sub (fun b hb=>by rcases List.mem_append.1 hb with h2 | h2; exact hv b h2; exact h2)
  have h2:SlE (w.heap.size :: M) w' ad cs:=(h.more (Nat.le_refl _)).mod hG.mod (fun g hg=>List.mem_cons_of_mem _ (hv g hg))
  refine h2.sub (fun g hg=>?_)
  have:ownL v'=[w.heap.size]:=by unfold ownL; rw [h1]; rfl
  rw [this] at hg
  rcases List.mem_append.1 hg with h4 | h4
  · simp at h4; simp [h4]
  simp [h4]
theorem U32.of_own {M:List Nat} {w:World} {B el k:Nat} {v:Value} {xs:List Nat} (h:w.ownsRow B el 1 v k (xs.map fun (x:Nat)=>Value.int .u32 (x:Int))) (hx:∀ x∈xs,x<4294967296) (hM:∀ g,v.ownBlock=some g→g ∉ M):U32 M w v xs:=by
  have e:k=xs.length:=by have:=h.1; simpa using this.symm
  subst e
  exact ⟨Sl.of_own h hM,hx⟩
theorem Bd.grew2 {M:List Nat} {w w':World} {v v':Value} (h:Bd M w) (hG:Grew v w v' w') (hv:∀ g∈ownL v,g∈M):Bd (ownL v' ++ M) w':=fun m hm=>by
  rcases List.mem_append.1 hm with h1 | h1
  · unfold ownL at h1; exact hG.there m (by simpa using h1)
  exact Nat.lt_of_lt_of_le (h m h1) hG.mod.size
theorem ints_append (xs ys:List Nat):ints (xs ++ ys)=ints xs ++ ints ys:=by simp [ints]
theorem own_congr {w:World} {B el s k k':Nat} {v:Value} {xs ys:List Value} (h:w.ownsRow B el s v k xs) (e1:k=k') (e2:xs=ys):w.ownsRow B el s v k' ys:=by subst e1; subst e2; exact h
theorem Lay.of_own {α:Type} {R:Rd α} {M:List Nat} {w:World} {B el:Nat} {v:Value} {as:List α} {css:List (List Value)} (h:w.ownsRow B el R.size v as.length css.flatten) (hl:LayL R M w css as) (hM:∀ g,v.ownBlock=some g→g ∉ M):Lay R M w v as:=⟨css,Sl.of_own h hM,hl⟩
theorem Lay.of_blk {α:Type} {R:Rd α} {M:List Nat} {w:World} {g el n:Nat} {cs:List Value} {css:List (List Value)} {as:List α} (hb:Blk w g el cs.toArray) (hl:LayL R M w css as) (hc:css.flatten=cs) (hn:as.length=n) (hm:n≤maxLen) (hg:g ∉ M):Lay R M w (.slice (some ⟨g,0,none⟩) n n) as:=by
  subst hn
  refine ⟨css,Sl.of_blk hb 0 (Nat.le_refl _) hm hl.flat hg (fun j hj=>?_),hl⟩
  rw [hc]; simp
theorem rdT_mk {M:List Nat} {w:World} {t:TR} {vn vd:Value} (h1:U32 M w vn t.c.n) (h2:U32 M w vd t.c.d):rdT.rd M w [.int .i64 t.v,.bool t.c.s,vn,vd] t:=⟨_,rfl,vn,vd,rfl,h1,h2⟩
theorem rdQ_mk {M:List Nat} {w:World} {q:QR} {vn vd:Value} (h1:U32 M w vn q.n) (h2:U32 M w vd q.d):rdQ.rd M w [.bool q.s,vn,vd] q:=⟨vn,vd,rfl,h1,h2⟩
theorem rdC_mk {M:List Nat} {w:World} {c:CR} {vt vn vd:Value} (h0:Lay rdT M w vt c.ts) (h1:U32 M w vn c.k.n) (h2:U32 M w vd c.k.d):rdC.rd M w [.int .i64 c.st,vt,.bool c.k.s,vn,vd] c:=⟨vt,_,rfl,h0,vn,vd,rfl,h1,h2⟩
theorem LayL.ints {M:List Nat} {w:World}:∀ (xs:List Int),LayL rdI M w (xs.map fun z=>[Value.int .i64 z]) xs
  | xs=>⟨by simp,fun i cs a h1 h2=>by
    rw [List.getElem?_map,h2] at h1
    simp at h1; exact h1.symm⟩
theorem flat_ints (xs:List Int):(xs.map fun z=>[Value.int .i64 z]).flatten=xs.map fun z=>Value.int .i64 z:=by
  induction xs with
  | nil=>rfl
  | cons x r ih=>simp [ih]
theorem Lay.of_ownI {M:List Nat} {w:World} {B el:Nat} {v:Value} {xs:List Int} (h:w.ownsRow B el 1 v xs.length (xs.map fun z=>Value.int .i64 z)) (hM:∀ g,v.ownBlock=some g→g ∉ M):Lay rdI M w v xs :=
  Lay.of_own (R:=rdI) (css:=xs.map fun z=>[Value.int .i64 z]) (by rw [flat_ints]; exact h) (LayL.ints xs) hM
theorem Lay.of_ints {M:List Nat} {w:World} {B el k:Nat} {v:Value} {l:List Nat} (h:w.ownsRow B el 1 v k (Proofs.YthoooolflmbmbaaGreat.ints l)) (hM:∀ g,v.ownBlock=some g→g ∉ M):Lay rdI M w v (l.map fun (x:Nat)=>(x:Int)):=by
  have e:k=(l.map fun (x:Nat)=>(x:Int)).length:=by have:=h.1; rw [ints_length] at this; simp; omega
  refine Lay.of_ownI (own_congr h e ?_) hM
  simp [Proofs.YthoooolflmbmbaaGreat.ints,List.map_map]
theorem Lay.gw {α : Type} {R : Rd α} {w w' : World} {M : List Nat} {u u' : Value} {v : Value} {as : List α} (h : Lay R M w v as) (hG : Grew u w u' w') (hv : ∀ g ∈ ownL u,g ∈ M:=by first | exact mem_own | (intro b hb; simp [hb])) : Lay R (ownL u' ++ M) w' v as:=h.grew2 hG hv
theorem LayL.gw {α : Type} {R : Rd α} {w w' : World} {M : List Nat} {u u' : Value} {css : List (List Value)} {as : List α} (h : LayL R M w css as) (hG : Grew u w u' w') (hv : ∀ g ∈ ownL u,g ∈ M:=by first | exact mem_own | (intro b hb; simp [hb])) : LayL R (ownL u' ++ M) w' css as:=h.grew2 hG hv
theorem SlE.gw {w w' : World} {M : List Nat} {u u' : Value} {ad : Addr} {cs : List Value} (h : SlE M w ad cs) (hG : Grew u w u' w') (hv : ∀ g ∈ ownL u,g ∈ M:=by first | exact mem_own | (intro b hb; simp [hb])) : SlE (ownL u' ++ M) w' ad cs:=h.grew2 hG hv
theorem U32.gw {w w' : World} {M : List Nat} {u u' : Value} {v : Value} {xs : List Nat} (h : U32 M w v xs) (hG : Grew u w u' w') (hv : ∀ g ∈ ownL u,g ∈ M:=by first | exact mem_own | (intro b hb; simp [hb])) : U32 (ownL u' ++ M) w' v xs:=h.grew2 hG hv
theorem Bd.gw {w w' : World} {M : List Nat} {u u' : Value}  (h : Bd M w) (hG : Grew u w u' w') (hv : ∀ g ∈ ownL u,g ∈ M:=by first | exact mem_own | (intro b hb; simp [hb])) : Bd (ownL u' ++ M) w':=h.grew2 hG hv
end Go.Proofs.YthoooolflmbmbaaGreat
