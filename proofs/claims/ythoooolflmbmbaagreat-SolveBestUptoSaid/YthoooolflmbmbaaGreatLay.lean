/- Rows of elements in memory: what reads as a list of numbers, of fractions, of terms, of sums. Nothing of a program in sight, but how one reads. -/
import Derived.Test.YthoooolflmbmbaaGreatRatb
namespace Go.Proofs.YthoooolflmbmbaaGreat
open Go.RowKit
set_option linter.unusedVariables false
set_option linter.unusedSimpArgs false
structure Rd (α:Type) where
  size:Nat
  pos:0<size
  rd:List Nat→World→List Value→α→Prop
  len:∀ {M w cs a},rd M w cs a→cs.length=size
  mod:∀ {M G w w' cs a},rd M w cs a→Mod G w w'→(∀ g∈G,g∈M)→rd M w' cs a
  sub:∀ {M M' w cs a},rd M w cs a→(∀ g∈M',g∈M)→rd M' w cs a
  more:∀ {M w cs a} {g:Nat},rd M w cs a→w.heap.size≤g→rd (g :: M) w cs a
  one:∀ {M w cs a},rd M w cs a→∀ c∈cs,c.oneCell'=true
structure LayL {α:Type} (R:Rd α) (M:List Nat) (w:World) (css:List (List Value)) (as:List α):Prop where
  len:css.length=as.length
  get:∀ (i:Nat) (cs:List Value) (a:α),css[i]?=some cs→as[i]?=some a→R.rd M w cs a
def Lay {α:Type} (R:Rd α) (M:List Nat) (w:World) (v:Value) (as:List α):Prop :=
  ∃ css,Sl M w R.size v as.length css.flatten∧LayL R M w css as
section
variable {α:Type} {R:Rd α} {M M' G:List Nat} {w w':World} {v:Value} {as bs:List α} {css dss:List (List Value)}
theorem LayL.mod (h:LayL R M w css as) (hm:Mod G w w') (hg:∀ g∈G,g∈M):LayL R M w' css as:=⟨h.len,fun i cs a h1 h2=>R.mod (h.get i cs a h1 h2) hm hg⟩
theorem LayL.sub (h:LayL R M w css as) (hM:∀ g∈M',g∈M):LayL R M' w css as:=⟨h.len,fun i cs a h1 h2=>R.sub (h.get i cs a h1 h2) hM⟩
theorem LayL.more (h:LayL R M w css as) {g:Nat} (hg:w.heap.size≤g):LayL R (g :: M) w css as:=⟨h.len,fun i cs a h1 h2=>R.more (h.get i cs a h1 h2) hg⟩
theorem LayL.gr (h:LayL R M w css as) (hm:Mod [] w w'):LayL R M w' css as:=h.mod hm (by simp)
theorem LayL.new (h:LayL R M w css as) {g:Nat} {t:TypeId} {c:Array Value} (hN:New w w' g t c):LayL R (g :: M) w' css as:=(h.more (by rw [hN.eq]; exact Nat.le_refl _)).gr hN.mod
theorem LayL.nil:LayL R M w [] []:=⟨rfl,fun i cs a h=>by simp at h⟩
theorem LayL.append (h:LayL R M w css as) (k:LayL R M w dss bs):LayL R M w (css ++ dss) (as ++ bs):=by
  refine ⟨by simp [h.len,k.len],fun i cs a h1 h2=>?_⟩
  have hl:=h.len
  rcases Nat.lt_or_ge i css.length with hi | hi
  · rw [List.getElem?_append_left hi] at h1
    rw [List.getElem?_append_left (by omega)] at h2
    exact h.get i cs a h1 h2
  rw [List.getElem?_append_right hi] at h1
  rw [List.getElem?_append_right (by omega),← hl] at h2
  exact k.get _ cs a h1 h2
theorem LayL.one (cs:List Value) (a:α) (h:R.rd M w cs a):LayL R M w [cs] [a]:=by
  refine ⟨rfl,fun i cs' a' h1 h2=>?_⟩
  cases i with
  | zero=>simp at h1 h2; subst h1; subst h2; exact h
  | succ i=>simp at h1
theorem LayL.flat (h:LayL R M w css as):css.flatten.length=as.length * R.size:=by
  have hall:∀ cs∈css,cs.length=R.size:=fun cs hcs=>by
    obtain ⟨i,hi,rfl⟩:=List.mem_iff_getElem.1 hcs
    have hi2:i<as.length:=by rw [← h.len]; exact hi
    exact R.len (h.get i _ _ (List.getElem?_eq_getElem hi) (List.getElem?_eq_getElem hi2))
  rw [← h.len]
  clear h
  induction css with
  | nil=>simp
  | cons c r ih=>rw [List.flatten_cons,List.length_append,hall c (by simp),ih (fun cs hcs=>hall cs (by simp [hcs])),List.length_cons,Nat.add_mul]; omega
theorem flat_get {s:Nat}:∀ {css:List (List Value)} {i o:Nat} {cs:List Value},(∀ c∈css,c.length=s)→css[i]?=some cs→o<s→css.flatten[i * s + o]?=cs[o]?
  | [],i,o,cs,_,h,_=>by simp at h
  | c :: r,0,o,cs,hs,h,ho=>by
    simp at h; subst h
    rw [List.flatten_cons,List.getElem?_append_left (by rw [hs c (by simp)]; omega)]; simp
  | c :: r,i + 1,o,cs,hs,h,ho=>by
    have hc:=hs c (by simp)
    rw [List.flatten_cons,List.getElem?_append_right (by rw [hc,Nat.add_mul]; omega),hc]
    have e:(i + 1) * s + o - s=i * s + o:=by rw [Nat.add_mul]; omega
    rw [e]
    exact flat_get (fun c hc=>hs c (by simp [hc])) (by simpa using h) ho
theorem LayL.all (h:LayL R M w css as):∀ cs∈css,cs.length=R.size:=fun cs hcs=>by
  obtain ⟨i,hi,rfl⟩:=List.mem_iff_getElem.1 hcs
  have hi2:i<as.length:=by rw [← h.len]; exact hi
  exact R.len (h.get i _ _ (List.getElem?_eq_getElem hi) (List.getElem?_eq_getElem hi2))
theorem LayL.ones (h:LayL R M w css as):∀ c∈css.flatten,c.oneCell'=true:=fun c hc=>by
  obtain ⟨cs,hcs,J2⟩:=List.mem_flatten.1 hc;obtain ⟨i,hi,rfl⟩:=List.mem_iff_getElem.1 hcs
  have hi2:i<as.length:=by rw [← h.len]; exact hi
  exact R.one (h.get i _ _ (List.getElem?_eq_getElem hi) (List.getElem?_eq_getElem hi2)) c J2
theorem LayL.at_ (h:LayL R M w css as) {i:Nat} (hi:i<as.length):∃ cs,css[i]?=some cs∧R.rd M w cs as[i]:=by
  have hi2:i<css.length:=by rw [h.len]; exact hi
  exact ⟨css[i],List.getElem?_eq_getElem hi2,h.get i _ _ (List.getElem?_eq_getElem hi2) (List.getElem?_eq_getElem hi)⟩
theorem Lay.form (h:Lay R M w v as):∃ A cap,v=.slice A as.length cap:=let ⟨_,h,_⟩:=h; h.form
theorem Lay.max (h:Lay R M w v as):as.length≤maxLen:=let ⟨_,h,_⟩:=h; h.max
theorem Lay.mod (h:Lay R M w v as) (hm:Mod G w w') (hg:∀ g∈G,g∈M):Lay R M w' v as:=let ⟨css,h1,h2⟩:=h; ⟨css,h1.mod R.pos hm hg,h2.mod hm hg⟩
theorem Lay.gr (h:Lay R M w v as) (hm:Mod [] w w'):Lay R M w' v as:=h.mod hm (by simp)
theorem Lay.sub (h:Lay R M w v as) (hM:∀ g∈M',g∈M):Lay R M' w v as:=let ⟨css,h1,h2⟩:=h; ⟨css,h1.sub hM,h2.sub hM⟩
theorem Lay.more (h:Lay R M w v as) {g:Nat} (hg:w.heap.size≤g):Lay R (g :: M) w v as:=let ⟨css,h1,h2⟩:=h; ⟨css,h1.more R.pos hg,h2.more hg⟩
theorem Lay.new (h:Lay R M w v as) {g:Nat} {t:TypeId} {c:Array Value} (hN:New w w' g t c):Lay R (g :: M) w' v as:=(h.more (by rw [hN.eq]; exact Nat.le_refl _)).gr hN.mod
theorem Lay.nil {c:Nat} (hc:c=0):Lay R M w (.slice none 0 c) []:=⟨[],Sl.nil c hc,LayL.nil⟩
theorem Lay.empty (A:Option Addr) (c:Nat) (hc:c≤maxLen) (hA:A=none→c=0):Lay R M w (.slice A 0 c) []:=⟨[],Sl.empty A c hc hA,LayL.nil⟩
theorem flatten_take {s:Nat}:∀ (css:List (List Value)) (k:Nat),(∀ c∈css,c.length=s)→css.flatten.take (k * s)=(css.take k).flatten
  | [],k,_=>by simp
  | c :: r,0,_=>by simp
  | c :: r,k + 1,h=>by
    have hc:=h c (by simp)
    rw [List.flatten_cons,List.take_append,hc,List.take_of_length_le (by rw [hc,Nat.add_mul]; omega)]
    have e:(k + 1) * s - s=k * s:=by rw [Nat.add_mul]; omega
    rw [e,flatten_take r k (fun c hc=>h c (by simp [hc]))]
    simp
theorem flatten_drop {s:Nat}:∀ (css:List (List Value)) (k:Nat),(∀ c∈css,c.length=s)→css.flatten.drop (k * s)=(css.drop k).flatten
  | [],k,_=>by simp
  | c :: r,0,_=>by simp
  | c :: r,k + 1,h=>by
    have hc:=h c (by simp)
    rw [List.flatten_cons,List.drop_append,hc,List.drop_of_length_le (by rw [hc,Nat.add_mul]; omega)]
    have e:(k + 1) * s - s=k * s:=by rw [Nat.add_mul]; omega
    rw [e,flatten_drop r k (fun c hc=>h c (by simp [hc]))]
    simp
theorem LayL.take (h:LayL R M w css as) (k:Nat):LayL R M w (css.take k) (as.take k):=by
  refine ⟨by simp [h.len],fun i cs a h1 h2=>?_⟩
  rw [List.getElem?_take] at h1 h2
  split at h1
  · rename_i hi; rw [if_pos hi] at h2; exact h.get i cs a h1 h2
  cases h1
theorem LayL.drop (h:LayL R M w css as) (k:Nat):LayL R M w (css.drop k) (as.drop k):=by
  refine ⟨by simp [h.len],fun i cs a h1 h2=>?_⟩
  rw [List.getElem?_drop] at h1 h2
  exact h.get _ cs a h1 h2
theorem Lay.cutH {A:Option Addr} {cap:Nat} (h:Lay R M w (.slice A as.length cap) as) {k:Nat} (hk:k≤as.length):Lay R M w (cutS A cap 0 k R.size) (as.take k):=by
  obtain ⟨css,h1,h2⟩:=h;have h3:=h1.cutH hk rfl
  rw [flatten_take css k h2.all] at h3
  exact ⟨css.take k,h3.congr (by simp; omega) rfl,h2.take k⟩
theorem Lay.cutL {A:Option Addr} {cap:Nat} (h:Lay R M w (.slice A as.length cap) as) {l:Nat} (hl:l≤as.length):Lay R M w (cutS A cap l as.length R.size) (as.drop l):=by
  obtain ⟨css,h1,h2⟩:=h;have h3:=h1.cutL hl rfl
  rw [flatten_drop css l h2.all] at h3
  exact ⟨css.drop l,h3.congr (by simp) rfl,h2.drop l⟩
theorem Lay.capOf {A:Option Addr} {l cap:Nat} (h:Lay R M w (.slice A l cap) as):as.length≤cap∧cap≤maxLen∧(A=none→cap=0):=by
  obtain ⟨css,⟨A',cap',h1,h2,h3,h4,h5,h6⟩,_⟩:=h
  injection h1 with e1 _ e3; subst e1; subst e3
  exact ⟨h2,h3,h5⟩
theorem Lay.congr (h:Lay R M w v as) (e:as=bs):Lay R M w v bs:=e ▸ h
end
structure Own {α:Type} (R:Rd α) (M:List Nat) (w:World) (B el:Nat) (v:Value) (as:List α):Prop where
  ex:∃ css,w.ownsRow B el R.size v as.length css.flatten∧LayL R (ownL v ++ M) w css as
section
variable {α:Type} {R:Rd α} {M M' G:List Nat} {w w':World} {v v' u:Value} {as bs:List α} {css dss:List (List Value)} {B el:Nat}
theorem LayL.grew (hG:Grew v w v' w') (h:LayL R (ownL v ++ M) w css as):LayL R (ownL v' ++ M) w' css as:=by
  rcases hG.at_ with h1 | h1
  · have:ownL v'=ownL v:=by unfold ownL; rw [h1]
    rw [this]
    exact h.mod hG.mod (fun g hg=>List.mem_append.2 (.inl hg))
  have h2:LayL R (w.heap.size :: (ownL v ++ M)) w css as:=h.more (Nat.le_refl _)
  have h3:LayL R (w.heap.size :: (ownL v ++ M)) w' css as:=h2.mod hG.mod (fun g hg=>by simp [hg])
  refine h3.sub (fun g hg=>?_)
  have:ownL v'=[w.heap.size]:=by unfold ownL; rw [h1]; rfl
  rw [this] at hg
  rcases List.mem_append.1 hg with h4 | h4
  · simp at h4; simp [h4]
  simp [h4]
theorem Lay.grew (h:Lay R (ownL v ++ M) w u as) (hG:Grew v w v' w'):Lay R (ownL v' ++ M) w' u as:=let ⟨css,h1,h2⟩:=h; ⟨css,hG.sub h1 R.pos,h2.grew hG⟩
theorem LayL.ownd {el s n:Nat} {xs:List Value} (h:LayL R M w css as) (hown:w'.ownsRow w.heap.size el s v n xs) (hm:Mod [] w w'):LayL R (ownL v ++ M) w' css as:=by
  cases hv:v.ownBlock with
  | none => have : ownL v = [] := by unfold ownL; rw [hv]; rfl
            rw [this]; exact h.mod hm (by simp)
  | some g =>
    have:ownL v=[g]:=by unfold ownL; rw [hv]; rfl
    rw [this]
    exact (h.more (own_ge hown g hv).1).mod hm (by simp)
theorem Lay.ownd {el s n:Nat} {xs:List Value} (h:Lay R M w u as) (hown:w'.ownsRow w.heap.size el s v n xs) (hm:Mod [] w w'):Lay R (ownL v ++ M) w' u as:=let ⟨css,h1,h2⟩:=h; ⟨css,h1.ownd R.pos hown hm,h2.ownd hown hm⟩
end
def rdI:Rd Int where
  size:=1
  pos:=by decide
  rd:=fun _ _ cs a=>cs=[.int .i64 a]
  len:=fun h=>by rw [h]; rfl
  mod:=fun h _ _=>h
  sub:=fun h _=>h
  more:=fun h _=>h
  one:=fun h=>by rw [h]; simp [Value.oneCell']
structure QR where
  s:Bool
  n:List Nat
  d:List Nat
def QR.val (q:QR):Rat:=rv q.s (Proofs.YthoooolflmbmbaaGreat.val q.n) (Proofs.YthoooolflmbmbaaGreat.val q.d)
def QR.is (q:QR):Bool:=isN q.s q.n q.d
def QR.nf (q:Rat):QR:=⟨decide (q.num<0),toL q.num.natAbs,toL q.den⟩
theorem QR.nf_val (q:Rat):(QR.nf q).val=q:=rv_toL q
theorem QR.is_nf {q:QR} (h:q.is=true):q=QR.nf q.val:=by
  unfold QR.is isN at h
  simp only [Bool.and_eq_true,beq_iff_eq,decide_eq_true_eq] at h
  obtain ⟨h1,h2,h3⟩:=h
  cases q
  simp only [QR.nf,QR.val,QR.mk.injEq]
  exact ⟨h1,h2,h3⟩
def rdQ:Rd QR where
  size:=3
  pos:=by decide
  rd:=fun M w cs q=>∃ vn vd,cs=[.bool q.s,vn,vd]∧U32 M w vn q.n∧U32 M w vd q.d
  len:=fun ⟨_,_,h,_⟩=>by rw [h]; rfl
  mod:=fun ⟨vn,vd,h,h1,h2⟩ hm hg=>⟨vn,vd,h,h1.mod hm hg,h2.mod hm hg⟩
  sub:=fun ⟨vn,vd,h,h1,h2⟩ hM=>⟨vn,vd,h,h1.sub hM,h2.sub hM⟩
  more:=fun ⟨vn,vd,h,h1,h2⟩ hg=>⟨vn,vd,h,h1.more hg,h2.more hg⟩
  one:=fun ⟨vn,vd,h,h1,h2⟩=>by
    obtain ⟨_,_,rfl⟩:=h1.form;obtain ⟨_,_,rfl⟩:=h2.form
    rw [h]; simp [Value.oneCell']
structure TR where
  v:Int
  c:QR
def rdT:Rd TR where
  size:=4
  pos:=by decide
  rd:=fun M w cs t=>∃ ds,cs=.int .i64 t.v :: ds∧rdQ.rd M w ds t.c
  len:=fun ⟨ds,h,h1⟩=>by rw [h,List.length_cons,rdQ.len h1]; rfl
  mod:=fun ⟨ds,h,h1⟩ hm hg=>⟨ds,h,rdQ.mod h1 hm hg⟩
  sub:=fun ⟨ds,h,h1⟩ hM=>⟨ds,h,rdQ.sub h1 hM⟩
  more:=fun ⟨ds,h,h1⟩ hg=>⟨ds,h,rdQ.more h1 hg⟩
  one:=fun ⟨ds,h,h1⟩ c hc=>by
    rw [h] at hc
    rcases List.mem_cons.1 hc with rfl | hc
    · rfl
    exact rdQ.one h1 c hc
structure CR where
  st:Int
  ts:List TR
  k:QR
def rdC:Rd CR where
  size:=5
  pos:=by decide
  rd:=fun M w cs c=>∃ vt ds,cs=.int .i64 c.st :: vt :: ds∧Lay rdT M w vt c.ts∧rdQ.rd M w ds c.k
  len:=fun ⟨vt,ds,h,_,h1⟩=>by rw [h,List.length_cons,List.length_cons,rdQ.len h1]; rfl
  mod:=fun ⟨vt,ds,h,h1,h2⟩ hm hg=>⟨vt,ds,h,h1.mod hm hg,rdQ.mod h2 hm hg⟩
  sub:=fun ⟨vt,ds,h,h1,h2⟩ hM=>⟨vt,ds,h,h1.sub hM,rdQ.sub h2 hM⟩
  more:=fun ⟨vt,ds,h,h1,h2⟩ hg=>⟨vt,ds,h,h1.more hg,rdQ.more h2 hg⟩
  one:=fun ⟨vt,ds,h,h1,h2⟩ c hc=>by
    rw [h] at hc
    obtain ⟨_,_,rfl⟩:=h1.form
    rcases List.mem_cons.1 hc with rfl | hc
    · rfl
    rcases List.mem_cons.1 hc with rfl | hc
    · rfl
    exact rdQ.one h2 c hc
def rdR {α:Type} (R:Rd α):Rd (List α) where
  size:=1
  pos:=by decide
  rd:=fun M w cs as=>∃ v,cs=[v]∧Lay R M w v as
  len:=fun ⟨v,h,_⟩=>by rw [h]; rfl
  mod:=fun ⟨v,h,h1⟩ hm hg=>⟨v,h,h1.mod hm hg⟩
  sub:=fun ⟨v,h,h1⟩ hM=>⟨v,h,h1.sub hM⟩
  more:=fun ⟨v,h,h1⟩ hg=>⟨v,h,h1.more hg⟩
  one:=fun ⟨v,h,h1⟩=>by
    obtain ⟨_,_,rfl⟩:=h1.form
    rw [h]; simp [Value.oneCell']
def SlE (M:List Nat) (w:World) (ad:Addr) (cs:List Value):Prop:=cs≠[]∧ad.block ∉ M∧∀ o u,cs[o]?=some u→w.cell? (ad.add o)=some u
section
variable {M M' G:List Nat} {w w':World} {ad:Addr} {cs:List Value}
theorem SlE.lt (h:SlE M w ad cs):ad.block<w.heap.size:=by
  obtain ⟨c,r,rfl⟩:∃ c r,cs=c :: r:=by cases cs with | nil=>exact absurd rfl h.1 | cons c r=>exact ⟨c,r,rfl⟩
  have:=World.block_lt_of_cell? w _ (h.2.2 0 c rfl)
  rwa [add_block] at this
theorem SlE.mod (h:SlE M w ad cs) (hm:Mod G w w') (hg:∀ g∈G,g∈M):SlE M w' ad cs:=⟨h.1,h.2.1,fun o u hu=>cell_mod hm (h.2.2 o u hu) (by rw [add_block]; exact fun hh=>h.2.1 (hg _ hh))⟩
theorem SlE.gr (h:SlE M w ad cs) (hm:Mod [] w w'):SlE M w' ad cs:=h.mod hm (by simp)
theorem SlE.sub (h:SlE M w ad cs) (hM:∀ g∈M',g∈M):SlE M' w ad cs:=⟨h.1,fun hh=>h.2.1 (hM _ hh),h.2.2⟩
theorem SlE.more (h:SlE M w ad cs) {g:Nat} (hg:w.heap.size≤g):SlE (g :: M) w ad cs:=⟨h.1,fun hh=>by
  rcases List.mem_cons.1 hh with h1 | h1
  · have:=h.lt; omega
  exact h.2.1 h1,h.2.2⟩
theorem SlE.new (h:SlE M w ad cs) {g:Nat} {t:TypeId} {c:Array Value} (hN:New w w' g t c):SlE (g :: M) w' ad cs:=(h.more (by rw [hN.eq]; exact Nat.le_refl _)).gr hN.mod
end
section
variable {α:Type} {R:Rd α} {M:List Nat} {w:World} {v:Value} {as:List α}
theorem Lay.elem (h:Lay R M w v as) {j:Nat} (hj:j<as.length):∃ cs,SlE M w (elemAt v R.size j) cs∧R.rd M w cs as[j]:=by
  obtain ⟨css,h1,h2⟩:=h;obtain ⟨cs,hc,hr⟩:=h2.at_ hj
  refine ⟨cs,⟨fun h0=>?_,?_,fun o u hu=>?_⟩,hr⟩
  · have:=R.len hr; rw [h0] at this; have:=R.pos; simp at *; omega
  · obtain ⟨A,cap,rfl,k2,k3,k4,k5,k6⟩:=h1
    cases A with
    | none=>have:=k5 rfl; omega
    | some a=>simp only [elemAt]; rw [add_block]; exact (k6 a rfl).1 (by omega)
  have ho:o<R.size:=by
    have:=(List.getElem?_eq_some_iff.1 hu).1
    rw [R.len hr] at this; exact this
  exact h1.cell (by rw [flat_get h2.all hc ho]; exact hu)
end
theorem Lay.elemQ {α:Type} {R:Rd α} {M:List Nat} {w:World} {v:Value} {as:List α} (h:Lay R M w v as) {j:Nat} (hj:j<as.length):∃ z cs,as[j]?=some z∧SlE M w (elemAt v R.size j) cs∧R.rd M w cs z:=by
  obtain ⟨cs,h1,h2⟩:=h.elem hj
  exact ⟨_,cs,List.getElem?_eq_getElem hj,h1,h2⟩
section
variable {P:Program} {e:Env} {w:World} {ty:TypeId} {α:Type} {R:Rd α} {M:List Nat} {v:Value} {as:List α} {x y:Operand} {t el:TypeId} {k:IntKind} {i:Int} {ad:Addr} {cs ds:List Value} {u:Value} {g o:Nat}
theorem R1.lenLay (hx:ev e x=some v) (h:Lay R M w v as) (ht:sliceT P t=some (el,R.size)):R1 P e (.call ⟨.builtin .len,[x].toArray,[t].toArray⟩) ty w (.int .i64 (as.length:Int)):=let ⟨_,h1,_⟩:=h; R1.lenSl h1 hx ht
theorem R1.atLay {j : Nat} (hx : ev e x = some v) (hy : ev e y = some (.int k i)) (h : Lay R M w v as) (ht : sliceT P t = some (el, R.size)) (hi : i = (j : Int)) (hj : j < as.length) :
    R1 P e (.indexAddr t x y) ty w (.pointer (some (elemAt v R.size j))):=let ⟨_,h1,_⟩:=h; R1.at_ j h1 hx hy ht hi hj
theorem R1.loadE (hx:ev e x=some (.pointer (some ad))) (h:SlE M w ad cs) (ht:aggT P t=some cs.length):R1 P e (.load t x) ty w (.agg cs.toArray):=R1.loadAgg hx h.2.2 ht
theorem add_zero_ (a:Addr):a.add 0=a:=by simp [Addr.add]
theorem R1.loadE1 (hx:ev e x=some (.pointer (some ad))) (h:SlE M w ad [u]) (ht:plainT P t=true):R1 P e (.load t x) ty w u:=R1.load hx (by have:=h.2.2 0 u rfl; rwa [add_zero_] at this) ht
theorem R1.fieldAddrE {kf off:Nat} (hx:ev e x=some (.pointer (some (ad.add o)))) (ht:fieldT P t kf=some off):R1 P e (.fieldAddr t x kf) ty w (.pointer (some (ad.add (o + off)))):=by rw [← add_add]; exact R1.fieldAddr hx ht
theorem R1.loadEF (hx:ev e x=some (.pointer (some (ad.add o)))) (h:SlE M w ad cs) (hc:cs[o]?=some u) (ht:plainT P t=true):R1 P e (.load t x) ty w u:=R1.load hx (h.2.2 o u hc) ht
theorem R1.loadEA (hx:ev e x=some (.pointer (some (ad.add o)))) (h:SlE M w ad cs) (hd:(cs.drop o).take ds.length=ds) (ht:aggT P t=some ds.length):R1 P e (.load t x) ty w (.agg ds.toArray) :=
  R1.loadAgg hx (fun j u hu=>by
    rw [add_add]
    refine h.2.2 _ u ?_
    rw [← hd,List.getElem?_take] at hu
    split at hu
    · rw [List.getElem?_drop] at hu; exact hu
    cases hu) ht
theorem R1.loadLI {xs:List Int} {j:Nat} (hx:ev e x=some (.pointer (some (elemAt v rdI.size j)))) (h:Lay rdI M w v xs) (ht:plainT P t=true) (hj:j<xs.length) {c:Int} (hc:xs[j]=c):R1 P e (.load t x) ty w (.int .i64 c):=by
  obtain ⟨cs,hE,hr⟩:=h.elem hj
  have hr':cs=[.int .i64 xs[j]]:=hr
  subst hr'; subst hc
  exact R1.loadE1 hx hE ht
theorem R1.loadBoxAt {t':TypeId} {bs:Array Value} (hx:ev e x=some (.pointer (some ⟨g,o,none⟩))) (hb:Blk w g t' bs) (hd:(bs.toList.drop o).take ds.length=ds) (ht:aggT P t=some ds.length):R1 P e (.load t x) ty w (.agg ds.toArray) :=
  R1.loadAgg hx (fun j u hu=>by
    rw [add_lit,hb.cell]
    rw [← hd,List.getElem?_take] at hu
    split at hu
    · rw [List.getElem?_drop] at hu; simpa using hu
    cases hu) ht
end
section
variable {P : Program} {n : Nat} {Q : Exit → Act → World → Prop} {ops : Array Oper} {rest : List Oper} {e : Env} {w : World} {d : Nat} {ty : TypeId} {pos : String} {after : Array Edge} {op : Op}
theorem L.lL {α : Type} {R : Rd α} {x : Operand} {t el : TypeId} {v : Value} {M : List Nat} {as : List α} (hx : (ev e x,Nat.blt d n)=(some (v),true)) (hl : Lay R M w v as) (ht : sliceT P t=some (el,R.size)) (h : L P n Q ops rest ((d,.int .i64 (as.length : Int))::e) w) : L P n Q ops (⟨some d,.call ⟨.builtin .len,[x].toArray,[t].toArray⟩,ty,pos,after,none⟩::rest) e w:=L.v (R1.lenLay (Prod.mk.inj hx).1 hl ht) (Prod.mk.inj hx).2 h
theorem L.aL {α : Type} {R : Rd α} {x y : Operand} {t el : TypeId} {v : Value} {M : List Nat} {as : List α} {k : IntKind} {i : Int} {j : Nat} (hx : (ev e x,Nat.blt d n)=(some (v),true)) (hy : ev e y=some (.int k i)) (hl : Lay R M w v as) (ht : sliceT P t=some (el,R.size)) (hi : i=(j : Int)) (hj : j<as.length) (h : L P n Q ops rest ((d,.pointer (some (elemAt v R.size j)))::e) w) : L P n Q ops (⟨some d,.indexAddr t x y,ty,pos,after,none⟩::rest) e w:=L.v (R1.atLay (j:=j) (Prod.mk.inj hx).1 hy hl ht hi hj) (Prod.mk.inj hx).2 h
theorem Lay.ms {α : Type} {R : Rd α} {w w' : World} {M G : List Nat} {v : Value} {as : List α} (h : Lay R M w v as) (hm : Mod G w w') (hg : ∀ g ∈ G,g ∈ M:=by simp) : Lay R M w' v as:=h.mod hm hg
theorem LayL.ms {α : Type} {R : Rd α} {w w' : World} {M G : List Nat} {css : List (List Value)} {as : List α} (h : LayL R M w css as) (hm : Mod G w w') (hg : ∀ g ∈ G,g ∈ M:=by simp) : LayL R M w' css as:=h.mod hm hg
theorem SlE.ms {w w' : World} {M G : List Nat} {ad : Addr} {cs : List Value} (h : SlE M w ad cs) (hm : Mod G w w') (hg : ∀ g ∈ G,g ∈ M:=by simp) : SlE M w' ad cs:=h.mod hm hg
end
end Go.Proofs.YthoooolflmbmbaaGreat
