/- One rule for each operation, worlds as variables. Nothing of a program in sight. -/
import Derived.Test.YthoooolflmbmbaaGreatEl
import Derived.Laws.OwnMore
import Derived.Laws.IdiomCopy
import Derived.Maps.AppendAt
import Derived.WalkSpells
import Derived.Great.BuildSlice
namespace Go.Proofs.YthoooolflmbmbaaGreat
open Go.RowKit
set_option linter.unusedVariables false
set_option linter.unusedSimpArgs false
structure Mod (G:List Nat) (w w':World):Prop where
  os:w'.os=w.os
  tape:w'.tape=w.tape
  output:w'.output=w.output
  size:w.heap.size≤w'.heap.size
  block:∀ k,k<w.heap.size→k ∉ G→w'.heap[k]?=w.heap[k]?
def Blk (w:World) (g:Nat) (t:TypeId) (cs:Array Value):Prop:=w.heap[g]?=some (.cells cs t (0,0))
structure New (w w':World) (g:Nat) (t:TypeId) (cs:Array Value):Prop where
  eq:g=w.heap.size
  size:w'.heap.size=w.heap.size + 1
  mod:Mod [] w w'
  blk:Blk w' g t cs
section
variable {w w' w'':World} {G G':List Nat} {g:Nat} {t:TypeId} {cs:Array Value}
theorem Mod.refl (G:List Nat) (w:World):Mod G w w:=⟨rfl,rfl,rfl,Nat.le_refl _,fun _ _ _=>rfl⟩
theorem Mod.trans (h:Mod G w w') (k:Mod G w' w''):Mod G w w'' :=
  ⟨k.os.trans h.os,k.tape.trans h.tape,k.output.trans h.output,Nat.le_trans h.size k.size,fun i hi hg=>(k.block i (Nat.lt_of_lt_of_le hi h.size) hg).trans (h.block i hi hg)⟩
theorem Mod.mono (h:Mod G w w') (hs:∀ g∈G,g∈G'):Mod G' w w':=⟨h.os,h.tape,h.output,h.size,fun k hk hg=>h.block k hk (fun hh=>hg (hs k hh))⟩
theorem Mod.drew (w:World):Mod [] w w.drew:=⟨rfl,rfl,rfl,Nat.le_refl _,fun _ _ _=>rfl⟩
theorem Mod.below (h:Mod G w w') {B:Nat} (hg:∀ g∈G,B≤g) (hB:B≤w.heap.size):Below B w w' :=
  ⟨h.os,h.tape,h.output,h.size,fun k hk=>h.block k (by omega) (fun hh=>by have:=hg k hh; omega)⟩
theorem Mod.of_grown {row:Option Nat} (h:w.grownBy w' row):Mod row.toList w w' :=
  ⟨h.os,h.tape,h.output,h.size,fun k hk hg=>h.block k hk (fun hh=>hg (by rw [← hh]; simp))⟩
theorem Mod.old (h:Mod G w w') (k:Mod G' w' w'') (hs:∀ g∈G',g∈G∨w.heap.size≤g):Mod G w w'' :=
  ⟨k.os.trans h.os,k.tape.trans h.tape,k.output.trans h.output,Nat.le_trans h.size k.size,fun i hi hg =>
    (k.block i (Nat.lt_of_lt_of_le hi h.size) (fun hh=>by rcases hs i hh with h1 | h1; exact hg h1; omega)).trans (h.block i hi hg)⟩
theorem Blk.lt (h:Blk w g t cs):g<w.heap.size:=by
  rcases Nat.lt_or_ge g w.heap.size with hlt | hge
  · exact hlt
  unfold Blk at h; rw [Array.getElem?_eq_none hge] at h; cases h
theorem Blk.cell (h:Blk w g t cs) (i:Nat):w.cell? ⟨g,i,none⟩=cs[i]?:=cell_of_row w g i cs t (0,0) h
theorem Blk.mod (h:Blk w g t cs) (hm:Mod G w w') (hg:g ∉ G):Blk w' g t cs:=(hm.block g h.lt hg).trans h
theorem Blk.gr (h:Blk w g t cs) (hm:Mod [] w w'):Blk w' g t cs:=h.mod hm (by simp)
theorem New.ge {B:Nat} (h:New w w' g t cs) (hB:B≤w.heap.size):B≤g:=h.eq ▸ hB
theorem New.of_alloc (w:World) (t:TypeId) (cs:Array Value):New w (w.alloc (.cells cs t)) w.heap.size t cs :=
  ⟨rfl,by simp,⟨rfl,rfl,rfl,by simp,fun k hk _=>Below.heap_alloc w _ k hk⟩,heap_alloc_new w _⟩
theorem Blk.setRow (h:Blk w g t cs) (cs':Array Value):Blk (w.setRow g cs') g t cs'∧Mod [g] w (w.setRow g cs') :=
  ⟨setRow_heap w g cs cs' t (0,0) h,⟨rfl,rfl,rfl,by simp,fun k _ hk=>setRow_other w g k cs' (by simpa using hk)⟩⟩
theorem Blk.ne_ {g':Nat} {t':TypeId} {cs':Array Value} (h:Blk w g t cs) (h':New w w' g' t' cs'):g≠g':=fun e=>by have:=h.lt; have:=h'.eq; omega
end
def intT (P:Program) (t:TypeId):Option IntKind:=match P.underlying t with | some (.int k)=>some k | _=>none
def sliceT (P:Program) (t:TypeId):Option (TypeId × Nat):=match P.underlying t with
  | some (.slice e)=>match P.info? e with
    | some i=>if i.size=0 then none else some (e,i.size)
    | none=>none
  | _=>none
def fieldT (P:Program) (t:TypeId) (k:Nat):Option Nat:=match P.underlying t with
  | some (.struct fs)=>match fs[k]? with
    | some f=>match P.info? f.type with
      | some i=>if i.size=0 then none else some f.offset
      | none=>none
    | none=>none
  | _=>none
def aggT (P:Program) (t:TypeId):Option Nat:=match P.underlying t with
  | some (.struct _)=>(P.info? t).map (·.size)
  | some (.array _ _)=>(P.info? t).map (·.size)
  | _=>none
def plainT (P:Program) (t:TypeId):Bool:=match P.underlying t with
  | some (.struct _)=>false
  | some (.array _ _)=>false
  | none=>false
  | _=>(P.info? t).map (·.size) == some 1
def zeroT (P:Program) (t:TypeId):Option (Value × Nat × Nat):=match P.info? t with
  | some i=>match i.zero with
    | some z=>if z.cells.size=i.size then some (z,i.size,i.bytes) else none
    | none=>none
  | none=>none
section
variable {P:Program} {t e:TypeId} {s:Nat}
theorem intT.spec {k:IntKind} (h:intT P t=some k):P.underlying t=some (.int k):=by
  unfold intT at h; split at h <;> simp_all
theorem sliceT.spec (h:sliceT P t=some (e,s)):P.underlying t=some (.slice e)∧(∃ i,P.info? e=some i∧i.size=s)∧0<s:=by
  unfold sliceT at h
  split at h
  · rename_i e' he
    split at h
    · rename_i i hi
      split at h
      · cases h
      rename_i h0
      simp only [Option.some.injEq,Prod.mk.injEq] at h
      obtain ⟨rfl,rfl⟩:=h
      exact ⟨he,⟨i,hi,rfl⟩,by omega⟩
    cases h
  cases h
theorem sliceT.sizeOf (h:sliceT P t=some (e,s)) (w:World):(sizeOf e).run P w=.ok s w:=by
  obtain ⟨_,⟨i,hi,rfl⟩,_⟩:=sliceT.spec h
  simp [Go.sizeOf,typeInfo,hi]
theorem fieldT.spec {k off:Nat} (h:fieldT P t k=some off):∃ fs f i,P.underlying t=some (.struct fs)∧fs[k]?=some f∧P.info? f.type=some i∧i.size≠0∧f.offset=off:=by
  unfold fieldT at h
  split at h
  · rename_i fs hfs
    split at h
    · rename_i f hf
      split at h
      · rename_i i hi
        split at h
        · cases h
        rename_i h0
        simp only [Option.some.injEq] at h
        exact ⟨fs,f,i,hfs,hf,hi,h0,h⟩
      cases h
    cases h
  cases h
theorem plainT.spec (h:plainT P t=true):(∀ w,(isAgg t).run P w=.ok false w)∧(∀ w,(Go.sizeOf t).run P w=.ok 1 w):=by
  unfold plainT at h
  split at h
  · cases h
  · cases h
  · cases h
  rename_i x h1 h2 h3
  cases hu:P.underlying t with
  | none=>exact absurd hu h3
  | some d =>
    have hs:(P.info? t).map (·.size)=some 1:=by simpa using h
    obtain ⟨i,hi,hsz⟩:=Option.map_eq_some_iff.1 hs
    refine ⟨fun w=>?_,fun w=>by simp [Go.sizeOf,typeInfo,hi,hsz]⟩
    unfold isAgg
    rw [Sem.run_bind,run_underlying hu w]
    cases d <;> simp_all
theorem aggT.spec {k:Nat} (h:aggT P t=some k):∃ d,P.underlying t=some d∧(match d with | .struct _ | .array _ _=>true | _=>false)=true∧(P.info? t).map (·.size)=some k:=by
  unfold aggT at h
  split at h
  · rename_i fs hu; exact ⟨_,hu,rfl,h⟩
  · rename_i a b hu; exact ⟨_,hu,rfl,h⟩
  cases h
theorem zeroT.spec {z:Value} {b:Nat} (h:zeroT P t=some (z,s,b)):∃ i,P.info? t=some i∧i.zero=some z∧i.size=s∧i.bytes=b∧z.cells.size=s:=by
  unfold zeroT at h
  split at h
  · rename_i i hi
    split at h
    · rename_i z' hz
      split at h
      · rename_i h0
        simp only [Option.some.injEq,Prod.mk.injEq] at h
        obtain ⟨rfl,rfl,rfl⟩:=h
        exact ⟨i,hi,hz,rfl,rfl,h0⟩
      cases h
    cases h
  cases h
end
def R1 (P:Program) (e:Env) (op:Op) (ty:TypeId) (w:World) (v:Value):Prop :=
  ∀ (n:Nat) (a:Act) (d:Option Tmp) (pos:String) (after:Array Edge) (g:Option (Nat × Bool)),Fits n e a→(execOp a.eval ⟨d,op,ty,pos,after,g⟩).run P w=.ok (.value v) w
section
variable {P:Program} {n:Nat} {Q:Exit→Act→World→Prop} {ops:Array Oper} {rest:List Oper} {e:Env} {w:World} {d:Nat} {ty:TypeId} {pos:String} {after:Array Edge} {op:Op}
theorem L.nil (h:X n Q .normal e w):L P n Q ops [] e w:=fun a ha=>wpList_nil (h a ha)
theorem L.v {v:Value} (hr:R1 P e op ty w v) (hd:Nat.blt d n=true) (h:L P n Q ops rest ((d,v) :: e) w):L P n Q ops (⟨some d,op,ty,pos,after,none⟩ :: rest) e w :=
  fun a ha=>wpList_plain rfl fun K hK=>by
    unfold Oper.wp
    rw [hr n a _ pos after none ha]
    exact hK _ _ (h _ (ha.put hd v))
theorem L.off {j : Nat} {want b : Bool} {oj : Oper} {dj : Nat} (hj : ops[j]? = some oj) (hdj : oj.dst = some dj) (hl : lk e dj = some (.bool b)) (hb : (b == want) = false) (hd : Nat.blt d n = true)
    (h:L P n Q ops rest ((d,undef) :: e) w):L P n Q ops (⟨some d,op,ty,pos,after,some (j,want)⟩ :: rest) e w:=fun a ha=>by
  refine wpList_skip ?_ (h _ (ha.put hd undef))
  have hg:=ha.get _ _ hl
  have:yielded ops a.tmps j=some b:=by simp [yielded,hj,hdj,hg]
  simp only [Region.wanted,this]
  cases b <;> cases want <;> simp_all
theorem L.offU {j : Nat} {want : Bool} {oj : Oper} {dj : Nat} (hj : ops[j]? = some oj) (hdj : oj.dst = some dj) (hl : lk e dj = some undef) (hd : Nat.blt d n = true)
    (h:L P n Q ops rest ((d,undef) :: e) w):L P n Q ops (⟨some d,op,ty,pos,after,some (j,want)⟩ :: rest) e w:=fun a ha=>by
  refine wpList_skip ?_ (h _ (ha.put hd undef))
  have hg:=ha.get _ _ hl
  have:yielded ops a.tmps j=none:=by simp [yielded,hj,hdj,hg,undef]
  simp only [Region.wanted,this]
  rfl
theorem L.on {j : Nat} {want : Bool} {oj : Oper} {dj : Nat} {v : Value} (hj : ops[j]? = some oj) (hdj : oj.dst = some dj) (hl : lk e dj = some (.bool want)) (hr : R1 P e op ty w v) (hd : Nat.blt d n = true)
    (h:L P n Q ops rest ((d,v) :: e) w):L P n Q ops (⟨some d,op,ty,pos,after,some (j,want)⟩ :: rest) e w:=fun a ha=>by
  refine wpList_step fun K hK=>?_
  have hg:=ha.get _ _ hl
  have:yielded ops a.tmps j=some want:=by simp [yielded,hj,hdj,hg]
  rw [if_pos (by simp [Region.wanted,this])]
  unfold Oper.wp
  rw [hr n a _ pos after _ ha]
  exact hK _ _ (h _ (ha.put hd v))
theorem R1.move {x:Operand} {v:Value} (hx:ev e x=some v):R1 P e (.move x) ty w v:=fun n a d pos after g ha=>by simp [execOp,ha.eval hx]
theorem R1.assign {x:Operand} {v:Value} (hx:ev e x=some v):R1 P e (.assign x) ty w v:=fun n a d pos after g ha=>by simp [execOp,ha.eval hx]
theorem L.m {x:Operand} {v:Value} (hx:ev e x=some v) (hd:Nat.blt d n=true) (h:L P n Q ops rest ((d,v) :: e) w):L P n Q ops (⟨some d,.move x,ty,pos,after,none⟩ :: rest) e w:=L.v (R1.move hx) hd h
theorem L.a {x:Operand} {v:Value} (hx:ev e x=some v) (hd:Nat.blt d n=true) (h:L P n Q ops rest ((d,v) :: e) w):L P n Q ops (⟨some d,.assign x,ty,pos,after,none⟩ :: rest) e w:=L.v (R1.assign hx) hd h
theorem R1.pickT {c x y:Operand} {v:Value} (hc:ev e c=some (.bool true)) (hx:ev e x=some v):R1 P e (.pick c x y) ty w v:=fun n a d pos after g ha=>by
  simp [execOp,ha.eval hc,ha.eval hx,asBool]
theorem R1.pickF {c x y:Operand} {v:Value} (hc:ev e c=some (.bool false)) (hy:ev e y=some v):R1 P e (.pick c x y) ty w v:=fun n a d pos after g ha=>by
  simp [execOp,ha.eval hc,ha.eval hy,asBool]
theorem R1.not {x:Operand} {t:TypeId} {b:Bool} (hx:ev e x=some (.bool b)):R1 P e (.unOp .not t x) ty w (.bool !b):=fun n a d pos after g ha=>by
  simp [execOp,ha.eval hx,Op.unary]
theorem R1.neg {x:Operand} {t:TypeId} {k:IntKind} {i:Int} (hx:ev e x=some (.int k i)):R1 P e (.unOp .neg t x) ty w (.int k (k.wrap (-i))):=fun n a d pos after g ha=>by
  simp [execOp,ha.eval hx,Op.unary,Op.intArith]
theorem R1.extract {x:Operand} {i:Nat} {vs:List Value} {v:Value} (hx:ev e x=some (.tuple vs.toArray)) (hv:vs[i]?=some v):R1 P e (.extract x i) ty w v:=fun n a d pos after g ha=>by
  simp [execOp,ha.eval hx,Instr.extract,hv]
theorem R1.conv {x:Operand} {s t:TypeId} {k k':IntKind} {i:Int} (hx:ev e x=some (.int k i)) (hs:intT P s=some k) (ht:intT P t=some k'):R1 P e (.convert s t x) ty w (.int k' (k'.wrap i)):=fun n a d pos after g ha=>by
  simp [execOp,ha.eval hx,convert,run_underlying (intT.spec hs),run_underlying (intT.spec ht),Conv.intToInt]
section bin
variable {x y:Operand} {t t':TypeId} {k:IntKind} {i j:Int}
theorem R1.add (hx:ev e x=some (.int k i)) (hy:ev e y=some (.int k j)):R1 P e (.binOp .add t x y t') ty w (.int k (k.wrap (i + j))):=fun n a d pos after g ha=>by
  simp [execOp,ha.eval hx,ha.eval hy,eqGuard,binOp,Op.intArith]
theorem R1.sub (hx:ev e x=some (.int k i)) (hy:ev e y=some (.int k j)):R1 P e (.binOp .sub t x y t') ty w (.int k (k.wrap (i - j))):=fun n a d pos after g ha=>by
  simp [execOp,ha.eval hx,ha.eval hy,eqGuard,binOp,Op.intArith]
theorem R1.mul (hx:ev e x=some (.int k i)) (hy:ev e y=some (.int k j)):R1 P e (.binOp .mul t x y t') ty w (.int k (k.wrap (i * j))):=fun n a d pos after g ha=>by
  simp [execOp,ha.eval hx,ha.eval hy,eqGuard,binOp,Op.intArith]
theorem R1.quo (hx:ev e x=some (.int k i)) (hy:ev e y=some (.int k j)) (h0:j≠0):R1 P e (.binOp .quo t x y t') ty w (.int k (k.wrap (i.tdiv j))):=fun n a d pos after g ha=>by
  simp [execOp,ha.eval hx,ha.eval hy,eqGuard,binOp,Op.intDiv,h0]
theorem R1.rem (hx:ev e x=some (.int k i)) (hy:ev e y=some (.int k j)) (h0:j≠0):R1 P e (.binOp .rem t x y t') ty w (.int k (i.tmod j)):=fun n a d pos after g ha=>by
  simp [execOp,ha.eval hx,ha.eval hy,eqGuard,binOp,Op.intDiv,h0]
def orI (k:IntKind) (i j:Int):Int:=k.wrap (BitVec.ofInt k.bits i ||| BitVec.ofInt k.bits j).toNat
def andI (k:IntKind) (i j:Int):Int:=k.wrap (BitVec.ofInt k.bits i &&& BitVec.ofInt k.bits j).toNat
def xorI (k:IntKind) (i j:Int):Int:=k.wrap (BitVec.ofInt k.bits i ^^^ BitVec.ofInt k.bits j).toNat
def andNotI (k:IntKind) (i j:Int):Int:=k.wrap (BitVec.ofInt k.bits i &&& ~~~ BitVec.ofInt k.bits j).toNat
theorem R1.or (hx:ev e x=some (.int k i)) (hy:ev e y=some (.int k j)):R1 P e (.binOp .or t x y t') ty w (.int k (orI k i j)):=fun n a d pos after g ha=>by
  simp [execOp,ha.eval hx,ha.eval hy,eqGuard,binOp,Op.intBits,orI]
theorem R1.and (hx:ev e x=some (.int k i)) (hy:ev e y=some (.int k j)):R1 P e (.binOp .and t x y t') ty w (.int k (andI k i j)):=fun n a d pos after g ha=>by
  simp [execOp,ha.eval hx,ha.eval hy,eqGuard,binOp,Op.intBits,andI]
theorem R1.xor (hx:ev e x=some (.int k i)) (hy:ev e y=some (.int k j)):R1 P e (.binOp .xor t x y t') ty w (.int k (xorI k i j)):=fun n a d pos after g ha=>by
  simp [execOp,ha.eval hx,ha.eval hy,eqGuard,binOp,Op.intBits,xorI]
variable {k':IntKind}
theorem R1.shl (hx:ev e x=some (.int k i)) (hy:ev e y=some (.int k' j)) (h0:0≤j):R1 P e (.binOp .shl t x y t') ty w (.int k (k.wrap (i * 2 ^ (min j.toNat k.bits)))):=fun n a d pos after g ha=>by
  simp [execOp,ha.eval hx,ha.eval hy,eqGuard,binOp,Op.shift,Int.not_lt.2 h0]
theorem R1.shr (hx:ev e x=some (.int k i)) (hy:ev e y=some (.int k' j)) (h0:0≤j):R1 P e (.binOp .shr t x y t') ty w (.int k (i.fdiv (2 ^ (min j.toNat k.bits)))):=fun n a d pos after g ha=>by
  simp [execOp,ha.eval hx,ha.eval hy,eqGuard,binOp,Op.shift,Int.not_lt.2 h0]
theorem R1.eq (hx:ev e x=some (.int k i)) (hy:ev e y=some (.int k j)):R1 P e (.binOp .eql t x y t') ty w (.bool (decide (i=j))):=fun n a d pos after g ha=>by
  simp [execOp,ha.eval hx,ha.eval hy,eqGuard,binOp,Op.intCmp]; rfl
theorem R1.ne (hx:ev e x=some (.int k i)) (hy:ev e y=some (.int k j)):R1 P e (.binOp .neq t x y t') ty w (.bool (decide (i≠j))):=fun n a d pos after g ha=>by
  simp [execOp,ha.eval hx,ha.eval hy,eqGuard,binOp,Op.intCmp]; rfl
theorem R1.lt (hx:ev e x=some (.int k i)) (hy:ev e y=some (.int k j)):R1 P e (.binOp .lss t x y t') ty w (.bool (decide (i<j))):=fun n a d pos after g ha=>by
  simp [execOp,ha.eval hx,ha.eval hy,eqGuard,binOp,Op.intCmp]
theorem R1.le (hx:ev e x=some (.int k i)) (hy:ev e y=some (.int k j)):R1 P e (.binOp .leq t x y t') ty w (.bool (decide (i≤j))):=fun n a d pos after g ha=>by
  simp [execOp,ha.eval hx,ha.eval hy,eqGuard,binOp,Op.intCmp]
theorem R1.gt (hx:ev e x=some (.int k i)) (hy:ev e y=some (.int k j)):R1 P e (.binOp .gtr t x y t') ty w (.bool (decide (j<i))):=fun n a d pos after g ha=>by
  simp [execOp,ha.eval hx,ha.eval hy,eqGuard,binOp,Op.intCmp]
theorem R1.ge (hx:ev e x=some (.int k i)) (hy:ev e y=some (.int k j)):R1 P e (.binOp .geq t x y t') ty w (.bool (decide (j≤i))):=fun n a d pos after g ha=>by
  simp [execOp,ha.eval hx,ha.eval hy,eqGuard,binOp,Op.intCmp]
variable {b c:Bool}
theorem R1.eqB (hx:ev e x=some (.bool b)) (hy:ev e y=some (.bool c)) (ht:P.underlying t=some .bool):R1 P e (.binOp .eql t x y t') ty w (.bool (b == c)):=fun n a d pos after g ha=>by
  simp [execOp,ha.eval hx,ha.eval hy,eqGuard,run_eql_bool w t b c ht]
theorem R1.neB (hx:ev e x=some (.bool b)) (hy:ev e y=some (.bool c)) (ht:P.underlying t=some .bool):R1 P e (.binOp .neq t x y t') ty w (.bool (!(b == c))):=fun n a d pos after g ha=>by
  simp [execOp,ha.eval hx,ha.eval hy,eqGuard,run_neq_bool w t b c ht]
variable {u v:ByteArray}
end bin
theorem R1.isNil {x : Operand} {t t' el : TypeId} {A : Option Addr} {l c l' c' : Nat} (hx : ev e x = some (.slice A l c)) (ht : P.underlying t = some (.slice el)) :
    R1 P e (.binOp .eql t x (.const (.slice none l' c')) t') ty w (.bool A.isNone):=fun n a d pos after g ha=>by
  have:=Lib.run_eql_slice_nil (P:=P) w t el A l c l' c' ht
  have hc:a.eval (.const (.slice none l' c'))=.slice none l' c':=rfl
  simp [execOp,ha.eval hx,hc,eqGuard,this]
def elemAt (v:Value) (s i:Nat):Addr:=match v with
  | .slice (some ad) _ _=>ad.add (i * s)
  | _=>default
theorem add_lit (g o k:Nat):(⟨g,o,none⟩:Addr).add k=⟨g,o + k,none⟩:=by
  unfold Addr.add; split
  · rename_i h; subst h; rfl
  rfl
theorem R1.fieldAddr {x:Operand} {t:TypeId} {k off:Nat} {ad:Addr} (hx:ev e x=some (.pointer (some ad))) (ht:fieldT P t k=some off):R1 P e (.fieldAddr t x k) ty w (.pointer (some (ad.add off))):=fun n a d pos after g ha=>by
  obtain ⟨fs,f,i,h1,h2,h3,h4,h5⟩:=fieldT.spec ht
  simp [execOp,ha.eval hx,Instr.fieldAt,run_underlying h1,h2,Instr.sureAddr,fieldPlace,Go.sizeOf,typeInfo,h3,h4,h5]
theorem R1.fieldAt {x:Operand} {t:TypeId} {k off:Nat} {g o:Nat} (hx:ev e x=some (.pointer (some ⟨g,o,none⟩))) (ht:fieldT P t k=some off):R1 P e (.fieldAddr t x k) ty w (.pointer (some ⟨g,o + off,none⟩)):=by
  rw [← add_lit]; exact R1.fieldAddr hx ht
theorem R1.field {x:Operand} {t:TypeId} {k:Nat} {cs:Array Value} {v:Value} (hx:ev e x=some (.agg cs)) (ht:∃ off ft fs f,P.underlying t=some (.struct fs)∧fs[k]?=some f∧f.type=ft∧f.offset=off∧plainT P ft=true∧cs[off]?=some v):R1 P e (.field t x k) ty w v:=fun n a d pos after g ha=>by
  obtain ⟨off,ft,fs,f,h1,h2,h3,h4,h5,h6⟩:=ht
  subst h3; subst h4
  simp [execOp,ha.eval hx,Instr.field,run_underlying h1,h2,asAgg,part,(plainT.spec h5).1,h6]
theorem R1.index {x y : Operand} {t el : TypeId} {s : Nat} {A : Addr} {l c : Nat} {k : IntKind} {i : Int} (hx : ev e x = some (.slice (some A) l c)) (hy : ev e y = some (.int k i)) (ht : sliceT P t = some (el, s)) (h0 : 0 ≤ i) (hi : i < l) :
    R1 P e (.indexAddr t x y) ty w (.pointer (some (A.add (i.toNat * s)))):=fun n a d pos after g ha=>by
  have h1:=(sliceT.spec ht).1
  simp [execOp,ha.eval hx,ha.eval hy,Instr.indexAt,asIntOf,run_underlying h1,h0,hi,sliceT.sizeOf ht]
theorem R1.len {x : Operand} {t el : TypeId} {s : Nat} {A : Option Addr} {l c : Nat} (hx : ev e x = some (.slice A l c)) (ht : sliceT P t = some (el, s)) :
    R1 P e (.call ⟨.builtin .len,[x].toArray,[t].toArray⟩) ty w (.int .i64 l):=fun n a d pos after g ha=>by
  have h1:=(sliceT.spec ht).1
  simp [execOp,resolve,invoke,builtin,ha.eval hx,Builtin.len_,run_underlying h1,goInt]
theorem R1.maxI {x y : Operand} {ts : Array TypeId} {k : IntKind} {i j : Int} (hx : ev e x = some (.int k i)) (hy : ev e y = some (.int k j)) :
    R1 P e (.call ⟨.builtin .max,[x,y].toArray,ts⟩) ty w (.int k (max i j)):=fun n a d pos after g ha=>by
  have:(if j > i then j else i)=max i j:=by rw [Int.max_def]; split <;> split <;> omega
  simp [execOp,resolve,invoke,builtin,ha.eval hx,ha.eval hy,run_max_int2]
  rw [← this]
theorem R1.minI {x y : Operand} {ts : Array TypeId} {k : IntKind} {i j : Int} (hx : ev e x = some (.int k i)) (hy : ev e y = some (.int k j)) :
    R1 P e (.call ⟨.builtin .min,[x,y].toArray,ts⟩) ty w (.int k (min i j)):=fun n a d pos after g ha=>by
  have:(if j<i then j else i)=min i j:=by rw [Int.min_def]; split <;> split <;> omega
  simp [execOp,resolve,invoke,builtin,ha.eval hx,ha.eval hy,run_min_int2]
  rw [← this]
def cutS (A:Option Addr) (cap l h s:Nat):Value:=.slice (if cap=l then A else A.map (·.add (l * s))) (h - l) (cap - l)
section slicing
variable {x lo hi:Operand} {t el:TypeId} {s:Nat} {A:Option Addr} {len cap:Nat} {k k':IntKind} {l h:Int}
theorem R1.sliceLH (hx : ev e x = some (.slice A len cap)) (hl : ev e lo = some (.int k l)) (hh : ev e hi = some (.int k' h)) (ht : sliceT P t = some (el, s)) (h0 : 0 ≤ l) (h1 : l ≤ h) (h2 : h ≤ cap) :
    R1 P e (.slice t x (some lo) (some hi) none) ty w (cutS A cap l.toNat h.toNat s):=fun n a d pos after g ha=>by
  have hu:=(sliceT.spec ht).1
  have he:P.elem t=el:=by simp [Program.elem,hu]
  simp [execOp,ha.eval hx,ha.eval hl,ha.eval hh,run_sliceAt_slice w t _ _ _ _ (by rw [he]; exact hu),run_slice_lh w t A len cap (by rw [he]; exact hu) k k' l h h0 h1 h2,he,sliceT.sizeOf ht,sliced,cutS]
theorem R1.sliceH (hx : ev e x = some (.slice A len cap)) (hh : ev e hi = some (.int k' h)) (ht : sliceT P t = some (el, s)) (h1 : 0 ≤ h) (h2 : h ≤ cap) :
    R1 P e (.slice t x none (some hi) none) ty w (cutS A cap 0 h.toNat s):=fun n a d pos after g ha=>by
  have hu:=(sliceT.spec ht).1
  have he:P.elem t=el:=by simp [Program.elem,hu]
  simp [execOp,ha.eval hx,ha.eval hh,run_sliceAt_slice w t _ _ _ _ (by rw [he]; exact hu),run_slice_h w t A len cap (by rw [he]; exact hu) k' h h1 h2,he,sliceT.sizeOf ht,sliced,cutS]
theorem R1.sliceL (hx : ev e x = some (.slice A len cap)) (hl : ev e lo = some (.int k l)) (ht : sliceT P t = some (el, s)) (h0 : 0 ≤ l) (h1 : l ≤ len) :
    R1 P e (.slice t x (some lo) none none) ty w (cutS A cap l.toNat len s):=fun n a d pos after g ha=>by
  have hu:=(sliceT.spec ht).1
  have he:P.elem t=el:=by simp [Program.elem,hu]
  simp [execOp,ha.eval hx,ha.eval hl,run_sliceAt_slice w t _ _ _ _ (by rw [he]; exact hu),run_slice_l w t A len cap (by rw [he]; exact hu) k l h0 h1,he,sliceT.sizeOf ht,sliced,cutS]
end slicing
theorem R1.load {x:Operand} {t:TypeId} {ad:Addr} {v:Value} (hx:ev e x=some (.pointer (some ad))) (hc:w.cell? ad=some v) (ht:plainT P t=true):R1 P e (.load t x) ty w v:=fun n a d pos after g ha=>by
  simp [execOp,ha.eval hx,Instr.loadAt,Instr.sureAddr,loadVar,(plainT.spec ht).1,hc]
theorem R1.loadAgg {x:Operand} {t:TypeId} {ad:Addr} {cs:List Value} (hx:ev e x=some (.pointer (some ad))) (hc:∀ j u,cs[j]?=some u→w.cell? (ad.add j)=some u) (ht:aggT P t=some cs.length):R1 P e (.load t x) ty w (.agg cs.toArray):=fun n a d pos after g ha=>by
  obtain ⟨dd,h1,h2,h3⟩:=aggT.spec ht;obtain ⟨i,hi,hsz⟩:=Option.map_eq_some_iff.1 h3;have hl:=run_loadCells_list (P:=P) w ad cs hc
  have hagg:(isAgg t).run P w=.ok true w:=by
    unfold isAgg
    rw [Sem.run_bind,run_underlying h1 w]
    cases dd <;> simp_all
  simp [execOp,ha.eval hx,Instr.loadAt,Instr.sureAddr,loadVar,hagg,Go.sizeOf,typeInfo,hi,hsz,hl]
theorem loadVar_blk {t t':TypeId} {g:Nat} {cs:List Value} (hb:Blk w g t' cs.toArray) (ht:aggT P t=some cs.length):(loadVar t ⟨g,0,none⟩).run P w=.ok (.agg cs.toArray) w:=by
  obtain ⟨dd,h1,h2,h3⟩:=aggT.spec ht
  exact run_loadVar_row w g t' t cs.toArray (0,0) dd hb h1 (by cases dd <;> first | rfl | simp at h2) (by simpa using h3)
theorem R1.loadBox {x:Operand} {t t':TypeId} {g:Nat} {cs:List Value} (hx:ev e x=some (.pointer (some ⟨g,0,none⟩))) (hb:Blk w g t' cs.toArray) (ht:aggT P t=some cs.length):R1 P e (.load t x) ty w (.agg cs.toArray) :=
  R1.loadAgg hx (fun j u hu=>by rw [add_lit,hb.cell]; simpa using hu) ht
theorem R1.loadFld {x:Operand} {t t':TypeId} {g o:Nat} {cs:Array Value} {v:Value} (hx:ev e x=some (.pointer (some ⟨g,o,none⟩))) (hb:Blk w g t' cs) (hv:cs[o]?=some v) (ht:plainT P t=true):R1 P e (.load t x) ty w v :=
  R1.load hx (by rw [hb.cell]; exact hv) ht
theorem R1.build {t:TypeId} {parts:List (Nat × Operand)} {vs:List Value} {cells:List Value} (hx:evl e (parts.map (·.2))=some vs) (hb:P.built t ((parts.map (·.1)).zip vs)=some cells.toArray):R1 P e (.build t parts.toArray) ty w (.agg cells.toArray):=fun n a d pos after g ha=>by
  have h1:(parts.map fun (x:Nat × Operand)=>(x.1,a.eval x.2))=(parts.map (·.1)).zip vs:=by
    rw [← ha.evals hx]
    clear hx hb
    induction parts with
    | nil=>rfl
    | cons p r ih=>simp [ih]
  have h2:=run_build (P:=P) w t (parts.map fun (x:Nat × Operand)=>(x.1,a.eval x.2)).toArray cells.toArray (by rw [List.toList_toArray,h1]; exact hb)
  simp only [execOp,List.map_toArray]
  simp [h2]
theorem L.box {x : Operand} {t : TypeId} {v : Value} (hx : ev e x = some v) (hd : Nat.blt d n = true)
    (h:∀ g w',New w w' g t v.cells→L P n Q ops rest ((d,.pointer (some ⟨g,0,none⟩)) :: e) w'):L P n Q ops (⟨some d,.box t x,ty,pos,after,none⟩ :: rest) e w :=
  fun a ha=>wpList_plain rfl fun K hK=>by
    unfold Oper.wp
    have:(execOp a.eval ⟨some d,.box t x,ty,pos,after,none⟩).run P w=.ok (.value (.pointer (some ⟨w.heap.size,0,none⟩))) (w.alloc (.cells v.cells t)):=by
      simp [execOp,ha.eval hx,Instr.box,newVar,newRow]
    rw [this]
    exact hK _ _ (h _ _ (New.of_alloc w t v.cells) _ (ha.put hd _))
theorem L.alloc {t : TypeId} {z : Value} {s b : Nat} (ht : zeroT P t = some (z, s, b)) (hd : Nat.blt d n = true)
    (h:∀ g w',New w w' g t z.cells→L P n Q ops rest ((d,.pointer (some ⟨g,0,none⟩)) :: e) w'):L P n Q ops (⟨some d,.alloc t,ty,pos,after,none⟩ :: rest) e w :=
  fun a ha=>wpList_plain rfl fun K hK=>by
    unfold Oper.wp
    obtain ⟨i,h1,h2,h3,h4,h5⟩:=zeroT.spec ht
    have:(execOp a.eval ⟨some d,.alloc t,ty,pos,after,none⟩).run P w=.ok (.value (.pointer (some ⟨w.heap.size,0,none⟩))) (w.alloc (.cells z.cells t)):=by
      simp [execOp,Instr.alloc,zeroValue,typeInfo,h1,h2,newVar,newRow]
    rw [this]
    exact hK _ _ (h _ _ (New.of_alloc w t z.cells) _ (ha.put hd _))
theorem L.makeSlice {x y : Operand} {t el : TypeId} {z : Value} {s b m : Nat} {i j : Int} (hx : ev e x = some (.int .i64 i)) (hy : ev e y = some (.int .i64 j)) (hi : i = (m : Int)) (hj : j = (m : Int)) (ht : sliceT P t = some (el, s)) (hz : zeroT P el = some (z, s, b)) (hb : b * m ≤ 281474976710656) (hm : m ≤ maxLen) (hd : Nat.blt d n = true)
    (h:∀ g w',New w w' g el (madeCells z.cells (m * s))→L P n Q ops rest ((d,.slice (some ⟨g,0,none⟩) m m) :: e) w'):L P n Q ops (⟨some d,.makeSlice t x y,ty,pos,after,none⟩ :: rest) e w :=
  fun a ha=>wpList_plain rfl fun K hK=>by
    subst hi; subst hj
    unfold Oper.wp
    obtain ⟨ii,h1,h2,h3,h4,h5⟩:=zeroT.spec hz
    have h63:(m:Int)≤9223372036854775807:=by have:=hm; simp [maxLen] at this; omega
    have hb':(ii.bytes:Int) * (m:Int)≤281474976710656:=by rw [h4,← Int.natCast_mul]; omega
    have hr:=run_make (P:=P) w t el ii z (sliceT.spec ht).1 h1 h2 .i64 .i64 m m (by omega) (Int.le_refl _) hb' h63
    have:(execOp a.eval ⟨some d,.makeSlice t x y,ty,pos,after,none⟩).run P w=.ok (.value (.slice (some ⟨w.heap.size,0,none⟩) m m)) (w.alloc (.cells (madeCells z.cells (m * s)) el)):=by
      simp only [Int.toNat_natCast,h3] at hr
      simp [execOp,ha.eval hx,ha.eval hy,hr]
    rw [this]
    exact hK _ _ (h _ _ (New.of_alloc w el _) _ (ha.put hd _))
theorem L.store {x y : Operand} {t t' : TypeId} {g o : Nat} {v : Value} {cs : Array Value} (hx : ev e x = some (.pointer (some ⟨g, o, none⟩))) (hy : ev e y = some v) (hb : Blk w g t' cs) (ho : o < cs.size) (h1 : v.oneCell' = true) (ht : plainT P t = true)
    (h:∀ w',Blk w' g t' (cs.setIfInBounds o v)→Mod [g] w w'→L P n Q ops rest e w'):L P n Q ops (⟨none,.store t x y,ty,pos,after,none⟩ :: rest) e w :=
  fun a ha=>wpList_plain rfl fun K hK=>by
    unfold Oper.wp
    have hc:w.cell? ⟨g,o,none⟩=some cs[o]:=by rw [hb.cell]; simp [ho]
    have hf:w.frozen? ⟨g,o,none⟩=false:=by unfold Blk at hb; simp [World.frozen?,hb]
    have hvc:v.cells=#[v]:=by cases v <;> simp_all [Value.cells,Value.oneCell']
    have:(execOp a.eval ⟨none,.store t x y,ty,pos,after,none⟩).run P w=.ok .skip (w.setCell ⟨g,o,none⟩ v):=by
      simp [execOp,ha.eval hx,ha.eval hy,Instr.storeAt,Instr.sureAddr,storeVar,(plainT.spec ht).2,hvc,storeCells,add_lit,run_store P w _ v _ h1,hc,hf]
    rw [this]
    have hs:=hb.setRow (cs.setIfInBounds o v)
    rw [← setCell_eq_setRow w g o cs t' (0,0) v hb] at hs
    exact hK _ _ (h _ hs.1 hs.2 _ (ha.putNone _))
theorem L.storeBox {x y : Operand} {t t' : TypeId} {g : Nat} {cs : Array Value} {cs' : List Value} (hx : ev e x = some (.pointer (some ⟨g, 0, none⟩))) (hy : ev e y = some (.agg cs'.toArray)) (hb : Blk w g t' cs) (hsz : cs.size = cs'.length) (h1 : cs'.all (·.oneCell') = true) (ht : aggT P t = some cs'.length)
    (h:∀ w',Blk w' g t' cs'.toArray→Mod [g] w w'→L P n Q ops rest e w'):L P n Q ops (⟨none,.store t x y,ty,pos,after,none⟩ :: rest) e w :=
  fun a ha=>wpList_plain rfl fun K hK=>by
    unfold Oper.wp
    obtain ⟨dd,h2,h3,h4⟩:=aggT.spec ht;have hr:=run_storeVar_row (P:=P) w g t' t cs cs'.toArray hb (by simpa using h4) (by simpa using hsz) (by simpa using h1)
    have:(execOp a.eval ⟨none,.store t x y,ty,pos,after,none⟩).run P w=.ok .skip (w.setRow g cs'.toArray):=by
      simp [execOp,ha.eval hx,ha.eval hy,Instr.storeAt,Instr.sureAddr,hr]
    rw [this]
    have hs:=hb.setRow cs'.toArray
    exact hK _ _ (h _ hs.1 hs.2 _ (ha.putNone _))
theorem run_callOp {f : FuncId} {xs : List Operand} {vs : List Value} {ats : Array TypeId} {a : Act} {dd : Option Tmp} {gg : Option (Nat × Bool)} (ha : Fits n e a) (hx : evl e xs = some vs)
    (able : ∃ fn, P.funcs[f]? = some fn ∧ fn.body.isNone = false ∧ (fn.name == "runtime.NumGoroutine") = false) :
    (execOp a.eval ⟨dd,.call ⟨.value (.func f),xs.toArray,ats⟩,ty,pos,after,gg⟩).run P w=.ok (.enter f vs.toArray) w:=by
  obtain ⟨fn,h1,h2,h3⟩:=able
  have hv:xs.map a.eval=vs:=ha.evals hx
  have h3' : fn.name ≠ "runtime.NumGoroutine" := by simpa using h3
  have h2':fn.body≠none:=by intro hh; simp [hh] at h2
  simp [execOp,resolve,Act.eval,Deferred.ofValue,invoke,callFunc,h1,h2',h3',hv]
theorem L.call {f : FuncId} {xs : List Operand} {vs : List Value} {ats : Array TypeId} {R : Value → World → Prop} (hx : evl e xs = some vs) (hr : Ret P f vs.toArray w R) (hd : Nat.blt d n = true)
    (h:∀ v w',R v w'→L P n Q ops rest ((d,v) :: e) w'):L P n Q ops (⟨some d,.call ⟨.value (.func f),xs.toArray,ats⟩,ty,pos,after,none⟩ :: rest) e w :=
  fun a ha=>wpList_plain rfl fun K hK=>by
    unfold Oper.wp
    rw [run_callOp ha hx hr.able,Oper.upon_enter]
    exact hr.run.mono fun en w' ⟨v,he,hv⟩=>by subst he; exact hK _ _ (h v w' hv _ (ha.put hd v))
theorem L.callOn {j : Nat} {want : Bool} {oj : Oper} {dj : Nat} {f : FuncId} {xs : List Operand} {vs : List Value} {ats : Array TypeId} {R : Value → World → Prop} (hj : ops[j]? = some oj) (hdj : oj.dst = some dj) (hl : lk e dj = some (.bool want)) (hx : evl e xs = some vs) (hr : Ret P f vs.toArray w R) (hd : Nat.blt d n = true)
    (h:∀ v w',R v w'→L P n Q ops rest ((d,v) :: e) w'):L P n Q ops (⟨some d,.call ⟨.value (.func f),xs.toArray,ats⟩,ty,pos,after,some (j,want)⟩ :: rest) e w :=
  fun a ha=>by
    refine wpList_step fun K hK=>?_
    have hg:=ha.get _ _ hl
    have:yielded ops a.tmps j=some want:=by simp [yielded,hj,hdj,hg]
    rw [if_pos (by simp [Region.wanted,this])]
    unfold Oper.wp
    rw [run_callOp ha hx hr.able,Oper.upon_enter]
    exact hr.run.mono fun en w' ⟨v,he,hv⟩=>by subst he; exact hK _ _ (h v w' hv _ (ha.put hd v))
theorem L.any {v : Value} {w' : World} (hr : ∀ a, Fits n e a → (execOp a.eval ⟨some d, op, ty, pos, after, none⟩).run P w = .ok (.value v) w') (hd : Nat.blt d n = true)
    (h:L P n Q ops rest ((d,v) :: e) w'):L P n Q ops (⟨some d,op,ty,pos,after,none⟩ :: rest) e w :=
  fun a ha=>wpList_plain rfl fun K hK=>by
    unfold Oper.wp
    rw [hr a ha]
    exact hK _ _ (h _ (ha.put hd v))
end
section
variable {P : Program} {n : Nat} {Q : Exit → Act → World → Prop} {ops : Array Oper} {rest : List Oper} {e : Env} {w : World} {d : Nat} {ty : TypeId} {pos : String} {after : Array Edge} {op : Op}
def condB (f : Bool → Bool) (ops : Array Oper) (e : Env) (j : Nat) : Bool:=match ops[j]? with
  | some oj=>(match oj.dst with
    | some dj=>(match lk e dj with
      | some (.bool b)=>f b
      | _=>false)
    | none=>false)
  | none=>false
def offB (ops : Array Oper) (e : Env) (j : Nat) (want : Bool) : Bool:=condB (fun b=>!(b==want)) ops e j
def onB (ops : Array Oper) (e : Env) (j : Nat) (want : Bool) : Bool:=condB (fun b=>b==want) ops e j
theorem condB_spec {f : Bool → Bool} {ops : Array Oper} {e : Env} {j : Nat} (h : condB f ops e j=true) : ∃ oj dj b,ops[j]?=some oj ∧ oj.dst=some dj ∧ lk e dj=some (.bool b) ∧ f b=true:=by
  unfold condB at h
  split at h
  · split at h
    · split at h
      · exact ⟨_,_,_,by assumption,by assumption,by assumption,h⟩
      · cases h
    · cases h
  · cases h
theorem L.k {x : Operand} {v : Value} (hx : (ev e x,Nat.blt d n)=(some v,true)) (h : L P n Q ops rest ((d,v)::e) w) : L P n Q ops (⟨some d,.move x,ty,pos,after,none⟩::rest) e w:=L.m (Prod.mk.inj hx).1 (Prod.mk.inj hx).2 h
theorem L.b {x : Operand} {v : Value} (hx : (ev e x,Nat.blt d n)=(some v,true)) (h : L P n Q ops rest ((d,v)::e) w) : L P n Q ops (⟨some d,.assign x,ty,pos,after,none⟩::rest) e w:=L.a (Prod.mk.inj hx).1 (Prod.mk.inj hx).2 h
theorem L.z {y : Code} (h : W P n Q y e w) : L P n (Exit.then (fun a w=>y.wp P Q a w) Q) ops [] e w:=L.nil (X.seq h)
theorem L.o {j : Nat} {want : Bool} (hb : (offB ops e j want&&Nat.blt d n)=true) (h : L P n Q ops rest ((d,undef)::e) w) : L P n Q ops (⟨some d,op,ty,pos,after,some (j,want)⟩::rest) e w:=by
  simp only [Bool.and_eq_true] at hb
  obtain ⟨oj,dj,b,h1,h2,h3,h4⟩:=condB_spec hb.1
  exact L.off h1 h2 h3 (by simpa using h4) hb.2 h
theorem L.p {j : Nat} {want : Bool} {v : Value} (hb : (onB ops e j want&&Nat.blt d n)=true) (hr : R1 P e op ty w v) (h : L P n Q ops rest ((d,v)::e) w) : L P n Q ops (⟨some d,op,ty,pos,after,some (j,want)⟩::rest) e w:=by
  simp only [Bool.and_eq_true] at hb
  obtain ⟨oj,dj,b,h1,h2,h3,h4⟩:=condB_spec hb.1
  have h5:b=want:=by simpa using h4
  exact L.on h1 h2 (h5 ▸ h3) hr hb.2 h
theorem L.c {f : FuncId} {xs : List Operand} {vs : List Value} {ats : Array TypeId} {R : Value → World → Prop} (hx : (evl e xs,Nat.blt d n)=(some vs,true)) (hr : Ret P f vs.toArray w R) (h : ∀ v w',R v w' → L P n Q ops rest ((d,v)::e) w') : L P n Q ops (⟨some d,.call ⟨.value (.func f),xs.toArray,ats⟩,ty,pos,after,none⟩::rest) e w:=L.call (Prod.mk.inj hx).1 hr (Prod.mk.inj hx).2 h
theorem L.lt {x y : Operand} {t t' : TypeId} {k : IntKind} {i j : Int} (hx : (ev e x,Nat.blt d n)=(some (.int k i),true)) (hy : ev e y=some (.int k j)) (h : L P n Q ops rest ((d,.bool (decide (i<j)))::e) w) : L P n Q ops (⟨some d,.binOp .lss t x y t',ty,pos,after,none⟩::rest) e w:=L.v (R1.lt (Prod.mk.inj hx).1 hy) (Prod.mk.inj hx).2 h
theorem L.fA {x : Operand} {t : TypeId} {k off g o : Nat} (hx : (ev e x,Nat.blt d n)=(some (.pointer (some ⟨g,o,none⟩)),true)) (ht : fieldT P t k=some off) (h : L P n Q ops rest ((d,.pointer (some ⟨g,o + off,none⟩))::e) w) : L P n Q ops (⟨some d,.fieldAddr t x k,ty,pos,after,none⟩::rest) e w:=L.v (R1.fieldAt (Prod.mk.inj hx).1 ht) (Prod.mk.inj hx).2 h
theorem L.ex {x : Operand} {i : Nat} {vs : List Value} {v : Value} (hx : (ev e x,Nat.blt d n)=(some (.tuple vs.toArray),true)) (hv : vs[i]?=some v) (h : L P n Q ops rest ((d,v)::e) w) : L P n Q ops (⟨some d,.extract x i,ty,pos,after,none⟩::rest) e w:=L.v (R1.extract (Prod.mk.inj hx).1 hv) (Prod.mk.inj hx).2 h
theorem L.pT {x y z : Operand} {v : Value} (hx : (ev e x,Nat.blt d n)=(some (.bool true),true)) (hy : ev e y=some v) (h : L P n Q ops rest ((d,v)::e) w) : L P n Q ops (⟨some d,.pick x y z,ty,pos,after,none⟩::rest) e w:=L.v (R1.pickT (Prod.mk.inj hx).1 hy) (Prod.mk.inj hx).2 h
theorem L.pF {x y z : Operand} {v : Value} (hx : (ev e x,Nat.blt d n)=(some (.bool false),true)) (hy : ev e z=some v) (h : L P n Q ops rest ((d,v)::e) w) : L P n Q ops (⟨some d,.pick x y z,ty,pos,after,none⟩::rest) e w:=L.v (R1.pickF (Prod.mk.inj hx).1 hy) (Prod.mk.inj hx).2 h
theorem L.lF {x : Operand} {t t' : TypeId} {g o : Nat} {cs : Array Value} {v : Value} (hx : (ev e x,Nat.blt d n)=(some (.pointer (some ⟨g,o,none⟩)),true)) (hb : Blk w g t' cs) (hv : cs[o]?=some v) (ht : plainT P t=true) (h : L P n Q ops rest ((d,v)::e) w) : L P n Q ops (⟨some d,.load t x,ty,pos,after,none⟩::rest) e w:=L.v (R1.loadFld (Prod.mk.inj hx).1 hb hv ht) (Prod.mk.inj hx).2 h
theorem Blk.ms {w w' : World} {g : Nat} {t : TypeId} {cs : Array Value} {G : List Nat} (h : Blk w g t cs) (hm : Mod G w w') (hg : g∉G:=by simp) : Blk w' g t cs:=h.mod hm hg
theorem Mod.tn {w0 w w' : World} {G : List Nat} {g : Nat} {t : TypeId} {cs : Array Value} (h : Mod G w0 w) (hN : New w w' g t cs) (hs : ∀ x ∈ ([] : List Nat),x ∈ G:=by simp) : Mod G w0 w':=h.trans (hN.mod.mono hs)
end
end Go.Proofs.YthoooolflmbmbaaGreat
