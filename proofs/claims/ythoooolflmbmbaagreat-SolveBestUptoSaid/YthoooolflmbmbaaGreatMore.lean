/- More rules of single operations: words of 32 bits, bits, an index of a string, 'copy', places in a block. -/
import Derived.Test.YthoooolflmbmbaaGreatOwn
import Derived.Laws.CopyRow
import Derived.Laws.IdiomCopy
namespace Go.Proofs.YthoooolflmbmbaaGreat
open Go.RowKit
set_option linter.unusedVariables false
section
variable {P:Program} {e:Env} {w:World} {ty:TypeId} {x y:Operand} {t t':TypeId} {a b:Nat} {k k':IntKind}
theorem xorI_u32 (a b:Nat) (ha:a<2 ^ 32) (hb:b<2 ^ 32):xorI .u32 (a:Int) (b:Int)=((a ^^^ b:Nat):Int):=by
  have:(BitVec.ofInt 32 (a:Int) ^^^ BitVec.ofInt 32 (b:Int)).toNat=a ^^^ b:=by
    rw [BitVec.ofInt_natCast,BitVec.ofInt_natCast,BitVec.toNat_xor,BitVec.toNat_ofNat,BitVec.toNat_ofNat,Nat.mod_eq_of_lt ha,Nat.mod_eq_of_lt hb]
  have h2:xorI .u32 (a:Int) (b:Int)=IntKind.u32.wrap ((BitVec.ofInt 32 (a:Int) ^^^ BitVec.ofInt 32 (b:Int)).toNat:Int):=rfl
  rw [h2,this]
  have:=Nat.xor_lt_two_pow ha hb
  exact wrap_u32 (by omega) (by omega)
theorem andI_u32 (a b:Nat) (ha:a<2 ^ 32) (hb:b<2 ^ 32):andI .u32 (a:Int) (b:Int)=((a &&& b:Nat):Int):=by
  have:(BitVec.ofInt 32 (a:Int) &&& BitVec.ofInt 32 (b:Int)).toNat=a &&& b:=by
    rw [BitVec.ofInt_natCast,BitVec.ofInt_natCast,BitVec.toNat_and,BitVec.toNat_ofNat,BitVec.toNat_ofNat,Nat.mod_eq_of_lt ha,Nat.mod_eq_of_lt hb]
  have h2:andI .u32 (a:Int) (b:Int)=IntKind.u32.wrap ((BitVec.ofInt 32 (a:Int) &&& BitVec.ofInt 32 (b:Int)).toNat:Int):=rfl
  rw [h2,this]
  have:=@Nat.and_le_left a b
  exact wrap_u32 (by omega) (by omega)
theorem R1.andW (hx:ev e x=some (.int .u32 (a:Int))) (hy:ev e y=some (.int .u32 (b:Int))) (ha:a<2 ^ 32) (hb:b<2 ^ 32):R1 P e (.binOp .and t x y t') ty w (.int .u32 ((a &&& b:Nat):Int)):=(R1.and hx hy).as (andI_u32 a b ha hb)
theorem R1.xorW (hx:ev e x=some (.int .u32 (a:Int))) (hy:ev e y=some (.int .u32 (b:Int))) (ha:a<2 ^ 32) (hb:b<2 ^ 32):R1 P e (.binOp .xor t x y t') ty w (.int .u32 ((a ^^^ b:Nat):Int)):=(R1.xor hx hy).as (xorI_u32 a b ha hb)
theorem compl_u32 (a:Nat) (ha:a<2 ^ 32):xorI .u32 4294967295 (a:Int)=((4294967295 - a:Nat):Int):=by
  have h1:=xorI_u32 4294967295 a (by decide) ha
  have h2:(4294967295:Nat) ^^^ a=4294967295 - a:=by
    have h3:(BitVec.allOnes 32 ^^^ BitVec.ofNat 32 a).toNat=4294967295 ^^^ a:=by
      rw [BitVec.toNat_xor,BitVec.toNat_allOnes,BitVec.toNat_ofNat,Nat.mod_eq_of_lt ha]
    rw [← h3,BitVec.allOnes_xor,BitVec.toNat_not,BitVec.toNat_ofNat,Nat.mod_eq_of_lt ha]
  rw [h2] at h1
  exact h1
theorem R1.compl (hx:ev e x=some (.int .u32 (a:Int))) (ha:a<2 ^ 32):R1 P e (.unOp .xor t x) ty w (.int .u32 ((4294967295 - a:Nat):Int)):=fun n a' d pos after g hf=>by
  rw [← compl_u32 a ha]
  simp [execOp,hf.eval hx,Op.unary,Op.intBits,xorI,IntKind.signed,IntKind.max]
  try rfl
theorem R1.shrW (hx:ev e x=some (.int .u32 (a:Int))) (hy:ev e y=some (.int k' (b:Int))) (hb:b≤32):R1 P e (.binOp .shr t x y t') ty w (.int .u32 ((a / 2 ^ b:Nat):Int)) :=
  (R1.shr hx hy (by omega)).as (by
    have:min (b:Int).toNat (IntKind.bits .u32)=b:=by simp [IntKind.bits]; omega
    rw [this,Int.fdiv_eq_ediv_of_nonneg _ (Int.le_of_lt (Int.pow_pos (by decide)))]
    simp)
theorem R1.shr32 (hx:ev e x=some (.int .u64 (a:Int))) (hy:ev e y=some (.int k' 32)):R1 P e (.binOp .shr t x y t') ty w (.int .u64 ((a / 4294967296:Nat):Int)):=R1.shrL (b:=32) hx hy (by decide)
theorem R1.shl32 (hx:ev e x=some (.int .u64 (a:Int))) (hy:ev e y=some (.int k' 32)) (ha:a<4294967296):R1 P e (.binOp .shl t x y t') ty w (.int .u64 ((a * 4294967296:Nat):Int)) :=
  (R1.shlL (b:=32) hx hy (by decide)).as (by congr 1; exact Nat.mod_eq_of_lt (by omega))
theorem R1.shlW (hx:ev e x=some (.int .u32 (a:Int))) (hy:ev e y=some (.int k' (b:Int))) (hb:b≤32):R1 P e (.binOp .shl t x y t') ty w (.int .u32 ((a * 2 ^ b % 4294967296:Nat):Int)) :=
  (R1.shl hx hy (by omega)).as (by
    have:min (b:Int).toNat (IntKind.bits .u32)=b:=by simp [IntKind.bits]; omega
    rw [this,wrap_u32_mod]
    simp)
theorem R1.indexS {u : ByteArray} {j : Nat} {i : Int} (hx : ev e x = some (.string u)) (hy : ev e y = some (.int k i)) (ht : P.underlying t = some .string) (hi : i = (j : Int)) (hj : j < u.size) :
    R1 P e (.index t x y) ty w (.int .u8 ((u[j].toNat:Nat):Int)):=fun n a' d pos after g hf=>by
  subst hi
  simp [execOp,hf.eval hx,hf.eval hy,Instr.index,asIntOf,run_underlying ht,hj]
end
section
variable {P:Program} {e:Env} {w:World} {ty:TypeId} {x y:Operand} {t el:TypeId} {k:IntKind} {i:Int} {j g o:Nat} {xs:List Nat}
theorem R1.atAt {l c : Nat} (hx : ev e x = some (.slice (some ⟨g, o, none⟩) l c)) (hy : ev e y = some (.int k i)) (ht : sliceT P t = some (el, 1)) (hi : i = (j : Int)) (hj : j < l) :
    R1 P e (.indexAddr t x y) ty w (.pointer (some ⟨g,o + j,none⟩)):=by
  have:=R1.index (ty:=ty) (w:=w) hx hy ht (by omega) (by omega)
  rw [add_lit] at this
  subst hi
  simpa using this
end
theorem cutS_lit (g cap l h:Nat) (hl:l<cap):cutS (some ⟨g,0,none⟩) cap l h 1=.slice (some ⟨g,l,none⟩) (h - l) (cap - l):=by
  unfold cutS
  rw [if_neg (by omega)]
  simp [add_lit]
theorem cutS_lit0 (g cap h:Nat) (hl:0<cap):cutS (some ⟨g,0,none⟩) cap 0 h 1=.slice (some ⟨g,0,none⟩) h cap:=by
  rw [cutS_lit g cap 0 h hl]; simp
section
variable {P:Program} {n:Nat} {Q:Exit→Act→World→Prop} {ops:Array Oper} {rest:List Oper} {e:Env} {w:World} {d:Nat} {ty:TypeId} {pos:String} {after:Array Edge}
theorem L.copyAll {x y : Operand} {t t' el : TypeId} {g dc l : Nat} {cs xs : List Nat} {v : Value} {M : List Nat} (hx : ev e x = some (.slice (some ⟨g, 0, none⟩) l dc)) (hy : ev e y = some v) (hb : Blk w g t' (uarr cs)) (hs : U32 M w v xs)
    (hl:xs.length=cs.length) (hl2:l=cs.length) (hpos:0<xs.length) (ht:sliceT P t=some (el,1)) (hd:Nat.blt d n=true)
    (h:∀ w',Blk w' g t' (uarr xs)→Mod [g] w w'→L P n Q ops rest ((d,.int .i64 (xs.length:Int)) :: e) w') :
    L P n Q ops (⟨some d,.call ⟨.builtin .copy,[x,y].toArray,[t,t].toArray⟩,ty,pos,after,none⟩ :: rest) e w:=by
  obtain ⟨hu,⟨i,hi,hsz⟩,_⟩:=sliceT.spec ht
  obtain ⟨A,cap,rfl,h2,h3,h4,h5,h6⟩:=hs.1
  cases A with
  | none=>have:=h5 rfl; omega
  | some a =>
    have hr:=run_copy_row (P:=P) w t t ty el g 0 l dc a xs.length cap (uarr cs) t' (xs.map fun (x:Nat)=>Value.int .u32 (x:Int)) hu (by rw [hi]; simp [hsz]) hb (by rw [List.length_map]; exact (Nat.min_eq_left (by omega)).symm) (h6 a rfl).2 (by rw [uarr_size]; simp; omega) (by simp [Value.oneCell']);have hq:=Blk.setRow hb ((uarr cs).toList.take 0 ++ (xs.map fun (x:Nat)=>Value.int .u32 (x:Int)) ++ (uarr cs).toList.drop (0 + (xs.map fun (x:Nat)=>Value.int .u32 (x:Int)).length)).toArray
    have e1:((uarr cs).toList.take 0 ++ (xs.map fun (x:Nat)=>Value.int .u32 (x:Int)) ++ (uarr cs).toList.drop (0 + (xs.map fun (x:Nat)=>Value.int .u32 (x:Int)).length)).toArray=uarr xs:=by
      have:(uarr cs).toList.drop (0 + (xs.map fun (x:Nat)=>Value.int .u32 (x:Int)).length)=[]:=by
        rw [List.drop_eq_nil_iff]; simp [uarr]; omega
      rw [this]; simp [uarr]
    rw [e1] at hr hq
    refine L.any (v:=.int .i64 (xs.length:Int)) (w':=w.setRow g (uarr xs)) (fun a' ha=>?_) hd (h _ hq.1 hq.2)
    have hr':(Builtin.copy_ #[t,t] ty #[.slice (some ⟨g,0,none⟩) l dc,.slice (some a) xs.length cap]).run P w=.ok (.int .i64 (xs.length:Int)) (w.setRow g (uarr xs)):=by
      rw [hr]; simp [goInt]
    simp [execOp,resolve,invoke,builtin,ha.eval hx,ha.eval hy,hr']
end
theorem U32.of_blk_take {M:List Nat} {w:World} {g t':Nat} {xs:List Nat} {c:Nat} (hb:Blk w g t' (uarr xs)) (hg:g ∉ M) (hm:xs.length≤maxLen) (hx:∀ x∈xs,x<4294967296) {k:Nat} (hk:k≤xs.length) (hc:xs.length=c):U32 M w (.slice (some ⟨g,0,none⟩) k c) (xs.take k):=by
  have hl:(xs.take k).length=k:=by simp; omega
  have:=Sl.of_blk (M:=M) (s:=1) (cs:=(xs.take k).map fun (x:Nat)=>Value.int .u32 (x:Int)) (n:=k) (cap:=c) hb 0 (by omega) (by omega) (by simp; omega) hg (fun j hj=>by
    simp only [List.length_map,hl] at hj
    simp [uarr,hj])
  refine ⟨?_,fun x h=>hx x (List.mem_of_mem_take h)⟩
  rw [hl]; exact this
theorem U32.cutL {M:List Nat} {w:World} {A:Option Addr} {n cap:Nat} {xs:List Nat} (h:U32 M w (.slice A n cap) xs) (hn:n=xs.length) {l:Nat} (hl:l≤n):U32 M w (cutS A cap l n 1) (xs.drop l):=by
  subst hn
  have h1:=h.1.cutL hl rfl
  refine ⟨h1.congr (by simp) (by simp [List.map_drop]),fun x hx=>h.2 x (List.mem_of_mem_drop hx)⟩
theorem quo_m1 {i:Nat} (h:i≤9000000000000000000):IntKind.i64.wrap ((((i + 1:Nat):Int) - 1).tdiv 32)=((i / 32:Nat):Int):=by
  rw [show ((i + 1:Nat):Int) - 1=(i:Int) by omega,Int.tdiv_eq_ediv_of_nonneg (by omega),wrap_i64 (by omega) (by omega)]; omega
theorem rem_m1 {i:Nat}:(((i + 1:Nat):Int) - 1).tmod 32=((i % 32:Nat):Int):=by
  rw [show ((i + 1:Nat):Int) - 1=(i:Int) by omega,Int.tmod_eq_emod_of_nonneg (by omega)]; omega
def fieldPT (P:Program) (t:TypeId) (k:Nat):Option Nat:=match P.underlying t with
  | some (.struct fs)=>match fs[k]? with
    | some f=>if plainT P f.type then some f.offset else none
    | none=>none
  | _=>none
theorem R1.fieldV {P:Program} {e:Env} {w:World} {ty:TypeId} {x:Operand} {t:TypeId} {k off:Nat} {cs:Array Value} {v:Value} (hx:ev e x=some (.agg cs)) (ht:fieldPT P t k=some off) (hv:cs[off]?=some v):R1 P e (.field t x k) ty w v:=by
  unfold fieldPT at ht
  split at ht
  · rename_i fs hfs
    split at ht
    · rename_i f hf
      split at ht
      · rename_i hp
        injection ht with ht
        exact R1.field hx ⟨off,f.type,fs,f,hfs,hf,rfl,ht,hp,hv⟩
      cases ht
    cases ht
  cases ht
end Go.Proofs.YthoooolflmbmbaaGreat
