/- What is known of memory: slices that read as lists. Nothing of a program in sight. -/
import Derived.Test.YthoooolflmbmbaaGreatDraw
namespace Go.Proofs.YthoooolflmbmbaaGreat
open Go.RowKit
set_option linter.unusedVariables false
set_option linter.unusedSimpArgs false
theorem bq:(∀ (p:Prop) [Decidable p],(decide p=true)=p)∧(∀ (p:Prop) [Decidable p],(decide p=false)=¬ p)∧(∀ b:Bool,((!b)=true)=(b=false))∧(∀ b:Bool,((!b)=false)=(b=true))∧(∀ a b:Int,(¬ a<b)=(b≤a))∧(∀ a b:Int,(¬ a≤b)=(b<a))∧(∀ p:Prop,(¬ ¬ p)=p) :=
  ⟨fun p _=>by simp,fun p _=>by simp,fun b=>by simp,fun b=>by simp,fun a b=>by simp,fun a b=>by simp,fun p=>by simp⟩
def Sl (M:List Nat) (w:World) (s:Nat) (v:Value) (n:Nat) (cs:List Value):Prop :=
  ∃ A cap,v=.slice A n cap∧n≤cap∧cap≤maxLen∧cs.length=n * s∧(A=none→cap=0) ∧
    ∀ ad,A=some ad→(0<n→ad.block ∉ M)∧∀ j u,cs[j]?=some u→w.cell? (ad.add j)=some u
theorem add_add (a:Addr) (i j:Nat):(a.add i).add j=a.add (i + j):=by
  unfold Addr.add
  by_cases hi:i=0
  · subst hi; simp
  by_cases hj:j=0
  · subst hj; simp [hi]
  simp [hi,hj,Nat.add_assoc]
theorem add_block (a:Addr) (k:Nat):(a.add k).block=a.block:=by unfold Addr.add; split <;> rfl
theorem cell_mod {G:List Nat} {w w':World} (hm:Mod G w w') {a:Addr} {u:Value} (h:w.cell? a=some u) (hg:a.block ∉ G):w'.cell? a=some u :=
  (World.cell?_of_block (hm.block a.block (World.block_lt_of_cell? w a h) hg)).trans h
section
variable {M M' G:List Nat} {w w':World} {s n:Nat} {v:Value} {cs:List Value}
theorem Sl.form (h:Sl M w s v n cs):∃ A cap,v=.slice A n cap:=let ⟨A,cap,h,_⟩:=h; ⟨A,cap,h⟩
theorem Sl.len (h:Sl M w s v n cs):cs.length=n * s:=let ⟨_,_,_,_,_,h,_⟩:=h; h
theorem Sl.max (h:Sl M w s v n cs):n≤maxLen:=let ⟨_,_,_,h1,h2,_⟩:=h; Nat.le_trans h1 h2
theorem Sl.mod (h:Sl M w s v n cs) (hs:0<s) (hm:Mod G w w') (hg:∀ g∈G,g∈M):Sl M w' s v n cs:=by
  obtain ⟨A,cap,h1,h2,h3,h4,h5,h6⟩:=h
  refine ⟨A,cap,h1,h2,h3,h4,h5,fun ad ha=>⟨(h6 ad ha).1,fun j u hu=>?_⟩⟩
  have hj:j<cs.length:=(List.getElem?_eq_some_iff.1 hu).1
  have hn:0<n:=Nat.pos_of_ne_zero fun h0=>by subst h0; simp at h4; rw [h4] at hj; simp at hj
  exact cell_mod hm ((h6 ad ha).2 j u hu) (by rw [add_block]; exact fun hh=>(h6 ad ha).1 hn (hg _ hh))
theorem Sl.gr (h:Sl M w s v n cs) (hs:0<s) (hm:Mod [] w w'):Sl M w' s v n cs:=h.mod hs hm (by simp)
theorem Sl.sub (h:Sl M w s v n cs) (hM:∀ g∈M',g∈M):Sl M' w s v n cs:=by
  obtain ⟨A,cap,h1,h2,h3,h4,h5,h6⟩:=h
  exact ⟨A,cap,h1,h2,h3,h4,h5,fun ad ha=>⟨fun hn hh=>(h6 ad ha).1 hn (hM _ hh),(h6 ad ha).2⟩⟩
theorem Sl.more (h:Sl M w s v n cs) (hs:0<s) {g:Nat} (hg:w.heap.size≤g):Sl (g :: M) w s v n cs:=by
  obtain ⟨A,cap,h1,h2,h3,h4,h5,h6⟩:=h
  refine ⟨A,cap,h1,h2,h3,h4,h5,fun ad ha=>⟨fun hn hh=>?_,(h6 ad ha).2⟩⟩
  have hl:0<cs.length:=by rw [h4]; exact Nat.mul_pos hn hs
  have hb:=World.block_lt_of_cell? w _ ((h6 ad ha).2 0 cs[0] (by simp [hl]))
  rw [add_block] at hb
  rcases List.mem_cons.1 hh with h7 | h7
  · omega
  exact (h6 ad ha).1 hn h7
theorem Sl.new (h:Sl M w s v n cs) (hs:0<s) {g:Nat} {t:TypeId} {c:Array Value} (hN:New w w' g t c):Sl (g :: M) w' s v n cs :=
  (h.more hs (by rw [hN.eq]; exact Nat.le_refl _)).gr hs hN.mod
theorem Sl.nil (c:Nat) (hc:c=0):Sl M w s (.slice none 0 c) 0 []:=by subst hc; exact ⟨none,0,rfl,Nat.le_refl _,by decide,by simp,fun _=>rfl,fun ad h=>by cases h⟩
theorem Sl.empty (A:Option Addr) (c:Nat) (hc:c≤maxLen) (hA:A=none→c=0):Sl M w s (.slice A 0 c) 0 []:=⟨A,c,rfl,Nat.zero_le _,hc,by simp,hA,fun ad h=>⟨fun hn=>by omega,fun j u hu=>by simp at hu⟩⟩
theorem Sl.of_blk {g : Nat} {t : TypeId} {c : Array Value} (hb : Blk w g t c) (o : Nat) {n cap : Nat} (hn : n ≤ cap) (hm : cap ≤ maxLen) (hl : cs.length = n * s) (hg : g ∉ M) (hc : ∀ j, j < cs.length → c[o + j]? = cs[j]?) :
    Sl M w s (.slice (some ⟨g,o,none⟩) n cap) n cs :=
  ⟨_,cap,rfl,hn,hm,hl,(fun h=>by cases h),fun ad ha=>by
    injection ha with ha; subst ha
    refine ⟨fun _=>hg,fun j u hu=>?_⟩
    have hj:j<cs.length:=(List.getElem?_eq_some_iff.1 hu).1
    rw [add_lit,hb.cell,hc j hj]; exact hu⟩
theorem Sl.cut (h:Sl M w s v n cs) {l k:Nat} (hlk:l≤k) (hk:k≤n) {A:Option Addr} {cap:Nat} (hv:v=.slice A n cap):Sl M w s (cutS A cap l k s) (k - l) ((cs.drop (l * s)).take ((k - l) * s)):=by
  obtain ⟨A',cap',h1,h2,h3,h4,h5,h6⟩:=h
  rw [hv] at h1; injection h1 with e1 _ e3; subst e1; subst e3
  have hmul:(k - l) * s + l * s≤n * s:=by rw [← Nat.add_mul]; exact Nat.mul_le_mul_right _ (by omega)
  unfold cutS
  refine ⟨_,_,rfl,by omega,by omega,by simp only [List.length_take,List.length_drop]; omega,?_,?_⟩
  · intro hn
    split at hn
    · have:=h5 hn; omega
    cases A with
    | none=>have:=h5 rfl; omega
    | some a=>simp at hn
  intro ad ha
  by_cases hc:cap=l
  · have h0:k - l=0:=by omega
    rw [h0]
    refine ⟨fun hn=>by omega,fun j u hu=>by simp at hu⟩
  rw [if_neg hc] at ha
  cases A with
  | none=>simp at ha
  | some a =>
    simp only [Option.map_some,Option.some.injEq] at ha
    subst ha
    refine ⟨fun hn=>by rw [add_block]; exact (h6 a rfl).1 (by omega),fun j u hu=>?_⟩
    rw [add_add]
    refine (h6 a rfl).2 (l * s + j) u ?_
    rw [List.getElem?_take] at hu
    split at hu
    · rw [List.getElem?_drop] at hu; exact hu
    cases hu
theorem Sl.cutH (h:Sl M w s v n cs) {k:Nat} (hk:k≤n) {A:Option Addr} {cap:Nat} (hv:v=.slice A n cap):Sl M w s (cutS A cap 0 k s) k (cs.take (k * s)):=by
  have:=h.cut (l:=0) (Nat.zero_le k) hk hv
  simpa using this
theorem Sl.cutL (h:Sl M w s v n cs) {l:Nat} (hl:l≤n) {A:Option Addr} {cap:Nat} (hv:v=.slice A n cap):Sl M w s (cutS A cap l n s) (n - l) (cs.drop (l * s)):=by
  have h1:=h.cut hl (Nat.le_refl n) hv;have h2:=h.len
  rw [List.take_of_length_le (by simp [h2,Nat.sub_mul])] at h1
  exact h1
theorem Sl.congr (h:Sl M w s v n cs) {n':Nat} {cs':List Value} (hn:n=n') (hc:cs=cs'):Sl M w s v n' cs':=by subst hn; subst hc; exact h
theorem Sl.capOf (h:Sl M w s v n cs) {A:Option Addr} {l cap:Nat} (hv:v=.slice A l cap):n≤cap:=by
  obtain ⟨A',cap',h1,h2,_⟩:=h
  rw [hv] at h1; injection h1 with _ _ h3; omega
theorem Sl.cell (h:Sl M w s v n cs) {i o:Nat} {u:Value} (hu:cs[i * s + o]?=some u):w.cell? ((elemAt v s i).add o)=some u:=by
  obtain ⟨A,cap,rfl,h2,h3,h4,h5,h6⟩:=h
  cases A with
  | none =>
    have:=h5 rfl
    have hn:n=0:=by omega
    subst hn
    have:cs=[]:=List.eq_nil_of_length_eq_zero (by simpa using h4)
    subst this
    simp at hu
  | some a =>
    simp only [elemAt]
    rw [add_add]
    exact (h6 a rfl).2 _ u hu
theorem Sl.cell0 (h:Sl M w s v n cs) {i:Nat} {u:Value} (hu:cs[i * s]?=some u):w.cell? (elemAt v s i)=some u:=by
  have:=h.cell (i:=i) (o:=0) (by simpa using hu)
  simpa [Addr.add] using this
end
section
variable {P:Program} {e:Env} {w:World} {ty:TypeId} {M:List Nat} {s n:Nat} {v:Value} {cs:List Value}
theorem R1.lenSl {x:Operand} {t el:TypeId} (h:Sl M w s v n cs) (hx:ev e x=some v) (ht:sliceT P t=some (el,s)):R1 P e (.call ⟨.builtin .len,[x].toArray,[t].toArray⟩) ty w (.int .i64 n):=by
  obtain ⟨A,cap,rfl⟩:=h.form
  exact R1.len hx ht
theorem R1.at_ {x y : Operand} {t el : TypeId} {k : IntKind} {i : Int} (j : Nat) (h : Sl M w s v n cs) (hx : ev e x = some v) (hy : ev e y = some (.int k i)) (ht : sliceT P t = some (el, s)) (hi : i = (j : Int)) (hj : j < n) :
    R1 P e (.indexAddr t x y) ty w (.pointer (some (elemAt v s j))):=by
  obtain ⟨A,cap,rfl,h2,h3,h4,h5,h6⟩:=h
  subst hi
  cases A with
  | none=>have:=h5 rfl; omega
  | some a=>exact R1.index hx hy ht (by omega) (by omega)
theorem R1.nilSl {x : Operand} {t t' el : TypeId} {l' c' : Nat} {A : Option Addr} {cap : Nat} (hx : ev e x = some (.slice A n cap)) (ht : sliceT P t = some (el, s)) :
    R1 P e (.binOp .eql t x (.const (.slice none l' c')) t') ty w (.bool A.isNone):=R1.isNil hx (sliceT.spec ht).1
end
theorem wrap_i64 {i:Int} (h0:-9223372036854775808≤i) (h1:i≤9223372036854775807):IntKind.i64.wrap i=i:=by rw [IntKind.wrap_i64]; omega
theorem wrap_u32 {i:Int} (h0:0≤i) (h1:i≤4294967295):IntKind.u32.wrap i=i:=by
  simp [IntKind.wrap,IntKind.signed,IntKind.bits]; omega
theorem wrap_u64 {i:Int} (h0:0≤i) (h1:i≤18446744073709551615):IntKind.u64.wrap i=i:=by
  simp [IntKind.wrap,IntKind.signed,IntKind.bits]; omega
theorem wrap_u32_mod (i:Int):IntKind.u32.wrap i=i % 4294967296:=by simp [IntKind.wrap,IntKind.signed,IntKind.bits]
theorem wrap_u64_mod (i:Int):IntKind.u64.wrap i=i % 18446744073709551616:=by simp [IntKind.wrap,IntKind.signed,IntKind.bits]
theorem wrap_u8_mod (i:Int):IntKind.u8.wrap i=i % 256:=by simp [IntKind.wrap,IntKind.signed,IntKind.bits]
theorem R1.as {P:Program} {e:Env} {op:Op} {ty:TypeId} {w:World} {k:IntKind} {i j:Int} (h:R1 P e op ty w (.int k i)) (hij:i=j):R1 P e op ty w (.int k j):=hij ▸ h
theorem R1.asV {P:Program} {e:Env} {op:Op} {ty:TypeId} {w:World} {u v:Value} (h:R1 P e op ty w u) (hij:u=v):R1 P e op ty w v:=hij ▸ h
theorem R1.asB {P:Program} {e:Env} {op:Op} {ty:TypeId} {w:World} {b c:Bool} (h:R1 P e op ty w (.bool b)) (hij:b=c):R1 P e op ty w (.bool c):=hij ▸ h
def U32 (M:List Nat) (w:World) (v:Value) (xs:List Nat):Prop:=Sl M w 1 v xs.length (xs.map fun (x:Nat)=>Value.int .u32 x)∧∀ x∈xs,x<4294967296
section
variable {M M' G:List Nat} {w w':World} {v:Value} {xs:List Nat}
theorem U32.form (h:U32 M w v xs):∃ A cap,v=.slice A xs.length cap:=h.1.form
theorem U32.mod (h:U32 M w v xs) (hm:Mod G w w') (hg:∀ g∈G,g∈M):U32 M w' v xs:=⟨h.1.mod (by omega) hm hg,h.2⟩
theorem U32.gr (h:U32 M w v xs) (hm:Mod [] w w'):U32 M w' v xs:=⟨h.1.gr (by omega) hm,h.2⟩
theorem U32.sub (h:U32 M w v xs) (hM:∀ g∈M',g∈M):U32 M' w v xs:=⟨h.1.sub hM,h.2⟩
theorem U32.more (h:U32 M w v xs) {g:Nat} (hg:w.heap.size≤g):U32 (g :: M) w v xs:=⟨h.1.more (by omega) hg,h.2⟩
theorem U32.new (h:U32 M w v xs) {g:Nat} {t:TypeId} {c:Array Value} (hN:New w w' g t c):U32 (g :: M) w' v xs:=⟨h.1.new (by omega) hN,h.2⟩
theorem U32.nil:U32 M w (.slice none 0 0) []:=⟨Sl.nil 0 rfl,by simp⟩
theorem U32.cell (h:U32 M w v xs) {i:Nat} (hi:i<xs.length):w.cell? (elemAt v 1 i)=some (.int .u32 xs[i]):=h.1.cell0 (by simp [hi])
theorem U32.lt (h:U32 M w v xs) {i:Nat} (hi:i<xs.length):xs[i]<4294967296:=h.2 _ (List.getElem_mem hi)
end
section
variable {P:Program} {e:Env} {w:World} {ty:TypeId} {x y:Operand} {t t':TypeId} {a b:Nat} {k k':IntKind}
theorem R1.addI (hx:ev e x=some (.int .i64 (a:Int))) (hy:ev e y=some (.int .i64 (b:Int))) (h:a + b≤9223372036854775807):R1 P e (.binOp .add t x y t') ty w (.int .i64 ((a + b:Nat):Int)) :=
  (R1.add hx hy).as (by rw [wrap_i64 (by omega) (by omega)]; omega)
theorem R1.addL (hx:ev e x=some (.int .u64 (a:Int))) (hy:ev e y=some (.int .u64 (b:Int))) (h:a + b≤18446744073709551615):R1 P e (.binOp .add t x y t') ty w (.int .u64 ((a + b:Nat):Int)) :=
  (R1.add hx hy).as (by rw [wrap_u64 (by omega) (by omega)]; omega)
theorem R1.addW (hx:ev e x=some (.int .u32 (a:Int))) (hy:ev e y=some (.int .u32 (b:Int))):R1 P e (.binOp .add t x y t') ty w (.int .u32 (((a + b) % 4294967296:Nat):Int)) :=
  (R1.add hx hy).as (by rw [wrap_u32_mod]; omega)
theorem R1.subW (hx:ev e x=some (.int .u32 (a:Int))) (hy:ev e y=some (.int .u32 (b:Int))) (hb:b≤4294967296):R1 P e (.binOp .sub t x y t') ty w (.int .u32 (((a + (4294967296 - b)) % 4294967296:Nat):Int)) :=
  (R1.sub hx hy).as (by rw [wrap_u32_mod]; omega)
theorem R1.subI (hx:ev e x=some (.int .i64 (a:Int))) (hy:ev e y=some (.int .i64 (b:Int))) (h:b≤a) (h':a≤9223372036854775807):R1 P e (.binOp .sub t x y t') ty w (.int .i64 ((a - b:Nat):Int)) :=
  (R1.sub hx hy).as (by rw [wrap_i64 (by omega) (by omega)]; omega)
theorem R1.subL (hx:ev e x=some (.int .u64 (a:Int))) (hy:ev e y=some (.int .u64 (b:Int))) (h:b≤a) (h':a≤18446744073709551615):R1 P e (.binOp .sub t x y t') ty w (.int .u64 ((a - b:Nat):Int)) :=
  (R1.sub hx hy).as (by rw [wrap_u64 (by omega) (by omega)]; omega)
theorem R1.mulL (hx:ev e x=some (.int .u64 (a:Int))) (hy:ev e y=some (.int .u64 (b:Int))) (h:a * b≤18446744073709551615):R1 P e (.binOp .mul t x y t') ty w (.int .u64 ((a * b:Nat):Int)) :=
  (R1.mul hx hy).as (by rw [← Int.natCast_mul,wrap_u64 (by omega) (by omega)])
theorem R1.mulI (hx:ev e x=some (.int .i64 (a:Int))) (hy:ev e y=some (.int .i64 (b:Int))) (h:a * b≤9223372036854775807):R1 P e (.binOp .mul t x y t') ty w (.int .i64 ((a * b:Nat):Int)) :=
  (R1.mul hx hy).as (by rw [← Int.natCast_mul,wrap_i64 (by omega) (by omega)])
theorem R1.quoL (hx:ev e x=some (.int .u64 (a:Int))) (hy:ev e y=some (.int .u64 (b:Int))) (h0:0<b) (h:a≤18446744073709551615):R1 P e (.binOp .quo t x y t') ty w (.int .u64 ((a / b:Nat):Int)) :=
  (R1.quo hx hy (by omega)).as (by
    rw [Int.tdiv_eq_ediv_of_nonneg (by omega),← Int.natCast_ediv]
    have:a / b≤a:=Nat.div_le_self _ _
    generalize a / b=q at *
    rw [wrap_u64 (by omega) (by omega)])
theorem R1.remL (hx:ev e x=some (.int .u64 (a:Int))) (hy:ev e y=some (.int .u64 (b:Int))) (h0:0<b):R1 P e (.binOp .rem t x y t') ty w (.int .u64 ((a % b:Nat):Int)) :=
  (R1.rem hx hy (by omega)).as (by rw [Int.tmod_eq_emod_of_nonneg (by omega),← Int.natCast_emod])
theorem R1.quoI (hx:ev e x=some (.int .i64 (a:Int))) (hy:ev e y=some (.int .i64 (b:Int))) (h0:0<b) (h:a≤9223372036854775807):R1 P e (.binOp .quo t x y t') ty w (.int .i64 ((a / b:Nat):Int)) :=
  (R1.quo hx hy (by omega)).as (by
    rw [Int.tdiv_eq_ediv_of_nonneg (by omega),← Int.natCast_ediv]
    have:a / b≤a:=Nat.div_le_self _ _
    generalize a / b=q at *
    rw [wrap_i64 (by omega) (by omega)])
theorem R1.remI (hx:ev e x=some (.int .i64 (a:Int))) (hy:ev e y=some (.int .i64 (b:Int))) (h0:0<b):R1 P e (.binOp .rem t x y t') ty w (.int .i64 ((a % b:Nat):Int)) :=
  (R1.rem hx hy (by omega)).as (by rw [Int.tmod_eq_emod_of_nonneg (by omega),← Int.natCast_emod])
theorem R1.shrL (hx:ev e x=some (.int .u64 (a:Int))) (hy:ev e y=some (.int k' (b:Int))) (hb:b≤64):R1 P e (.binOp .shr t x y t') ty w (.int .u64 ((a / 2 ^ b:Nat):Int)) :=
  (R1.shr hx hy (by omega)).as (by
    have:min (b:Int).toNat (IntKind.bits .u64)=b:=by simp [IntKind.bits]; omega
    rw [this,Int.fdiv_eq_ediv_of_nonneg _ (Int.le_of_lt (Int.pow_pos (by decide)))]
    simp)
theorem R1.shlL (hx:ev e x=some (.int .u64 (a:Int))) (hy:ev e y=some (.int k' (b:Int))) (hb:b≤64):R1 P e (.binOp .shl t x y t') ty w (.int .u64 ((a * 2 ^ b % 18446744073709551616:Nat):Int)) :=
  (R1.shl hx hy (by omega)).as (by
    have:min (b:Int).toNat (IntKind.bits .u64)=b:=by simp [IntKind.bits]; omega
    rw [this,wrap_u64_mod]
    simp)
theorem R1.convWL (hx:ev e x=some (.int .u32 (a:Int))) (hs:intT P t=some .u32) (ht:intT P t'=some .u64) (h:a≤18446744073709551615):R1 P e (.convert t t' x) ty w (.int .u64 (a:Int)) :=
  (R1.conv hx hs ht).as (wrap_u64 (by omega) (by omega))
theorem R1.convLW (hx:ev e x=some (.int .u64 (a:Int))) (hs:intT P t=some .u64) (ht:intT P t'=some .u32):R1 P e (.convert t t' x) ty w (.int .u32 ((a % 4294967296:Nat):Int)) :=
  (R1.conv hx hs ht).as (by rw [wrap_u32_mod]; omega)
theorem R1.convIL (hx:ev e x=some (.int .i64 (a:Int))) (hs:intT P t=some .i64) (ht:intT P t'=some .u64) (h:a≤18446744073709551615):R1 P e (.convert t t' x) ty w (.int .u64 (a:Int)) :=
  (R1.conv hx hs ht).as (wrap_u64 (by omega) (by omega))
theorem R1.convLI (hx:ev e x=some (.int .u64 (a:Int))) (hs:intT P t=some .u64) (ht:intT P t'=some .i64) (h:a≤9223372036854775807):R1 P e (.convert t t' x) ty w (.int .i64 (a:Int)) :=
  (R1.conv hx hs ht).as (wrap_i64 (by omega) (by omega))
theorem orI_u64 (a b:Nat) (ha:a<2 ^ 64) (hb:b<2 ^ 64):orI .u64 (a:Int) (b:Int)=((a ||| b:Nat):Int):=by
  have:(BitVec.ofInt 64 (a:Int) ||| BitVec.ofInt 64 (b:Int)).toNat=a ||| b:=by
    rw [BitVec.ofInt_natCast,BitVec.ofInt_natCast,BitVec.toNat_or,BitVec.toNat_ofNat,BitVec.toNat_ofNat,Nat.mod_eq_of_lt ha,Nat.mod_eq_of_lt hb]
  have h2:orI .u64 (a:Int) (b:Int)=IntKind.u64.wrap ((BitVec.ofInt 64 (a:Int) ||| BitVec.ofInt 64 (b:Int)).toNat:Int):=rfl
  rw [h2,this]
  have:=Nat.or_lt_two_pow ha hb
  exact wrap_u64 (by omega) (by omega)
theorem andI_u64 (a b:Nat) (ha:a<2 ^ 64) (hb:b<2 ^ 64):andI .u64 (a:Int) (b:Int)=((a &&& b:Nat):Int):=by
  have:(BitVec.ofInt 64 (a:Int) &&& BitVec.ofInt 64 (b:Int)).toNat=a &&& b:=by
    rw [BitVec.ofInt_natCast,BitVec.ofInt_natCast,BitVec.toNat_and,BitVec.toNat_ofNat,BitVec.toNat_ofNat,Nat.mod_eq_of_lt ha,Nat.mod_eq_of_lt hb]
  have h2:andI .u64 (a:Int) (b:Int)=IntKind.u64.wrap ((BitVec.ofInt 64 (a:Int) &&& BitVec.ofInt 64 (b:Int)).toNat:Int):=rfl
  rw [h2,this]
  have:=@Nat.and_le_left a b
  exact wrap_u64 (by omega) (by omega)
theorem orI_u32 (a b:Nat) (ha:a<2 ^ 32) (hb:b<2 ^ 32):orI .u32 (a:Int) (b:Int)=((a ||| b:Nat):Int):=by
  have:(BitVec.ofInt 32 (a:Int) ||| BitVec.ofInt 32 (b:Int)).toNat=a ||| b:=by
    rw [BitVec.ofInt_natCast,BitVec.ofInt_natCast,BitVec.toNat_or,BitVec.toNat_ofNat,BitVec.toNat_ofNat,Nat.mod_eq_of_lt ha,Nat.mod_eq_of_lt hb]
  have h2:orI .u32 (a:Int) (b:Int)=IntKind.u32.wrap ((BitVec.ofInt 32 (a:Int) ||| BitVec.ofInt 32 (b:Int)).toNat:Int):=rfl
  rw [h2,this]
  have:=Nat.or_lt_two_pow ha hb
  exact wrap_u32 (by omega) (by omega)
theorem R1.orL (hx:ev e x=some (.int .u64 (a:Int))) (hy:ev e y=some (.int .u64 (b:Int))) (ha:a<2 ^ 64) (hb:b<2 ^ 64):R1 P e (.binOp .or t x y t') ty w (.int .u64 ((a ||| b:Nat):Int)):=(R1.or hx hy).as (orI_u64 a b ha hb)
theorem R1.andL (hx:ev e x=some (.int .u64 (a:Int))) (hy:ev e y=some (.int .u64 (b:Int))) (ha:a<2 ^ 64) (hb:b<2 ^ 64):R1 P e (.binOp .and t x y t') ty w (.int .u64 ((a &&& b:Nat):Int)):=(R1.and hx hy).as (andI_u64 a b ha hb)
theorem R1.orW (hx:ev e x=some (.int .u32 (a:Int))) (hy:ev e y=some (.int .u32 (b:Int))) (ha:a<2 ^ 32) (hb:b<2 ^ 32):R1 P e (.binOp .or t x y t') ty w (.int .u32 ((a ||| b:Nat):Int)):=(R1.or hx hy).as (orI_u32 a b ha hb)
end
section
variable {P:Program} {e:Env} {w:World} {ty:TypeId} {M:List Nat} {v:Value} {xs:List Nat} {x y:Operand} {t el:TypeId} {k:IntKind} {i:Int} {j:Nat} {g:Nat}
theorem R1.lenU (hx:ev e x=some v) (h:U32 M w v xs) (ht:sliceT P t=some (el,1)):R1 P e (.call ⟨.builtin .len,[x].toArray,[t].toArray⟩) ty w (.int .i64 (xs.length:Int)):=R1.lenSl h.1 hx ht
theorem R1.atU (hx : ev e x = some v) (hy : ev e y = some (.int k i)) (h : U32 M w v xs) (ht : sliceT P t = some (el, 1)) (hi : i = (j : Int)) (hj : j < xs.length) :
    R1 P e (.indexAddr t x y) ty w (.pointer (some (elemAt v 1 j))):=R1.at_ j h.1 hx hy ht hi hj
theorem R1.ldU (hx:ev e x=some (.pointer (some (elemAt v 1 j)))) (h:U32 M w v xs) (ht:plainT P t=true) (hj:j<xs.length) {c:Nat} (hc:xs[j]=c):R1 P e (.load t x) ty w (.int .u32 (c:Int)):=R1.load hx (hc ▸ h.cell hj) ht
def uarr (xs:List Nat):Array Value:=(xs.map fun (x:Nat)=>Value.int .u32 (x:Int)).toArray
theorem uarr_size (xs:List Nat):(uarr xs).size=xs.length:=by simp [uarr]
theorem uarr_set (xs:List Nat) (j v:Nat):(uarr xs).setIfInBounds j (.int .u32 (v:Int))=uarr (xs.set j v):=by
  simp [uarr,List.map_set]
theorem uarr_made (m:Nat):madeCells (Value.int .u32 0).cells (m * 1)=uarr (List.replicate m 0):=by
  have:=toList_madeCells_one (.int .u32 0) (m * 1)
  rw [← Array.toList_inj]
  simp only [Value.cells]
  rw [this]
  simp [uarr]
theorem R1.atO {l c : Nat} (hx : ev e x = some (.slice (some ⟨g, 0, none⟩) l c)) (hy : ev e y = some (.int k i)) (ht : sliceT P t = some (el, 1)) (hi : i = (j : Int)) (hj : j < l) :
    R1 P e (.indexAddr t x y) ty w (.pointer (some ⟨g,j,none⟩)):=by
  have:=R1.index (ty:=ty) (w:=w) hx hy ht (by omega) (by omega)
  rw [add_lit] at this
  subst hi
  simpa using this
theorem R1.ldO {t':TypeId} (hx:ev e x=some (.pointer (some ⟨g,j,none⟩))) (hb:Blk w g t' (uarr xs)) (hj:j<xs.length) (ht:plainT P t=true) {c:Nat} (hc:xs[j]=c):R1 P e (.load t x) ty w (.int .u32 (c:Int)) :=
  R1.load hx (by rw [hb.cell]; simp [uarr,hj,← hc]) ht
theorem L.storeU {n : Nat} {Q : Exit → Act → World → Prop} {ops : Array Oper} {rest : List Oper} {pos : String} {after : Array Edge} {t' : TypeId} {u : Nat} (hx : ev e x = some (.pointer (some ⟨g, j, none⟩))) (hy : ev e y = some (.int .u32 (u : Int))) (hb : Blk w g t' (uarr xs)) (hj : j < xs.length) (ht : plainT P t = true)
    (h:∀ w',Blk w' g t' (uarr (xs.set j u))→Mod [g] w w'→L P n Q ops rest e w'):L P n Q ops (⟨none,.store t x y,ty,pos,after,none⟩ :: rest) e w :=
  L.store hx hy hb (by rw [uarr_size]; exact hj) rfl ht (fun w' h1 h2=>h w' (by rw [← uarr_set]; exact h1) h2)
theorem U32.of_blk {t':TypeId} (hb:Blk w g t' (uarr xs)) (hg:g ∉ M) (hm:xs.length≤maxLen) (hx:∀ x∈xs,x<4294967296):U32 M w (.slice (some ⟨g,0,none⟩) xs.length xs.length) xs :=
  ⟨Sl.of_blk hb 0 (Nat.le_refl _) hm (by simp) hg (fun j hj=>by simp [uarr]),hx⟩
end
def Bd (M:List Nat) (w:World):Prop:=∀ m∈M,m<w.heap.size
theorem Bd.gr {M G:List Nat} {w w':World} (h:Bd M w) (hm:Mod G w w'):Bd M w':=fun m hh=>Nat.lt_of_lt_of_le (h m hh) hm.size
theorem Bd.new {M:List Nat} {w w':World} {g:Nat} {t:TypeId} {c:Array Value} (h:Bd M w) (hN:New w w' g t c):Bd (g :: M) w':=fun m hh=>by
  have h1:=hN.size
  rcases List.mem_cons.1 hh with rfl | h2
  · rw [hN.eq]; omega
  have:=h m h2; omega
theorem Bd.not {M:List Nat} {w:World} (h:Bd M w) {g:Nat} (hg:w.heap.size≤g):g ∉ M:=fun hh=>by have:=h g hh; omega
theorem Mod.old1 {G:List Nat} {w w' w'':World} {g:Nat} (h:Mod G w w') (k:Mod [g] w' w'') (hg:w.heap.size≤g):Mod G w w'':=h.old k (by intro x hx; simp at hx; subst hx; exact .inr hg)
theorem Blk.far {w w':World} {g g':Nat} {t:TypeId} {cs:Array Value} (h:Blk w g t cs) (hm:Mod [g'] w w') (hne:g≠g'):Blk w' g t cs:=h.mod hm (by simpa using hne)
theorem W.drawW {P : Program} {n : Nat} {Q : Exit → Act → World → Prop} {e : Env} {w : World} {id : Nat} {l : List Oper} (T : List Nat) (hm : P.follows .mixedOrders = true) (hs : Region.noSelect l.toArray = true) (hQ : NoHang Q)
    (h:∀ w1,Mod [] w w1→D P n Q l.toArray (fun w'=>Mod [] w1 w') T l.length (Array.replicate l.length false) e w1):W P n Q (.region id l.toArray true) e w :=
  W.draw _ T hm hs hQ (h _ (Mod.drew w))
theorem W.drawG (G : List Nat) {P : Program} {n : Nat} {Q : Exit → Act → World → Prop} {e : Env} {w : World} {id : Nat} {l : List Oper} (T : List Nat) (hm : P.follows .mixedOrders = true) (hs : Region.noSelect l.toArray = true) (hQ : NoHang Q)
    (h:∀ w1,Mod [] w w1→D P n Q l.toArray (fun w'=>Mod G w1 w') T l.length (Array.replicate l.length false) e w1):W P n Q (.region id l.toArray true) e w :=
  W.draw _ T hm hs hQ (h _ (Mod.drew w))
section
variable {P : Program} {n : Nat} {Q : Exit → Act → World → Prop} {ops : Array Oper} {rest : List Oper} {e : Env} {w : World} {d : Nat} {ty : TypeId} {pos : String} {after : Array Edge} {op : Op}
theorem L.inc {x y : Operand} {t t' : TypeId} {a : Nat} (hx : (ev e x,Nat.blt d n)=(some (.int .i64 (a : Int)),true)) (hy : ev e y=some (.int .i64 ((1 : Nat) : Int))) (hh : a + 1 ≤ 9223372036854775807) (h : L P n Q ops rest ((d,.int .i64 ((a + 1 : Nat) : Int))::e) w) : L P n Q ops (⟨some d,.binOp .add t x y t',ty,pos,after,none⟩::rest) e w:=L.v (R1.addI (b:=1) (Prod.mk.inj hx).1 hy hh) (Prod.mk.inj hx).2 h
theorem L.lU {x : Operand} {t el : TypeId} {v : Value} {M xs : List Nat} (hx : (ev e x,Nat.blt d n)=(some (v),true)) (hu : U32 M w v xs) (ht : sliceT P t=some (el,1)) (h : L P n Q ops rest ((d,.int .i64 (xs.length : Int))::e) w) : L P n Q ops (⟨some d,.call ⟨.builtin .len,[x].toArray,[t].toArray⟩,ty,pos,after,none⟩::rest) e w:=L.v (R1.lenU (Prod.mk.inj hx).1 hu ht) (Prod.mk.inj hx).2 h
theorem U32.ms {w w' : World} {M G xs : List Nat} {v : Value} (h : U32 M w v xs) (hm : Mod G w w') (hg : ∀ g ∈ G,g ∈ M:=by simp) : U32 M w' v xs:=h.mod hm hg
theorem Blk.fr {w w' : World} {g g' : Nat} {t : TypeId} {cs : Array Value} (h : Blk w g t cs) (hm : Mod [g'] w w') (hne : g≠g':=by first | assumption | (apply Ne.symm; assumption)) : Blk w' g t cs:=Blk.far h hm hne
end
end Go.Proofs.YthoooolflmbmbaaGreat
