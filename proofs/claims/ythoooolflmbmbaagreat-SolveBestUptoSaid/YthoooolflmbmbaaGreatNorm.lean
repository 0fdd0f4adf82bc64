/- Fractions and sums in normal form in memory; rows of one's own whose elements lead further. Nothing of a program in sight. -/
import Derived.Test.YthoooolflmbmbaaGreatGen
import Derived.Test.YthoooolflmbmbaaGreatGaussB
namespace Go.Proofs.YthoooolflmbmbaaGreat
open Go.RowKit
set_option linter.unusedVariables false
set_option linter.unusedSimpArgs false
def rdP:Rd Rat where
  size:=3
  pos:=by decide
  rd:=fun M w cs q=>∃ A a B b,cs=[.bool (decide (q.num<0)),.slice A (toL q.num.natAbs).length a,.slice B (toL q.den).length b]∧U32 M w (.slice A (toL q.num.natAbs).length a) (toL q.num.natAbs)∧U32 M w (.slice B (toL q.den).length b) (toL q.den)
  len:=fun ⟨_,_,_,_,h,_⟩=>by rw [h]; rfl
  mod:=fun ⟨A,a,B,b,h,h1,h2⟩ hm hg=>⟨A,a,B,b,h,h1.mod hm hg,h2.mod hm hg⟩
  sub:=fun ⟨A,a,B,b,h,h1,h2⟩ hM=>⟨A,a,B,b,h,h1.sub hM,h2.sub hM⟩
  more:=fun ⟨A,a,B,b,h,h1,h2⟩ hg=>⟨A,a,B,b,h,h1.more hg,h2.more hg⟩
  one:=fun ⟨_,_,_,_,h,_⟩=>by rw [h]; simp [Value.oneCell']
def rdN:Rd (Nat × Rat) where
  size:=4
  pos:=by decide
  rd:=fun M w cs t=>∃ A a B b,cs=[.int .i64 (t.1:Int),.bool (decide (t.2.num<0)),.slice A (toL t.2.num.natAbs).length a,.slice B (toL t.2.den).length b]∧U32 M w (.slice A (toL t.2.num.natAbs).length a) (toL t.2.num.natAbs)∧U32 M w (.slice B (toL t.2.den).length b) (toL t.2.den)
  len:=fun ⟨_,_,_,_,h,_⟩=>by rw [h]; rfl
  mod:=fun ⟨A,a,B,b,h,h1,h2⟩ hm hg=>⟨A,a,B,b,h,h1.mod hm hg,h2.mod hm hg⟩
  sub:=fun ⟨A,a,B,b,h,h1,h2⟩ hM=>⟨A,a,B,b,h,h1.sub hM,h2.sub hM⟩
  more:=fun ⟨A,a,B,b,h,h1,h2⟩ hg=>⟨A,a,B,b,h,h1.more hg,h2.more hg⟩
  one:=fun ⟨_,_,_,_,h,_⟩=>by rw [h]; simp [Value.oneCell']
def rdK:Rd (Ts × Rat) where
  size:=5
  pos:=by decide
  rd:=fun M w cs c=>∃ st T t A a B b,cs=[.int .i64 st,.slice T c.1.length t,.bool (decide (c.2.num<0)),.slice A (toL c.2.num.natAbs).length a,.slice B (toL c.2.den).length b]∧Lay rdN M w (.slice T c.1.length t) c.1∧U32 M w (.slice A (toL c.2.num.natAbs).length a) (toL c.2.num.natAbs)∧U32 M w (.slice B (toL c.2.den).length b) (toL c.2.den)
  len:=fun ⟨_,_,_,_,_,_,_,h,_⟩=>by rw [h]; rfl
  mod:=fun ⟨s,T,t,A,a,B,b,h,h0,h1,h2⟩ hm hg=>⟨s,T,t,A,a,B,b,h,h0.mod hm hg,h1.mod hm hg,h2.mod hm hg⟩
  sub:=fun ⟨s,T,t,A,a,B,b,h,h0,h1,h2⟩ hM=>⟨s,T,t,A,a,B,b,h,h0.sub hM,h1.sub hM,h2.sub hM⟩
  more:=fun ⟨s,T,t,A,a,B,b,h,h0,h1,h2⟩ hg=>⟨s,T,t,A,a,B,b,h,h0.more hg,h1.more hg,h2.more hg⟩
  one:=fun ⟨_,_,_,_,_,_,_,h,_⟩=>by rw [h]; simp [Value.oneCell']
def RK (M:List Nat) (w:World) (v:Value) (l:Ts) (k:Rat):Prop:=∃ st T t A a B b,v=.agg #[.int .i64 st,.slice T l.length t,.bool (decide (k.num<0)),.slice A (toL k.num.natAbs).length a,.slice B (toL k.den).length b]∧Lay rdN M w (.slice T l.length t) l∧U32 M w (.slice A (toL k.num.natAbs).length a) (toL k.num.natAbs)∧U32 M w (.slice B (toL k.den).length b) (toL k.den)
section
variable {M M' G:List Nat} {w w':World} {v:Value} {l:Ts} {k q:Rat}
theorem RK.gr (h:RK M w v l k) (hm:Mod [] w w'):RK M w' v l k:=let ⟨s,T,t,A,a,B,b,h,h0,h1,h2⟩:=h; ⟨s,T,t,A,a,B,b,h,h0.gr hm,h1.gr hm,h2.gr hm⟩
theorem RK.sub (h:RK M w v l k) (hM:∀ g∈M',g∈M):RK M' w v l k:=let ⟨s,T,t,A,a,B,b,h,h0,h1,h2⟩:=h; ⟨s,T,t,A,a,B,b,h,h0.sub hM,h1.sub hM,h2.sub hM⟩
theorem RN.gr (h:RN M w v q) (hm:Mod [] w w'):RN M w' v q:=let ⟨A,c,B,d,h,h1,h2⟩:=h; ⟨A,c,B,d,h,h1.gr hm,h2.gr hm⟩
end
theorem rdP_of {M:List Nat} {w:World} {cs:List Value} {q:QR} (h:rdQ.rd M w cs q) (hq:q.is=true):rdP.rd M w cs q.val:=by
  obtain ⟨vn,vd,rfl,h1,h2⟩:=h;have e:=QR.is_nf hq
  generalize q.val=x at *
  subst e
  obtain ⟨A,a,rfl⟩:=h1.form;obtain ⟨B,b,rfl⟩:=h2.form
  exact ⟨A,a,B,b,rfl,h1,h2⟩
def tv (t:TR):Nat × Rat:=(t.v.toNat,t.c.val)
end Go.Proofs.YthoooolflmbmbaaGreat
