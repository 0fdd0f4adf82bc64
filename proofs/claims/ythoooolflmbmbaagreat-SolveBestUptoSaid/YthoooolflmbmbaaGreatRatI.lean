/- Walks: what the functions compute. -/
import Derived.Test.YthoooolflmbmbaaGreatRefE
import Derived.Test.YthoooolflmbmbaaGreatRatb
namespace Go.Proofs.YthoooolflmbmbaaGreat
open Go.RowKit
set_option linter.unusedVariables false
set_option linter.unusedSimpArgs false
set_option maxRecDepth 10000
theorem c_rat_Is {M N9 : List Nat} {w : World} {s : Bool} {vn vd : Value} {xs ys : List Nat} (h : U32 N9 w vn xs) (k : U32 N9 w vd ys) (hbd : Bd M w) (hl1 : xs.length ≤ 1099511627776) (hl2 : ys.length ≤ 1099511627776) :
    Ret Tryz.prog 31 #[.agg #[.bool s,vn,vd]] w (fun r w'=>r=.bool (isN s xs ys)∧Mod [] w w'):=by
 refine Ret.of (vs:=[.agg #[.bool s,vn,vd]]) (n:=37) Tryz.func31 rfl rfl rfl rfl ?_
 have C0:Mod [] w w:=Mod.refl _ _
 refine W.sr<|L.box rfl rfl ?_
 intro g1 w1 D1
 replace h:=h.new D1;replace k:=k.new D1;replace hbd:=hbd.new D1;have K1:=New.ge D1 C0.size;replace C0:=C0.tn D1;have E1:=D1.blk;clear D1
 refine L.b rfl<|L.z<|W.seq<|W.sr<|L.fA rfl tyF40_1<|L.lF rfl E1 rfl tyP38<|L.c rfl (c_nat_Is h) ?_
 rintro _ w2 ⟨rfl,C2⟩
 replace h:=h.gr C2;replace k:=k.gr C2;replace hbd:=hbd.gr C2;replace C0:=C0.trans C2;replace E1:=E1.gr C2;clear C2
 refine L.v (R1.not rfl) rfl<|L.k rfl ?_
 cases W7:(!trimmedB xs)
 ·
  try simp only [bq,ne_eq] at W7
  refine L.p rfl (R1.fieldAt rfl tyF40_2)<|L.p rfl (R1.loadFld rfl E1 rfl tyP38)<|L.callOn rfl rfl rfl rfl (c_nat_Is k) rfl ?_
  rintro _ w3 ⟨rfl,C3⟩
  replace h:=h.gr C3;replace k:=k.gr C3;replace hbd:=hbd.gr C3;replace C0:=C0.trans C3;replace E1:=E1.gr C3;clear C3
  refine L.p rfl (R1.not rfl)<|L.pF rfl rfl<|L.k rfl ?_
  cases W13:(!trimmedB ys)
  ·
   try simp only [bq,ne_eq] at W13
   refine L.p rfl (R1.fieldAt rfl tyF40_2)<|L.p rfl (R1.loadFld rfl E1 rfl tyP38)<|L.p rfl (R1.lenU rfl (by assumption) Q38)<|L.p rfl ((R1.eq rfl rfl).asB (c:=decide (ys.length=0)) (by simp))<|L.pF rfl rfl<|L.k rfl ?_
   cases W19:decide (ys.length=0)
   ·
    try simp only [bq,ne_eq] at W19
    refine L.p rfl (R1.fieldAt rfl tyF40_0)<|L.p rfl (R1.loadFld rfl E1 rfl tyP4)<|L.p rfl (R1.move rfl) ?_
    cases W22:s
    ·
     have hcc_:=W22
     refine L.o rfl<|L.o rfl<|L.o rfl<|L.o rfl<|L.p rfl (R1.pickF rfl rfl)<|L.pF rfl rfl<|L.z<|W.condF rfl<|W.skip<|X.seq ?_
     refine W.sr<|L.fA rfl tyF40_1<|L.lF rfl E1 rfl tyP38<|L.fA rfl tyF40_2<|L.lF rfl E1 rfl tyP38<|L.c rfl (c_nat_Gcd (M:=[]) (h.sub (by simp)) (k.sub (by simp)) (fun m hm=>by cases hm) (by omega) (by omega)) ?_
     rintro v33 w4 ⟨h33,C4⟩
     replace h:=h.gr C4;replace k:=k.gr C4;replace C0:=C0.trans C4;clear C4
     refine L.c rfl (c_nat_Of (M:=[]) (n:=1) (by decide) (fun m hm=>by cases hm)) ?_
     rintro v34 w5 ⟨h34,C5⟩
     replace h:=h.gr C5;replace k:=k.gr C5;replace C0:=C0.trans C5;replace h33:=h33.gr C5;clear C5
     refine L.c rfl (c_nat_Cmp h33 h34) ?_
     rintro _ w6 ⟨rfl,C6⟩
     replace h:=h.gr C6;replace k:=k.gr C6;replace C0:=C0.trans C6;clear C6
     refine L.v ((R1.eq rfl rfl).asB (c:=decide (Nat.gcd (val xs) (val ys)=1)) (by rw [val_toL,val_toL,cmpI_one])) rfl<|L.b rfl<|L.z<|W.ret<|X.result1 rfl (.tmp rfl .nil)<|⟨?_,C0⟩
     rw [isN_true h.2 k.2 W7 W13 W19 (by first | exact fun h9=>J28 h9.2 | (intro h9; simp at h9))]
    have hcc_:=W22
    refine L.p rfl (R1.fieldAt rfl tyF40_1)<|L.p rfl (R1.loadFld rfl E1 rfl tyP38)<|L.p rfl (R1.lenU rfl (by assumption) Q38)<|L.p rfl ((R1.eq rfl rfl).asB (c:=decide (xs.length=0)) (by simp))<|L.p rfl (R1.pickT rfl rfl)<|L.pF rfl rfl<|L.z<|W.cond rfl ?_ ?_
    ·
     intro J28
     try simp only [bq,ne_eq] at J28
     refine W.sr<|L.b rfl<|L.z<|W.ret<|X.thenRet<|X.result1 rfl (.tmp rfl .nil)<|⟨?_,C0⟩
     rw [isN_false h.2 k.2 (by first | exact .inl W7 | exact .inr (.inl W13) | exact .inr (.inr (.inl W19)) | exact .inr (.inr (.inr ⟨rfl,J28⟩)) | exact .inr (.inr (.inr ⟨W22,J28⟩)))]
    intro J28
    try simp only [bq,ne_eq] at J28
    refine W.skip<|X.seq<|W.sr<|L.fA rfl tyF40_1<|L.lF rfl E1 rfl tyP38<|L.fA rfl tyF40_2<|L.lF rfl E1 rfl tyP38<|L.c rfl (c_nat_Gcd (M:=[]) (h.sub (by simp)) (k.sub (by simp)) (fun m hm=>by cases hm) (by omega) (by omega)) ?_
    rintro v33 w7 ⟨h33,C7⟩
    replace h:=h.gr C7;replace k:=k.gr C7;replace C0:=C0.trans C7;clear C7
    refine L.c rfl (c_nat_Of (M:=[]) (n:=1) (by decide) (fun m hm=>by cases hm)) ?_
    rintro v34 w8 ⟨h34,C8⟩
    replace h:=h.gr C8;replace k:=k.gr C8;replace C0:=C0.trans C8;replace h33:=h33.gr C8;clear C8
    refine L.c rfl (c_nat_Cmp h33 h34) ?_
    rintro _ w9 ⟨rfl,C9⟩
    replace h:=h.gr C9;replace k:=k.gr C9;replace C0:=C0.trans C9;clear C9
    refine L.v ((R1.eq rfl rfl).asB (c:=decide (Nat.gcd (val xs) (val ys)=1)) (by rw [val_toL,val_toL,cmpI_one])) rfl<|L.b rfl<|L.z<|W.ret<|X.result1 rfl (.tmp rfl .nil)<|⟨?_,C0⟩
    rw [isN_true h.2 k.2 W7 W13 W19 (by first | exact fun h9=>J28 h9.2 | (intro h9; simp at h9))]
   try simp only [bq,ne_eq] at W19
   refine L.o rfl<|L.o rfl<|L.o rfl<|L.offU rfl rfl rfl rfl<|L.offU rfl rfl rfl rfl<|L.offU rfl rfl rfl rfl<|L.offU rfl rfl rfl rfl<|L.o rfl<|L.pT rfl rfl<|L.z ?_
   refine W.condT rfl<|W.sr<|L.b rfl<|L.z<|W.ret<|X.thenRet<|X.result1 rfl (.tmp rfl .nil)<|⟨?_,C0⟩
   rw [isN_false h.2 k.2 (by first | exact .inl W7 | exact .inr (.inl W13) | exact .inr (.inr (.inl W19)) | exact .inr (.inr (.inr ⟨rfl,J28⟩)) | exact .inr (.inr (.inr ⟨W22,J28⟩)))]
  try simp only [bq,ne_eq] at W13
  refine L.o rfl<|L.o rfl<|L.o rfl<|L.o rfl<|L.pT rfl rfl<|L.k rfl<|L.o rfl<|L.o rfl<|L.o rfl<|L.offU rfl rfl rfl rfl<|L.offU rfl rfl rfl rfl ?_
  refine L.offU rfl rfl rfl rfl<|L.offU rfl rfl rfl rfl<|L.o rfl<|L.pT rfl rfl<|L.z<|W.condT rfl<|W.sr<|L.b rfl<|L.nil ?_
  refine X.seq<|W.ret<|X.thenRet<|X.result1 rfl (.tmp rfl .nil)<|⟨?_,C0⟩
  rw [isN_false h.2 k.2 (by first | exact .inl W7 | exact .inr (.inl W13) | exact .inr (.inr (.inl W19)) | exact .inr (.inr (.inr ⟨rfl,J28⟩)) | exact .inr (.inr (.inr ⟨W22,J28⟩)))]
 try simp only [bq,ne_eq] at W7
 refine L.o rfl<|L.o rfl<|L.o rfl<|L.o rfl<|L.pT rfl rfl<|L.k rfl<|L.o rfl<|L.o rfl<|L.o rfl<|L.o rfl<|L.pT rfl rfl ?_
 refine L.k rfl<|L.o rfl<|L.o rfl<|L.o rfl<|L.offU rfl rfl rfl rfl<|L.offU rfl rfl rfl rfl<|L.offU rfl rfl rfl rfl<|L.offU rfl rfl rfl rfl<|L.o rfl<|L.pT rfl rfl<|L.nil ?_
 refine X.seq<|W.condT rfl<|W.sr<|L.b rfl<|L.z<|W.ret<|X.thenRet<|X.result1 rfl (.tmp rfl .nil)<|⟨?_,C0⟩
 rw [isN_false h.2 k.2 (by first | exact .inl W7 | exact .inr (.inl W13) | exact .inr (.inr (.inl W19)) | exact .inr (.inr (.inr ⟨rfl,J28⟩)) | exact .inr (.inr (.inr ⟨W22,J28⟩)))]
theorem c_rat_Div {M N8 N9:List Nat} {w:World} {sa sb:Bool} {an ad bn bd:Value} {xa ya xb yb:List Nat} {qa qb:Rat} (hqa:rv sa (val xa) (val ya)=qa) (hqb:rv sb (val xb) (val yb)=qb) (ha:U32 N8 w an xa) (ka:U32 N8 w ad ya) (hb:U32 N9 w bn xb) (kb:U32 N9 w bd yb) (hbd:Bd M w) (l0:xa.length≤137438953400) (l1:ya.length≤137438953400) (l2:xb.length≤137438953400) (l3:yb.length≤137438953400):Ret Tryz.prog 82 #[.agg #[.bool sa,an,ad],.agg #[.bool sb,bn,bd]] w (fun r w'=>∃ v,r=.tuple #[v,.bool (decide (qb≠0))]∧RN M w' v (qa / qb)∧Mod [] w w'):=by
  by_cases h0:qb=0
  · exact (c_rat_Div0 hqa hqb ha ka hb kb hbd l0 l1 l2 l3 h0).mono fun r w' ⟨v,h1,h2,h3⟩=>⟨v,by rw [h1,decide_eq_false (fun h=>h h0)],by rw [h0,Rat.div_def,Rat.inv_zero,Rat.mul_zero]; exact h2,h3⟩
  exact (c_rat_Div1 hqa hqb ha ka hb kb hbd l0 l1 l2 l3 h0).mono fun r w' ⟨v,h1,h2,h3⟩=>⟨v,by rw [h1,decide_eq_true h0],h2,h3⟩
theorem c_ref2_Div {M N8 N9:List Nat} {w:World} {sa sb:Bool} {an ad bn bd:Value} {xa ya xb yb:List Nat} {qa qb:Rat} (hqa:rv sa (val xa) (val ya)=qa) (hqb:rv sb (val xb) (val yb)=qb) (ha:U32 N8 w an xa) (ka:U32 N8 w ad ya) (hb:U32 N9 w bn xb) (kb:U32 N9 w bd yb) (hbd:Bd M w) (l0:xa.length≤137438953472) (l1:ya.length≤137438953472) (l2:xb.length≤137438953472) (l3:yb.length≤137438953472):Ret Tryz.prog 92 #[.agg #[.bool sa,an,ad],.agg #[.bool sb,bn,bd]] w (fun r w'=>∃ v,r=.tuple #[v,.bool (decide (qb≠0))]∧RN M w' v (qa / qb)∧Mod [] w w'):=by
  by_cases h0:qb=0
  · exact (c_ref2_Div0 hqa hqb ha ka hb kb hbd l0 l1 l2 l3 h0).mono fun r w' ⟨v,h1,h2,h3⟩=>⟨v,by rw [h1,decide_eq_false (fun h=>h h0)],by rw [h0,Rat.div_def,Rat.inv_zero,Rat.mul_zero]; exact h2,h3⟩
  exact (c_ref2_Div1 hqa hqb ha ka hb kb hbd l0 l1 l2 l3 h0).mono fun r w' ⟨v,h1,h2,h3⟩=>⟨v,by rw [h1,decide_eq_true h0],h2,h3⟩
end Go.Proofs.YthoooolflmbmbaaGreat
