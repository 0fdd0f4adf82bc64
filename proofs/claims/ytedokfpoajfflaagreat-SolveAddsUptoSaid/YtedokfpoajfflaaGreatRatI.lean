/- Walks: what the functions compute. -/
import Derived.Test.YtedokfpoajfflaaGreatRefE
import Derived.Test.YtedokfpoajfflaaGreatRatb
namespace Go.Proofs.YtedokfpoajfflaaGreat
open Go.RowKit
set_option linter.unusedVariables false
set_option linter.unusedSimpArgs false
set_option maxRecDepth 10000
theorem c_rat_Is {M N9 : List Nat} {w : World} {s : Bool} {vn vd : Value} {xs ys : List Nat} (h : U32 N9 w vn xs) (k : U32 N9 w vd ys) (hbd : Bd M w) (hl1 : xs.length ≤ 1099511627776) (hl2 : ys.length ≤ 1099511627776) :
    Ret Tryz.prog 34 #[.agg #[.bool s,vn,vd]] w (fun r w'=>r=.bool (isN s xs ys)∧Mod [] w w'):=by
 refine Ret.of (vs:=[.agg #[.bool s,vn,vd]]) (n:=37) Tryz.func34 rfl rfl rfl rfl ?_
 have hm0:Mod [] w w:=Mod.refl _ _
 refine W.seq<|W.region<|L.box rfl rfl ?_
 intro g1 w1 hN1
 replace h:=h.new hN1;replace k:=k.new hN1;replace hbd:=hbd.new hN1;have hge_g1:=New.ge hN1 hm0.size;replace hm0:=hm0.trans (hN1.mod.mono (by simp));have hb1:=hN1.blk;clear hN1
 refine L.a rfl rfl<|L.nil<|X.seq<|W.seq<|W.seq<|W.region<|L.v (R1.fieldAt rfl tyF26_1) rfl<|L.v (R1.loadFld rfl hb1 rfl tyP24) rfl<|L.call rfl (c_nat_Is h) rfl ?_
 rintro _ w2 ⟨rfl,hm2⟩
 replace h:=h.gr hm2;replace k:=k.gr hm2;replace hbd:=hbd.gr hm2;replace hm0:=hm0.trans hm2;replace hb1:=Blk.gr hb1 hm2;clear hm2
 refine L.v (R1.not rfl) rfl<|L.m rfl rfl ?_
 cases hgd7:(!trimmedB xs)
 ·
  try simp only [bq,ne_eq] at hgd7
  refine L.on rfl rfl rfl (R1.fieldAt rfl tyF26_2) rfl<|L.on rfl rfl rfl (R1.loadFld rfl hb1 rfl tyP24) rfl<|L.callOn rfl rfl rfl rfl (c_nat_Is k) rfl ?_
  rintro _ w3 ⟨rfl,hm3⟩
  replace h:=h.gr hm3;replace k:=k.gr hm3;replace hbd:=hbd.gr hm3;replace hm0:=hm0.trans hm3;replace hb1:=Blk.gr hb1 hm3;clear hm3
  refine L.on rfl rfl rfl (R1.not rfl) rfl<|L.v (R1.pickF rfl rfl) rfl<|L.m rfl rfl ?_
  cases hgd13:(!trimmedB ys)
  ·
   try simp only [bq,ne_eq] at hgd13
   refine L.on rfl rfl rfl (R1.fieldAt rfl tyF26_2) rfl<|L.on rfl rfl rfl (R1.loadFld rfl hb1 rfl tyP24) rfl<|L.on rfl rfl rfl (R1.lenU rfl (by assumption) tyS24) rfl<|L.on rfl rfl rfl ((R1.eq rfl rfl).asB (c:=decide (ys.length=0)) (by simp)) rfl<|L.v (R1.pickF rfl rfl) rfl<|L.m rfl rfl ?_
   cases hgd19:decide (ys.length=0)
   ·
    try simp only [bq,ne_eq] at hgd19
    refine L.on rfl rfl rfl (R1.fieldAt rfl tyF26_0) rfl<|L.on rfl rfl rfl (R1.loadFld rfl hb1 rfl tyP4) rfl<|L.on rfl rfl rfl (R1.move rfl) rfl ?_
    cases hgd22:s
    ·
     have hcc_:=hgd22
     refine L.off rfl rfl rfl rfl rfl<|L.off rfl rfl rfl rfl rfl<|L.off rfl rfl rfl rfl rfl<|L.off rfl rfl rfl rfl rfl<|L.on rfl rfl rfl (R1.pickF rfl rfl) rfl<|L.v (R1.pickF rfl rfl) rfl<|L.nil<|X.seq<|W.condF rfl<|W.skip<|X.seq ?_
     refine W.seq<|W.region<|L.v (R1.fieldAt rfl tyF26_1) rfl<|L.v (R1.loadFld rfl hb1 rfl tyP24) rfl<|L.v (R1.fieldAt rfl tyF26_2) rfl<|L.v (R1.loadFld rfl hb1 rfl tyP24) rfl<|L.call rfl (c_nat_Gcd (M:=[]) (h.sub (by simp)) (k.sub (by simp)) (fun m hm=>by cases hm) (by omega) (by omega)) rfl ?_
     rintro v33 w4 ⟨h33,hm4⟩
     replace h:=h.gr hm4;replace k:=k.gr hm4;replace hm0:=hm0.trans hm4;clear hm4
     refine L.call rfl (c_nat_Of (M:=[]) (n:=1) (by decide) (fun m hm=>by cases hm)) rfl ?_
     rintro v34 w5 ⟨h34,hm5⟩
     replace h:=h.gr hm5;replace k:=k.gr hm5;replace hm0:=hm0.trans hm5;replace h33:=h33.gr hm5;clear hm5
     refine L.call rfl (c_nat_Cmp h33 h34) rfl ?_
     rintro _ w6 ⟨rfl,hm6⟩
     replace h:=h.gr hm6;replace k:=k.gr hm6;replace hm0:=hm0.trans hm6;clear hm6
     refine L.v ((R1.eq rfl rfl).asB (c:=decide (Nat.gcd (val xs) (val ys)=1)) (by rw [val_toL,val_toL,cmpI_one])) rfl<|L.a rfl rfl<|L.nil<|X.seq<|W.ret<|X.result1 rfl (.tmp rfl .nil)<|⟨?_,hm0⟩
     rw [isN_true h.2 k.2 hgd7 hgd13 hgd19 (by first | exact fun h9=>hc28 h9.2 | (intro h9; simp at h9))]
    have hcc_:=hgd22
    refine L.on rfl rfl rfl (R1.fieldAt rfl tyF26_1) rfl<|L.on rfl rfl rfl (R1.loadFld rfl hb1 rfl tyP24) rfl<|L.on rfl rfl rfl (R1.lenU rfl (by assumption) tyS24) rfl<|L.on rfl rfl rfl ((R1.eq rfl rfl).asB (c:=decide (xs.length=0)) (by simp)) rfl<|L.on rfl rfl rfl (R1.pickT rfl rfl) rfl<|L.v (R1.pickF rfl rfl) rfl<|L.nil<|X.seq<|W.cond rfl ?_ ?_
    ·
     intro hc28
     try simp only [bq,ne_eq] at hc28
     refine W.seq<|W.region<|L.a rfl rfl<|L.nil<|X.seq<|W.ret<|X.thenRet<|X.result1 rfl (.tmp rfl .nil)<|⟨?_,hm0⟩
     rw [isN_false h.2 k.2 (by first | exact .inl hgd7 | exact .inr (.inl hgd13) | exact .inr (.inr (.inl hgd19)) | exact .inr (.inr (.inr ⟨rfl,hc28⟩)) | exact .inr (.inr (.inr ⟨hgd22,hc28⟩)))]
    intro hc28
    try simp only [bq,ne_eq] at hc28
    refine W.skip<|X.seq<|W.seq<|W.region<|L.v (R1.fieldAt rfl tyF26_1) rfl<|L.v (R1.loadFld rfl hb1 rfl tyP24) rfl<|L.v (R1.fieldAt rfl tyF26_2) rfl<|L.v (R1.loadFld rfl hb1 rfl tyP24) rfl<|L.call rfl (c_nat_Gcd (M:=[]) (h.sub (by simp)) (k.sub (by simp)) (fun m hm=>by cases hm) (by omega) (by omega)) rfl ?_
    rintro v33 w7 ⟨h33,hm7⟩
    replace h:=h.gr hm7;replace k:=k.gr hm7;replace hm0:=hm0.trans hm7;clear hm7
    refine L.call rfl (c_nat_Of (M:=[]) (n:=1) (by decide) (fun m hm=>by cases hm)) rfl ?_
    rintro v34 w8 ⟨h34,hm8⟩
    replace h:=h.gr hm8;replace k:=k.gr hm8;replace hm0:=hm0.trans hm8;replace h33:=h33.gr hm8;clear hm8
    refine L.call rfl (c_nat_Cmp h33 h34) rfl ?_
    rintro _ w9 ⟨rfl,hm9⟩
    replace h:=h.gr hm9;replace k:=k.gr hm9;replace hm0:=hm0.trans hm9;clear hm9
    refine L.v ((R1.eq rfl rfl).asB (c:=decide (Nat.gcd (val xs) (val ys)=1)) (by rw [val_toL,val_toL,cmpI_one])) rfl<|L.a rfl rfl<|L.nil<|X.seq<|W.ret<|X.result1 rfl (.tmp rfl .nil)<|⟨?_,hm0⟩
    rw [isN_true h.2 k.2 hgd7 hgd13 hgd19 (by first | exact fun h9=>hc28 h9.2 | (intro h9; simp at h9))]
   try simp only [bq,ne_eq] at hgd19
   refine L.off rfl rfl rfl rfl rfl<|L.off rfl rfl rfl rfl rfl<|L.off rfl rfl rfl rfl rfl<|L.offU rfl rfl rfl rfl<|L.offU rfl rfl rfl rfl<|L.offU rfl rfl rfl rfl<|L.offU rfl rfl rfl rfl<|L.off rfl rfl rfl rfl rfl<|L.v (R1.pickT rfl rfl) rfl<|L.nil<|X.seq ?_
   refine W.condT rfl<|W.seq<|W.region<|L.a rfl rfl<|L.nil<|X.seq<|W.ret<|X.thenRet<|X.result1 rfl (.tmp rfl .nil)<|⟨?_,hm0⟩
   rw [isN_false h.2 k.2 (by first | exact .inl hgd7 | exact .inr (.inl hgd13) | exact .inr (.inr (.inl hgd19)) | exact .inr (.inr (.inr ⟨rfl,hc28⟩)) | exact .inr (.inr (.inr ⟨hgd22,hc28⟩)))]
  try simp only [bq,ne_eq] at hgd13
  refine L.off rfl rfl rfl rfl rfl<|L.off rfl rfl rfl rfl rfl<|L.off rfl rfl rfl rfl rfl<|L.off rfl rfl rfl rfl rfl<|L.v (R1.pickT rfl rfl) rfl<|L.m rfl rfl<|L.off rfl rfl rfl rfl rfl<|L.off rfl rfl rfl rfl rfl<|L.off rfl rfl rfl rfl rfl<|L.offU rfl rfl rfl rfl<|L.offU rfl rfl rfl rfl ?_
  refine L.offU rfl rfl rfl rfl<|L.offU rfl rfl rfl rfl<|L.off rfl rfl rfl rfl rfl<|L.v (R1.pickT rfl rfl) rfl<|L.nil<|X.seq<|W.condT rfl<|W.seq<|W.region<|L.a rfl rfl<|L.nil ?_
  refine X.seq<|W.ret<|X.thenRet<|X.result1 rfl (.tmp rfl .nil)<|⟨?_,hm0⟩
  rw [isN_false h.2 k.2 (by first | exact .inl hgd7 | exact .inr (.inl hgd13) | exact .inr (.inr (.inl hgd19)) | exact .inr (.inr (.inr ⟨rfl,hc28⟩)) | exact .inr (.inr (.inr ⟨hgd22,hc28⟩)))]
 try simp only [bq,ne_eq] at hgd7
 refine L.off rfl rfl rfl rfl rfl<|L.off rfl rfl rfl rfl rfl<|L.off rfl rfl rfl rfl rfl<|L.off rfl rfl rfl rfl rfl<|L.v (R1.pickT rfl rfl) rfl<|L.m rfl rfl<|L.off rfl rfl rfl rfl rfl<|L.off rfl rfl rfl rfl rfl<|L.off rfl rfl rfl rfl rfl<|L.off rfl rfl rfl rfl rfl<|L.v (R1.pickT rfl rfl) rfl ?_
 refine L.m rfl rfl<|L.off rfl rfl rfl rfl rfl<|L.off rfl rfl rfl rfl rfl<|L.off rfl rfl rfl rfl rfl<|L.offU rfl rfl rfl rfl<|L.offU rfl rfl rfl rfl<|L.offU rfl rfl rfl rfl<|L.offU rfl rfl rfl rfl<|L.off rfl rfl rfl rfl rfl<|L.v (R1.pickT rfl rfl) rfl<|L.nil ?_
 refine X.seq<|W.condT rfl<|W.seq<|W.region<|L.a rfl rfl<|L.nil<|X.seq<|W.ret<|X.thenRet<|X.result1 rfl (.tmp rfl .nil)<|⟨?_,hm0⟩
 rw [isN_false h.2 k.2 (by first | exact .inl hgd7 | exact .inr (.inl hgd13) | exact .inr (.inr (.inl hgd19)) | exact .inr (.inr (.inr ⟨rfl,hc28⟩)) | exact .inr (.inr (.inr ⟨hgd22,hc28⟩)))]
theorem c_rat_Div {M N8 N9:List Nat} {w:World} {sa sb:Bool} {an ad bn bd:Value} {xa ya xb yb:List Nat} {qa qb:Rat} (hqa:rv sa (val xa) (val ya)=qa) (hqb:rv sb (val xb) (val yb)=qb) (ha:U32 N8 w an xa) (ka:U32 N8 w ad ya) (hb:U32 N9 w bn xb) (kb:U32 N9 w bd yb) (hbd:Bd M w) (l0:xa.length≤137438953400) (l1:ya.length≤137438953400) (l2:xb.length≤137438953400) (l3:yb.length≤137438953400):Ret Tryz.prog 82 #[.agg #[.bool sa,an,ad],.agg #[.bool sb,bn,bd]] w (fun r w'=>∃ v,r=.tuple #[v,.bool (decide (qb≠0))]∧RN M w' v (qa / qb)∧Mod [] w w'):=by
  by_cases h0:qb=0
  · exact (c_rat_Div0 hqa hqb ha ka hb kb hbd l0 l1 l2 l3 h0).mono fun r w' ⟨v,h1,h2,h3⟩=>⟨v,by rw [h1,decide_eq_false (fun h=>h h0)],by rw [h0,Rat.div_def,Rat.inv_zero,Rat.mul_zero]; exact h2,h3⟩
  exact (c_rat_Div1 hqa hqb ha ka hb kb hbd l0 l1 l2 l3 h0).mono fun r w' ⟨v,h1,h2,h3⟩=>⟨v,by rw [h1,decide_eq_true h0],h2,h3⟩
theorem c_ref2_Div {M N8 N9:List Nat} {w:World} {sa sb:Bool} {an ad bn bd:Value} {xa ya xb yb:List Nat} {qa qb:Rat} (hqa:rv sa (val xa) (val ya)=qa) (hqb:rv sb (val xb) (val yb)=qb) (ha:U32 N8 w an xa) (ka:U32 N8 w ad ya) (hb:U32 N9 w bn xb) (kb:U32 N9 w bd yb) (hbd:Bd M w) (l0:xa.length≤137438953472) (l1:ya.length≤137438953472) (l2:xb.length≤137438953472) (l3:yb.length≤137438953472):Ret Tryz.prog 86 #[.agg #[.bool sa,an,ad],.agg #[.bool sb,bn,bd]] w (fun r w'=>∃ v,r=.tuple #[v,.bool (decide (qb≠0))]∧RN M w' v (qa / qb)∧Mod [] w w'):=by
  by_cases h0:qb=0
  · exact (c_ref2_Div0 hqa hqb ha ka hb kb hbd l0 l1 l2 l3 h0).mono fun r w' ⟨v,h1,h2,h3⟩=>⟨v,by rw [h1,decide_eq_false (fun h=>h h0)],by rw [h0,Rat.div_def,Rat.inv_zero,Rat.mul_zero]; exact h2,h3⟩
  exact (c_ref2_Div1 hqa hqb ha ka hb kb hbd l0 l1 l2 l3 h0).mono fun r w' ⟨v,h1,h2,h3⟩=>⟨v,by rw [h1,decide_eq_true h0],h2,h3⟩
end Go.Proofs.YtedokfpoajfflaaGreat
