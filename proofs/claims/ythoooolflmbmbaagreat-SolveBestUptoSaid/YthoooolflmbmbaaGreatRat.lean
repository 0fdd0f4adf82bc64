/- Fractions of numbers: what a triple of a sign and two rows of limbs is worth, and its normal form. Nothing of a program in sight, but how one reads. -/
import Derived.Test.YthoooolflmbmbaaGreatNum3
import Derived.Test.YthoooolflmbmbaaGreatMore
namespace Go.Proofs.YthoooolflmbmbaaGreat
open Go.RowKit
set_option linter.unusedVariables false
def sg (s:Bool) (n:Nat):Int:=if s then -(n:Int) else n
def rv (s:Bool) (n d:Nat):Rat:=mkRat (sg s n) d
theorem sg_abs (s:Bool) (n:Nat):(sg s n).natAbs=n:=by cases s <;> simp [sg]
theorem sg_zero (s:Bool):sg s 0=0:=by cases s <;> simp [sg]
theorem rv_n0 (s:Bool) (d:Nat):rv s 0 d=0:=by unfold rv; rw [sg_zero]; simp
theorem rv_d0 (s:Bool) (n:Nat):rv s n 0=0:=by unfold rv; simp
theorem sg_div (s:Bool) (n g:Nat) (h:g ∣ n):sg s n / (g:Int)=sg s (n / g):=by
  cases s
  · simp [sg]
  simp only [sg,if_true]
  rw [Int.neg_ediv_of_dvd (Int.natCast_dvd_natCast.2 h)]
  simp
theorem rv_num {s:Bool} {n d:Nat} (hd:d≠0):(rv s n d).num=sg s (n / Nat.gcd n d):=by
  unfold rv
  rw [Rat.mkRat_def,dif_neg hd,Rat.normalize_eq hd]
  simp only [sg_abs]
  exact sg_div s n _ (Nat.gcd_dvd_left n d)
theorem rv_den {s:Bool} {n d:Nat} (hd:d≠0):(rv s n d).den=d / Nat.gcd n d:=by
  unfold rv
  rw [Rat.mkRat_def,dif_neg hd,Rat.normalize_eq hd]
  simp only [sg_abs]
theorem div_gcd_pos {n d:Nat} (hn:n≠0):n / Nat.gcd n d≠0:=by
  have h:=Nat.div_mul_cancel (Nat.gcd_dvd_left n d)
  intro h0
  rw [h0] at h; omega
theorem sg_neg {s:Bool} {n:Nat} (hn:n≠0):decide (sg s n<0)=s:=by
  cases s
  · simp [sg]
  simp [sg]; omega
theorem sg_self (i:Int):sg (decide (i<0)) i.natAbs=i:=by
  unfold sg
  by_cases h:i<0
  · simp [h]; omega
  simp [h]; omega
theorem rv_self (q:Rat):rv (decide (q.num<0)) q.num.natAbs q.den=q:=by unfold rv; rw [sg_self,Rat.mkRat_self]
theorem rv_toL (q:Rat):rv (decide (q.num<0)) (val (toL q.num.natAbs)) (val (toL q.den))=q:=by rw [val_toL,val_toL,rv_self]
def RN (M:List Nat) (w:World) (v:Value) (q:Rat):Prop :=
  ∃ A c B d,v=.agg #[.bool (decide (q.num<0)),.slice A (toL q.num.natAbs).length c,.slice B (toL q.den).length d]∧U32 M w (.slice A (toL q.num.natAbs).length c) (toL q.num.natAbs)∧U32 M w (.slice B (toL q.den).length d) (toL q.den)
theorem RN.mk {M:List Nat} {w:World} {b:Bool} {vn vd:Value} {q:Rat} (hb:b=decide (q.num<0)) (h1:U32 M w vn (toL q.num.natAbs)) (h2:U32 M w vd (toL q.den)):RN M w (.agg #[.bool b,vn,vd]) q:=by
  obtain ⟨A,c,rfl⟩:=h1.form;obtain ⟨B,d,rfl⟩:=h2.form
  subst hb
  exact ⟨A,c,B,d,rfl,h1,h2⟩
theorem RN.sub {M M':List Nat} {w:World} {v:Value} {q:Rat} (h:RN M w v q) (hM:∀ g∈M',g∈M):RN M' w v q:=by
  obtain ⟨A,c,B,d,rfl,h1,h2⟩:=h
  exact RN.mk rfl (h1.sub hM) (h2.sub hM)
theorem RN.of {M:List Nat} {w:World} {s:Bool} {vn vd:Value} {n d:Nat} {q:Rat} (hq:rv s n d=q) (hn:n≠0) (hd:d≠0) (h1:U32 M w vn (toL (n / Nat.gcd n d))) (h2:U32 M w vd (toL (d / Nat.gcd n d))):RN M w (.agg #[.bool s,vn,vd]) q:=by
  subst hq
  refine RN.mk ?_ ?_ ?_
  · rw [rv_num hd,sg_neg (div_gcd_pos hn)]
  · rw [rv_num hd,sg_abs]; exact h1
  rw [rv_den hd]; exact h2
theorem RN.zero {M:List Nat} {w:World} {vn vd:Value} {q:Rat} (hq:q=0) (h1:U32 M w vn []) (h2:U32 M w vd (toL 1)):RN M w (.agg #[.bool false,vn,vd]) q:=by
  subst hq
  exact RN.mk rfl (by simpa [toL_zero] using h1) h2
theorem RN.eq {M:List Nat} {w:World} {v:Value} {q q':Rat} (h:RN M w v q) (e:q=q'):RN M w v q':=e ▸ h
theorem len0 (n:Nat):decide (((toL n).length:Int)=0)=decide (n=0):=by
  congr 1
  apply propext
  rw [← toL_nil,← List.length_eq_zero_iff]
  omega
theorem lenpos (n:Nat):decide (0<((toL n).length:Int))=decide (n≠0):=by
  congr 1
  apply propext
  have h1:=toL_nil (n:=n);have h2:=List.length_eq_zero_iff (l:=toL n)
  constructor
  · intro h h0; rw [h1.2 h0] at h; simp at h
  intro h
  have:(toL n).length≠0:=fun h0=>h (h1.1 (h2.1 h0))
  omega
theorem add_num (a b:Rat):a + b=mkRat (a.num * b.den + b.num * a.den) (a.den * b.den):=by
  conv=>lhs; rw [← Rat.mkRat_self a,← Rat.mkRat_self b]
  exact Rat.mkRat_add_mkRat _ _ a.den_nz b.den_nz
theorem add_same {a b:Rat} (h:decide (a.num<0)=decide (b.num<0)):rv (decide (a.num<0)) (a.num.natAbs * b.den + b.num.natAbs * a.den) (a.den * b.den)=a + b:=by
  rw [add_num]
  unfold rv
  congr 1
  have ha:=sg_self a.num;have hb:=sg_self b.num
  rw [← h] at hb
  conv=>rhs; rw [← ha,← hb]
  generalize decide (a.num<0)=s
  cases s <;> simp [sg] <;> grind
theorem add_ge {a b:Rat} (h:decide (a.num<0)≠decide (b.num<0)) (hle:b.num.natAbs * a.den≤a.num.natAbs * b.den):rv (decide (a.num<0)) (a.num.natAbs * b.den - b.num.natAbs * a.den) (a.den * b.den)=a + b:=by
  rw [add_num]
  unfold rv
  congr 1
  have ha:=sg_self a.num;have hb:=sg_self b.num
  have h2:decide (b.num<0)=!decide (a.num<0):=by revert h; cases decide (a.num<0) <;> cases decide (b.num<0) <;> simp
  rw [h2] at hb
  conv=>rhs; rw [← ha,← hb]
  generalize decide (a.num<0)=s
  cases s <;> simp [sg] <;> rw [Int.ofNat_sub hle] <;> simp <;> grind
theorem add_lt {a b:Rat} (h:decide (a.num<0)≠decide (b.num<0)) (hle:a.num.natAbs * b.den≤b.num.natAbs * a.den):rv (decide (b.num<0)) (b.num.natAbs * a.den - a.num.natAbs * b.den) (a.den * b.den)=a + b:=by
  have:=add_ge (a:=b) (b:=a) (fun e=>h e.symm) hle
  rw [Nat.mul_comm a.den,Rat.add_comm]; exact this
theorem mul_num (a b:Rat):rv (!(decide (a.num<0) == decide (b.num<0))) (a.num.natAbs * b.num.natAbs) (a.den * b.den)=a * b:=by
  conv=>rhs; rw [← Rat.mkRat_self a,← Rat.mkRat_self b,Rat.mkRat_mul_mkRat]
  unfold rv
  congr 1
  conv=>rhs; rw [← sg_self a.num,← sg_self b.num]
  cases decide (a.num<0) <;> cases decide (b.num<0) <;> simp [sg,Int.neg_mul,Int.mul_neg,Int.neg_neg]
theorem inv_num {b:Rat} (h:b≠0):rv (decide (b.num<0)) b.den b.num.natAbs=b⁻¹:=by
  rw [Rat.inv_def]
  unfold rv
  have hn:b.num≠0:=fun h0=>h (Rat.num_eq_zero.1 h0)
  by_cases hs:b.num<0
  · have e:b.num=-(b.num.natAbs:Int):=by omega
    conv=>rhs; rw [e]
    rw [Rat.divInt_neg',Rat.divInt_ofNat]
    simp [sg,hs]
  have e:b.num=(b.num.natAbs:Int):=by omega
  conv=>rhs; rw [e]
  rw [Rat.divInt_ofNat]
  simp [sg,hs]
theorem neg_sign (q:Rat):decide ((-q).num<0)=(!decide (q.num<0) && decide (q.num.natAbs≠0)):=by
  rw [Rat.neg_num]
  by_cases h1:q.num<0
  · simp [h1]; omega
  by_cases h2:q.num=0
  · simp [h2]
  simp [h1,h2]; omega
theorem rv_len1 {s:Bool} {xs ys:List Nat} {q:Rat} (hq:rv s (val xs) (val ys)=q) (hx:∀ x∈xs,x<4294967296):(toL q.num.natAbs).length≤xs.length:=by
  refine Nat.le_trans (toL_len_mono ?_) (toL_length_val xs hx)
  subst hq
  by_cases h:val ys=0
  · rw [h,rv_d0]; simp
  rw [rv_num h,sg_abs]; exact Nat.div_le_self _ _
theorem toL_1:(toL 1).length=1:=by rw [toL_pos (by decide)]; simp [toL_zero]
theorem rv_len2 {s:Bool} {xs ys:List Nat} {q:Rat} (hq:rv s (val xs) (val ys)=q) (hy:∀ x∈ys,x<4294967296):(toL q.den).length≤ys.length + 1:=by
  subst hq
  by_cases h:val ys=0
  · rw [h,rv_d0]; rw [show (0:Rat).den=1 from rfl,toL_1]; omega
  rw [rv_den h]
  exact Nat.le_succ_of_le (Nat.le_trans (toL_len_mono (Nat.div_le_self _ _)) (toL_length_val ys hy))
theorem RN.neg {M:List Nat} {w:World} {vn vd:Value} {q:Rat} (h1:U32 M w vn (toL q.num.natAbs)) (h2:U32 M w vd (toL q.den)):RN M w (.agg #[.bool (!decide (q.num<0) && decide (q.num.natAbs≠0)),vn,vd]) (-q) :=
  RN.mk (by rw [neg_sign]) (by rw [Rat.neg_num,Int.natAbs_neg]; exact h1) (by rw [Rat.neg_den]; exact h2)
theorem RN.int {M:List Nat} {w:World} {vn vd:Value} {n:Int} (h1:U32 M w vn (toL n.natAbs)) (h2:U32 M w vd (toL 1)):RN M w (.agg #[.bool (decide (n<0)),vn,vd]) (n:Rat) :=
  RN.mk (by rw [Rat.num_intCast]) (by rw [Rat.num_intCast]; exact h1) (by rw [Rat.den_intCast]; exact h2)
theorem num_zero_iff (q:Rat):q.num.natAbs=0↔q=0:=by rw [Int.natAbs_eq_zero,Rat.num_eq_zero]
def cmpQ (a b:Rat):Int:=if a<b then -1 else if a=b then 0 else 1
def largeB (q:Rat):Bool:=decide (16<(toL q.num.natAbs).length) || decide (16<(toL q.den).length)
def isN (s:Bool) (xs ys:List Nat):Bool:=(s == decide ((rv s (val xs) (val ys)).num<0)) && (decide (xs=toL (rv s (val xs) (val ys)).num.natAbs) && decide (ys=toL (rv s (val xs) (val ys)).den))
theorem isN_iff {s : Bool} {xs ys : List Nat} (hx : ∀ x ∈ xs, x < 4294967296) (hy : ∀ y ∈ ys, y < 4294967296) :
    isN s xs ys=true↔trimmedB xs=true∧trimmedB ys=true∧ys.length≠0∧¬ (s=true∧xs.length=0)∧Nat.gcd (val xs) (val ys)=1:=by
  unfold isN
  simp only [Bool.and_eq_true,beq_iff_eq,decide_eq_true_eq]
  constructor
  · rintro ⟨h1,h2,h3⟩
    generalize rv s (val xs) (val ys)=q at *
    subst h2; subst h3
    refine ⟨trimmed_toL _,trimmed_toL _,fun h=>?_,?_,?_⟩
    · exact q.den_nz (toL_nil.1 (List.eq_nil_of_length_eq_zero h))
    · rintro ⟨h4,h5⟩
      have h6:=toL_nil.1 (List.eq_nil_of_length_eq_zero h5)
      rw [h4] at h1
      have:q.num<0:=by simpa using h1.symm
      omega
    rw [val_toL,val_toL]; exact q.reduced
  rintro ⟨h1,h2,h3,h4,h5⟩
  have ex:=toL_val xs hx h1;have ey:=toL_val ys hy h2
  have hd:val ys≠0:=fun h0=>h3 (by rw [← ey,h0,toL_zero]; rfl)
  rw [rv_num hd,rv_den hd,h5,Nat.div_one,Nat.div_one,sg_abs]
  refine ⟨?_,ex.symm,ey.symm⟩
  by_cases hn:val xs=0
  · rw [hn,sg_zero]
    cases s with
    | false=>rfl
    | true=>exact absurd ⟨rfl,by rw [← ex,hn,toL_zero]; rfl⟩ h4
  exact (sg_neg hn).symm
theorem isN_true {s:Bool} {xs ys:List Nat} (hx:∀ x∈xs,x<4294967296) (hy:∀ y∈ys,y<4294967296) (h1:trimmedB xs=true) (h2:trimmedB ys=true) (h3:ys.length≠0) (h4:¬ (s=true∧xs.length=0)):isN s xs ys=decide (Nat.gcd (val xs) (val ys)=1):=by
  rw [Bool.eq_iff_iff,isN_iff hx hy]
  simp [h1,h2,h3]
  intro _ hs hx0; exact h4 ⟨hs,by simp [hx0]⟩
theorem isN_false {s:Bool} {xs ys:List Nat} (hx:∀ x∈xs,x<4294967296) (hy:∀ y∈ys,y<4294967296) (h:trimmedB xs=false∨trimmedB ys=false∨ys.length=0∨(s=true∧xs.length=0)):isN s xs ys=false:=by
  rw [Bool.eq_false_iff]
  intro h1
  obtain ⟨a,b,c,d,_⟩:=(isN_iff hx hy).1 h1
  rcases h with h | h | h | h
  · rw [h] at a; cases a
  · rw [h] at b; cases b
  · exact c h
  exact d h
theorem cmpI_one (n:Nat):decide (cmpI n 1=0)=decide (n=1):=by
  unfold cmpI
  by_cases h:n<1
  · simp [h]; omega
  by_cases h2:n=1 <;> simp [h,h2]
theorem toL_lit1:toL 1=[1]:=by rw [toL_pos (by decide)]; simp [toL_zero]
theorem rv_one (s:Bool) (m:Nat):rv s m 1=((sg s m:Int):Rat):=by unfold rv; exact Rat.mkRat_one _
theorem rv_int (n:Int):rv (decide (n<0)) n.natAbs 1=(n:Rat):=by rw [rv_one,sg_self]
theorem sg_mul (s t:Bool) (n m:Nat):sg s n * sg t m=sg (!(s == t)) (n * m):=by
  cases s <;> cases t <;> simp [sg,Int.neg_mul,Int.mul_neg]
theorem rv_mul (s t:Bool) (n m d e:Nat):rv s n d * rv t m e=rv (!(s == t)) (n * m) (d * e):=by
  unfold rv; rw [Rat.mkRat_mul_mkRat,sg_mul]
theorem div_num {a b:Rat} (h:b≠0):rv (!(decide (a.num<0) == decide (b.num<0))) (a.num.natAbs * b.den) (a.den * b.num.natAbs)=a / b:=by
  rw [Rat.div_def,← inv_num h]
  conv=>rhs; rw [← rv_self a]
  rw [rv_mul]
theorem mkRat_num_le (z:Int) (d:Nat):(mkRat z d).num.natAbs≤z.natAbs:=by
  by_cases h:d=0
  · subst h; simp
  rw [Rat.mkRat_def,dif_neg h,Rat.normalize_eq h]
  show (z / ((z.natAbs.gcd d:Nat):Int)).natAbs≤z.natAbs
  rw [Int.natAbs_ediv_of_dvd (Int.ofNat_dvd_left.2 (Nat.gcd_dvd_left _ _))]
  exact Nat.div_le_self _ _
theorem mkRat_den_le (z:Int) {d:Nat} (h:d≠0):(mkRat z d).den≤d:=by
  rw [Rat.mkRat_def,dif_neg h,Rat.normalize_eq h]
  exact Nat.div_le_self _ _
def Fit (q:Rat) (c:Nat):Prop:=(toL q.num.natAbs).length≤c∧(toL q.den).length≤c
theorem Fit.add {a b:Rat} {c d:Nat} (h1:Fit a c) (h2:Fit b d):Fit (a + b) (c + d + 1):=by
  obtain ⟨a1,a2⟩:=h1;obtain ⟨b1,b2⟩:=h2;have m1:=toL_len_mul a1 b2;have m2:=toL_len_mul b1 a2;have m3:=toL_len_mul a2 b2
  rw [add_num]
  constructor
  · refine Nat.le_trans (toL_len_mono (mkRat_num_le _ _)) (Nat.le_trans (toL_len_mono (Int.natAbs_add_le _ _)) ?_)
    rw [Int.natAbs_mul,Int.natAbs_mul,Int.natAbs_natCast,Int.natAbs_natCast]
    exact toL_len_add m1 (Nat.le_trans m2 (by omega))
  exact Nat.le_trans (toL_len_mono (mkRat_den_le _ (Nat.mul_ne_zero a.den_nz b.den_nz))) (by omega)
theorem Fit.mul {a b:Rat} {c d:Nat} (h1:Fit a c) (h2:Fit b d):Fit (a * b) (c + d):=by
  obtain ⟨a1,a2⟩:=h1;obtain ⟨b1,b2⟩:=h2;have m1:=toL_len_mul a1 b1;have m3:=toL_len_mul a2 b2
  rw [← mul_num]
  unfold rv
  constructor
  · refine Nat.le_trans (toL_len_mono (mkRat_num_le _ _)) ?_
    rw [sg_abs]; exact m1
  exact Nat.le_trans (toL_len_mono (mkRat_den_le _ (Nat.mul_ne_zero a.den_nz b.den_nz))) m3
theorem Fit.neg {a:Rat} {c:Nat} (h1:Fit a c):Fit (-a) c:=by
  unfold Fit; rw [Rat.neg_num,Int.natAbs_neg,Rat.neg_den]; exact h1
theorem Fit.mono {a:Rat} {c d:Nat} (h1:Fit a c) (h:c≤d):Fit a d:=⟨Nat.le_trans h1.1 h,Nat.le_trans h1.2 h⟩
theorem Fit.rv {s:Bool} {xs ys:List Nat} {q:Rat} {c:Nat} (hq:rv s (val xs) (val ys)=q) (hx:∀ x∈xs,x<4294967296) (hy:∀ x∈ys,x<4294967296) (h1:xs.length≤c) (h2:ys.length≤c):Fit q (c + 1) :=
  ⟨Nat.le_trans (rv_len1 hq hx) (by omega),Nat.le_trans (rv_len2 hq hy) (by omega)⟩
theorem toL_small {n:Nat} (h0:n≠0) (h:n<4294967296):toL n=[n]:=by
  rw [toL_pos h0,Nat.mod_eq_of_lt h,Nat.div_eq_of_lt h,toL_zero]
end Go.Proofs.YthoooolflmbmbaaGreat
