/- Plain numbers, continued: steps of the reckoning by limbs. Nothing of a program in sight. -/
import Derived.Test.YthoooolflmbmbaaGreatMath
namespace Go.Proofs.YthoooolflmbmbaaGreat
set_option linter.unusedVariables false
theorem pow_LB_succ (k:Nat):4294967296 ^ (k + 1)=4294967296 * 4294967296 ^ k:=by rw [Nat.pow_succ,Nat.mul_comm]
theorem pow_LB_pos (k:Nat):0<4294967296 ^ k:=Nat.pow_pos (by decide)
theorem val_take_succ {xs:List Nat} {k:Nat} (h:k<xs.length):val (xs.take (k + 1))=val (xs.take k) + 4294967296 ^ k * xs[k]:=by
  rw [List.take_succ_eq_append_getElem h,val_append,List.length_take]
  have:min k xs.length=k:=by omega
  rw [this]; simp [val]
theorem val_take_all {xs:List Nat} {k:Nat} (h:xs.length≤k):val (xs.take k)=val xs:=by rw [List.take_of_length_le h]
theorem val_set:∀ {xs:List Nat} {j:Nat} (h:j<xs.length) (u:Nat),val (xs.set j u) + 4294967296 ^ j * xs[j]=val xs + 4294967296 ^ j * u
  | x :: r,0,h,u=>by simp [val]; omega
  | x :: r,j + 1,h,u=>by
    have ih:=val_set (xs:=r) (j:=j) (by simpa using h) u
    simp only [List.set_cons_succ,val,List.getElem_cons_succ,pow_LB_succ]
    grind
theorem val_take_set {xs:List Nat} {k:Nat} (h:k<xs.length) (u:Nat):val ((xs.set k u).take (k + 1))=val (xs.take k) + 4294967296 ^ k * u:=by
  rw [val_take_succ (by simpa using h)]
  simp [List.take_set_of_le]
theorem val_drop_step {xs:List Nat} {k:Nat} (h:k<xs.length):val (xs.drop k)=xs[k] + 4294967296 * val (xs.drop (k + 1)):=by
  rw [List.drop_eq_getElem_cons h,val]
theorem val_lt_len {xs:List Nat} {n:Nat} (h:∀ x∈xs,x<4294967296) (hl:xs.length=n):val xs<4294967296 ^ n:=hl ▸ val_lt xs h
theorem set_lt {xs:List Nat} (h:∀ x∈xs,x<4294967296) {j u:Nat} (hu:u<4294967296):∀ x∈xs.set j u,x<4294967296:=fun x hx=>by
  rcases List.mem_or_eq_of_mem_set hx with h1 | h1
  · exact h x h1
  omega
theorem rep_lt (n:Nat):∀ x∈List.replicate n 0,x<4294967296:=fun x hx=>by have:=(List.mem_replicate.1 hx).2; omega
theorem val_ge_getElem {xs:List Nat} {j:Nat} (h:j<xs.length):4294967296 ^ j * xs[j]≤val xs:=by
  have:=val_take_drop xs (j + 1)
  rw [val_take_succ h] at this
  omega
theorem zero_above {xs:List Nat} {k:Nat} (h:val xs<4294967296 ^ k) {j:Nat} (hj:j<xs.length) (hk:k≤j):xs[j]=0:=by
  have h1:=val_ge_getElem hj
  rcases Nat.eq_zero_or_pos xs[j] with h0 | h0
  · exact h0
  exfalso
  have h2:=Nat.pow_le_pow_right (show 0<4294967296 by decide) hk
  have h3:4294967296 ^ j * 1≤4294967296 ^ j * xs[j]:=Nat.mul_le_mul_left _ h0
  omega
theorem val_take_lt {xs:List Nat} {k:Nat} (h:val xs<4294967296 ^ k):val (xs.take k)=val xs:=by
  have h1:=val_take_drop xs k
  rcases Nat.le_total xs.length k with h2 | h2
  · exact val_take_all h2
  rw [Nat.min_eq_left h2] at h1
  have h3:val (xs.drop k)=0:=by
    rcases Nat.eq_zero_or_pos (val (xs.drop k)) with h0 | h0
    · exact h0
    exfalso
    have:4294967296 ^ k * 1≤4294967296 ^ k * val (xs.drop k):=Nat.mul_le_mul_left _ h0
    omega
  rw [h3] at h1; omega
def cmpI (a b:Nat):Int:=if a<b then -1 else if a=b then 0 else 1
theorem cmpI_lt {a b:Nat} (h:a<b):cmpI a b=-1:=by unfold cmpI; rw [if_pos h]
theorem cmpI_gt {a b:Nat} (h:b<a):cmpI a b=1:=by unfold cmpI; rw [if_neg (by omega),if_neg (by omega)]
theorem cmpI_eq {a b:Nat} (h:a=b):cmpI a b=0:=by unfold cmpI; rw [if_neg (by omega),if_pos h]
theorem val_take_succD (xs:List Nat) (k:Nat):val (xs.take (k + 1))=val (xs.take k) + 4294967296 ^ k * xs.getD k 0:=by
  rcases Nat.lt_or_ge k xs.length with h | h
  · rw [val_take_succ h]; simp [h]
  rw [List.take_of_length_le h,List.take_of_length_le (by omega)]; simp [h]
theorem val_two (n:Nat) (h:n<18446744073709551616):val [n % 4294967296,n / 4294967296 % 4294967296]=n:=by simp [val]; omega
theorem drop_step {xs ys:List Nat} {m:Nat} (h0:0<m) (h1:m≤xs.length) (h2:m≤ys.length) (hd:xs.drop m=ys.drop m) (he:xs[m - 1]=ys[m - 1]):xs.drop (m - 1)=ys.drop (m - 1):=by
  rw [List.drop_eq_getElem_cons (by omega),List.drop_eq_getElem_cons (l:=ys) (by omega),he]
  have:m - 1 + 1=m:=by omega
  rw [this,hd]
theorem toL_len_40 {xs:List Nat} (hx:∀ x∈xs,x<4294967296) {c:Nat} (h:xs.length≤c):(toL (val xs)).length≤c:=Nat.le_trans (toL_length_val xs hx) h
theorem toL_len_add {a b c:Nat} (h1:(toL a).length≤c) (h2:(toL b).length≤c):(toL (a + b)).length≤c + 1:=by
  have e1:=val_lt (toL a) (toL_lt a);have e2:=val_lt (toL b) (toL_lt b)
  rw [val_toL] at e1 e2
  have e3:=Nat.pow_le_pow_right (show 0<4294967296 by decide) h1;have e4:=Nat.pow_le_pow_right (show 0<4294967296 by decide) h2
  refine toL_length_le ?_
  rw [pow_LB_succ]; omega
theorem toL_len_mul {a b c d:Nat} (h1:(toL a).length≤c) (h2:(toL b).length≤d):(toL (a * b)).length≤c + d:=by
  have e1:=val_lt (toL a) (toL_lt a);have e2:=val_lt (toL b) (toL_lt b)
  rw [val_toL] at e1 e2
  have e3:=Nat.pow_le_pow_right (show 0<4294967296 by decide) h1;have e4:=Nat.pow_le_pow_right (show 0<4294967296 by decide) h2
  refine toL_length_le ?_
  rw [Nat.pow_add]
  exact Nat.mul_lt_mul'' (by omega) (by omega)
theorem toL_len_mono {a b:Nat} (h:a≤b):(toL a).length≤(toL b).length:=by
  refine toL_length_le (Nat.lt_of_le_of_lt h ?_)
  have:=val_lt (toL b) (toL_lt b)
  rwa [val_toL] at this
theorem lt_of_toL_len {a b:Nat} (h:(toL a).length<(toL b).length):a<b:=by
  rcases Nat.lt_or_ge a b with h1 | h1
  · exact h1
  have:=toL_len_mono h1; omega
theorem val_lt_of_top {xs ys:List Nat} {j:Nat} (hx:∀ x∈xs,x<4294967296) (h1:j<xs.length) (h2:j<ys.length) (hd:xs.drop (j + 1)=ys.drop (j + 1)) (hl:xs[j]<ys[j]):val xs<val ys:=by
  have a1:=val_take_drop xs (j + 1);have a2:=val_take_drop ys (j + 1)
  rw [val_take_succ h1,Nat.min_eq_left (by omega)] at a1
  rw [val_take_succ h2,Nat.min_eq_left (by omega),← hd] at a2
  have a3:=val_lt (xs.take j) (fun x hh=>hx x (List.mem_of_mem_take hh))
  rw [List.length_take,Nat.min_eq_left (by omega)] at a3
  have a4:4294967296 ^ j * (xs[j] + 1)≤4294967296 ^ j * ys[j]:=Nat.mul_le_mul_left _ hl
  rw [Nat.mul_add,Nat.mul_one] at a4
  omega
theorem add_step {P a b cy t s A:Nat} (h:s + P * cy=A) (ht:t=cy + a + b):s + P * (t % 4294967296) + P * 4294967296 * (t / 4294967296)=A + P * a + P * b:=by
  have:=Nat.mod_add_div t 4294967296
  grind
def subW (x y b:Nat):Nat:=(x + (4294967296 - (y + b) % 4294967296)) % 4294967296
def subB (x y b:Nat):Nat:=if x<y + b then 1 else 0
theorem subW_eq {x y b:Nat} (hx:x<4294967296) (hy:y<4294967296) (hb:b≤1):subW x y b + y + b=x + 4294967296 * subB x y b:=by
  unfold subW subB; split <;> omega
theorem subW_lt (x y b:Nat):subW x y b<4294967296:=Nat.mod_lt _ (by decide)
theorem subB_le (x y b:Nat):subB x y b≤1:=by unfold subB; split <;> omega
theorem bit31 {n:Nat} (h:n<4294967296):n / 2147483648=if n.testBit 31 then 1 else 0:=by
  rw [Nat.testBit_eq_decide_div_mod_eq]
  have e:(2:Nat) ^ 31=2147483648:=by decide
  rw [e]
  by_cases h1:n / 2147483648 % 2=1
  · simp [h1]; omega
  simp [h1]; omega
theorem testBit31 {n:Nat} (h:n<4294967296):n.testBit 31=decide (2147483648≤n):=by
  have h1:=bit31 h
  by_cases h2:n.testBit 31=true
  · rw [h2]; rw [if_pos h2] at h1; simp; omega
  rw [if_neg h2] at h1
  have:n.testBit 31=false:=by simpa using h2
  rw [this]; simp; omega
theorem sub_bits {x y b : Nat} (hx : x < 4294967296) (hy : y < 4294967296) (hb : b ≤ 1) :
    (((4294967295 - x) &&& y) ||| ((4294967295 - (x ^^^ y)) &&& subW x y b)) / 2147483648=subB x y b:=by
  have hd:=subW_lt x y b
  have hxy:x ^^^ y<4294967296:=Nat.xor_lt_two_pow (n:=32) hx hy
  have h1:(4294967295 - x) &&& y<2 ^ 32:=Nat.lt_of_le_of_lt Nat.and_le_right hy
  have h2:(4294967295 - (x ^^^ y)) &&& subW x y b<2 ^ 32:=Nat.lt_of_le_of_lt Nat.and_le_right hd
  rw [bit31 (Nat.or_lt_two_pow h1 h2)]
  have e1:(4294967295 - x).testBit 31=!x.testBit 31:=by
    rw [testBit31 (by omega),testBit31 hx,Bool.eq_iff_iff]; simp; omega
  have e2:(4294967295 - (x ^^^ y)).testBit 31=!(x.testBit 31 ^^ y.testBit 31):=by
    rw [← Nat.testBit_xor,testBit31 (by omega),testBit31 hxy,Bool.eq_iff_iff]; simp; omega
  simp only [Nat.testBit_or,Nat.testBit_and,e1,e2,testBit31 hx,testBit31 hy,testBit31 hd]
  have h3:=subW_eq hx hy hb;have h4:=subB_le x y b
  by_cases c1:2147483648≤x <;> by_cases c2:2147483648≤y <;> by_cases c3:2147483648≤subW x y b <;> simp [c1,c2,c3] <;> omega
theorem knuth {U V P N' D' N D q x : Nat} (hN : N = U * P + N') (hN' : N' < P) (hD : D = V * P + D') (hD' : D' < P) (hV : 4294967296 ≤ V)
    (hq1:q * D≤N) (hq2:N<(q + 1) * D) (hqB:q<4294967296) (hx:x<4294967296) (hx2:x * V≤U) (hx3:4294967296≤x + 1∨U<(x + 1) * V):q≤x∧x≤q + 1:=by
  constructor
  · refine Nat.le_of_not_lt fun hlt=>?_
    rcases hx3 with h | h
    · omega
    have h1:(x + 1) * V≤q * V:=Nat.mul_le_mul_right _ hlt
    have h2:q * V * P≤q * D:=by rw [hD,Nat.mul_add,Nat.mul_assoc]; omega
    have h3:(U + 1) * P≤q * V * P:=Nat.mul_le_mul_right _ (by omega)
    rw [Nat.add_mul,Nat.one_mul] at h3
    omega
  refine Nat.le_of_not_lt fun hlt=>?_
  obtain ⟨y,rfl⟩:∃ y,x=y + 1:=⟨x - 1,by omega⟩
  have h1:(q + 1) * D≤y * D:=Nat.mul_le_mul_right _ (by omega)
  have h2:(y + 1) * V * P≤U * P:=Nat.mul_le_mul_right _ hx2
  have h3:y * D=y * V * P + y * D':=by rw [hD,Nat.mul_add,Nat.mul_assoc]
  have h4:(y + 1) * V * P=y * V * P + V * P:=by rw [Nat.add_mul,Nat.one_mul,Nat.add_mul]
  have h5:y * D'≤y * P:=Nat.mul_le_mul_left _ (by omega)
  have h6:(y + 1) * P≤V * P:=Nat.mul_le_mul_right _ (by omega)
  rw [Nat.add_mul,Nat.one_mul] at h6
  omega
theorem cmpI_lt0 (a b:Nat):decide (cmpI a b<0)=decide (a<b):=by
  unfold cmpI
  by_cases h:a<b
  · simp [h]
  by_cases h2:a=b <;> simp [h,h2]
theorem cmpI_ge0 (a b:Nat):decide (0≤cmpI a b)=decide (b≤a):=by
  unfold cmpI
  by_cases h:a<b
  · simp [h]
  by_cases h2:a=b
  · subst h2; simp
  rw [if_neg h,if_neg h2]; simp; omega
theorem sub_step {P A C D x y w b b':Nat} (h:A + P * b=C + D) (hw:w + y + b=x + 4294967296 * b'):A + P * x + 4294967296 * P * b'=C + P * w + (D + P * y):=by grind
theorem sub_end {P A C D b:Nat} (h:A + P * b=C + D) (hb:b≤1) (hC:C<P) (hge:D≤A):C=A - D:=by
  rcases Nat.eq_zero_or_pos b with h0 | h0
  · subst h0; omega
  obtain rfl:b=1:=by omega
  omega
theorem mul_step {Pi Pk S S' S0 V a b c cy t B : Nat} (hset : S' + Pi * Pk * c = S + Pi * Pk * (t % B)) (hinv : S + Pi * Pk * cy = S0 + Pi * (a * V)) (ht : t = cy + (a * b + c)) :
    S' + B * (Pi * Pk) * (t / B)=S0 + Pi * (a * (V + Pk * b)):=by
  have h:=Nat.mod_add_div t B
  grind
theorem mul_end {Pi P S S' S0 X D a cy:Nat} (hset:S'=S + P * cy) (hinv:S + P * cy=S0 + Pi * (a * D)) (h0:S0=X * D):S'=(X + Pi * a) * D:=by grind
theorem limb_mul {a b:Nat} (ha:a<4294967296) (hb:b<4294967296):a * b≤18446744065119617025:=Nat.mul_le_mul (show a≤4294967295 by omega) (show b≤4294967295 by omega)
theorem val_drop_set {xs:List Nat} {k:Nat} (h:k<xs.length) (u:Nat):val ((xs.set k u).drop k)=u + 4294967296 * val (xs.drop (k + 1)):=by
  rw [val_drop_step (by simpa using h)]
  simp [List.drop_set_of_lt]
theorem small_step {b Q r x B N X:Nat} (h:X=b * Q + r) (hN:N=r * B + x):x + B * X=b * (N / b + B * Q) + N % b:=by
  have:=Nat.mod_add_div N b
  grind
theorem or_add {a b k:Nat} (h:b<2 ^ k):a * 2 ^ k ||| b=a * 2 ^ k + b:=by
  rw [← Nat.shiftLeft_eq]; exact (Nat.shiftLeft_add_eq_or_of_lt h a).symm
theorem or32 {a b:Nat} (h:b<4294967296):a * 4294967296 ||| b=a * 4294967296 + b:=or_add (k:=32) h
theorem or_low {c v s:Nat} (hc:c<2 ^ s) (hs:s<32):c ||| (v * 2 ^ s % 4294967296)=c + v * 2 ^ s % 4294967296:=by
  have e:(4294967296:Nat)=2 ^ (32 - s) * 2 ^ s:=by rw [← Nat.pow_add,Nat.sub_add_cancel (by omega)]
  rw [e,Nat.mul_mod_mul_right,Nat.or_comm,or_add hc,Nat.add_comm]
theorem shl_lt {v s:Nat} (hv:v<4294967296) (hs:s<32):v * 2 ^ s≤9223372034707292160:=by
  have h1:2 ^ s≤2 ^ 31:=Nat.pow_le_pow_right (by decide) (by omega)
  have:=Nat.mul_le_mul (show v≤4294967295 by omega) h1
  omega
theorem val_take_lt_pow {xs:List Nat} (hx:∀ x∈xs,x<4294967296) {k:Nat} (hk:k≤xs.length):val (xs.take k)<4294967296 ^ k:=by
  have:=val_lt (xs.take k) (fun x h=>hx x (List.mem_of_mem_take h))
  rwa [List.length_take,Nat.min_eq_left hk] at this
theorem left_lt {xs:List Nat} (hx:∀ x∈xs,x<4294967296) {i s:Nat} (hi:i≤xs.length):val (xs.take i) * 2 ^ s<4294967296 ^ i * 2 ^ s:=Nat.mul_lt_mul_of_pos_right (val_take_lt_pow hx hi) (Nat.pow_pos (by decide))
theorem pow32_le {s:Nat} (hs:s<32):2 ^ s<4294967296:=by
  have:2 ^ s≤2 ^ 31:=Nat.pow_le_pow_right (by decide) (by omega)
  omega
theorem left_cell {xs cs : List Nat} (hx : ∀ x ∈ xs, x < 4294967296) {i s n : Nat} (hs : s < 32) (hi : i ≤ xs.length) (hn : i < n) (hv : val cs = val (xs.take i) * 2 ^ s % 4294967296 ^ n) :
    val cs=val (xs.take i) * 2 ^ s∧val cs<4294967296 ^ i * 2 ^ s∧val cs<4294967296 ^ (i + 1):=by
  have h1:=left_lt (s:=s) hx hi
  have h2:4294967296 ^ i * 2 ^ s≤4294967296 ^ (i + 1):=by rw [Nat.pow_succ]; exact Nat.mul_le_mul_left _ (Nat.le_of_lt (pow32_le hs))
  have h3:=Nat.pow_le_pow_right (show 0<4294967296 by decide) (show i + 1≤n from hn)
  have h4:val cs=val (xs.take i) * 2 ^ s:=by rw [hv]; exact Nat.mod_eq_of_lt (by omega)
  exact ⟨h4,by omega,by omega⟩
theorem cell_lt_pow {cs:List Nat} {i s:Nat} (h:val cs<4294967296 ^ i * 2 ^ s) (hi:i<cs.length):cs[i]<2 ^ s:=by
  have h1:=val_ge_getElem hi
  exact Nat.lt_of_mul_lt_mul_left (a:=4294967296 ^ i) (by omega)
theorem left_step2 {P S S' S0 v p lo hi B c1:Nat} (h1:S'=S + P * lo) (h2:S0=S' + B * P * hi) (hw:lo + B * hi=v * p) (hS:S=c1 * p):S0=(c1 + P * v) * p:=by grind
theorem left_last {P S S' v p lo hi B c1:Nat} (h1:S'=S + P * lo) (hw:lo + B * hi=v * p) (hS:S=c1 * p) (hlt:S'<B * P):S'=(c1 + P * v) * p % (B * P):=by
  have:(c1 + P * v) * p=S' + B * P * hi:=by grind
  rw [this,Nat.add_mul_mod_self_left,Nat.mod_eq_of_lt hlt]
theorem guess_first {u b1 b2 u0 B:Nat} (h0:u0<B) (hb:0<b1):u * B + u0<(u / b1 + 1) * (b1 * B + b2):=by
  have h1:u<(u / b1 + 1) * b1:=by have:=Nat.lt_div_mul_add hb (a:=u); rw [Nat.add_mul,Nat.one_mul]; exact this
  have h2:(u + 1) * B≤(u / b1 + 1) * b1 * B:=Nat.mul_le_mul_right _ h1
  have h3:(u / b1 + 1) * (b1 * B + b2)=(u / b1 + 1) * b1 * B + (u / b1 + 1) * b2:=by rw [Nat.mul_add,Nat.mul_assoc]
  rw [Nat.add_mul,Nat.one_mul] at h2
  omega
theorem guess_ok {q r u b1 b2 u0 B:Nat} (h:q * b1 + r=u) (hle:q * b2≤r * B + u0):q * (b1 * B + b2)≤u * B + u0:=by
  subst h
  have:(q * b1 + r) * B + u0=q * b1 * B + (r * B + u0):=by grind
  have h2:q * (b1 * B + b2)=q * b1 * B + q * b2:=by grind
  omega
theorem guess_down {q r u b1 b2 u0 B:Nat} (h:q * b1 + r=u) (hle:r * B + u0<q * b2):u * B + u0<q * (b1 * B + b2):=by
  subst h
  have:(q * b1 + r) * B + u0=q * b1 * B + (r * B + u0):=by grind
  have h2:q * (b1 * B + b2)=q * b1 * B + q * b2:=by grind
  omega
theorem guess_brk {q r u2 u1 b1 b2 u0 : Nat} (h : q * b1 + r = u2 * 4294967296 + u1) (h1 : u1 < 4294967296) (hr : 4294967296 ≤ r) (E2 : b2 < 4294967296) (hu : u2 ≤ b1) :
    q<4294967296∧q * (b1 * 4294967296 + b2)≤(u2 * 4294967296 + u1) * 4294967296 + u0:=by
  have hq:q<4294967296:=by
    refine Nat.lt_of_not_le fun hge=>?_
    have:4294967296 * u2≤q * b1:=Nat.mul_le_mul hge hu
    omega
  refine ⟨hq,guess_ok h ?_⟩
  have:=limb_mul hq E2
  omega
theorem guess_le {u2 u1 b1:Nat} (h1:u1<4294967296) (hu:u2≤b1) (hb:2147483648≤b1):(u2 * 4294967296 + u1) / b1≤4294967297:=by
  have:(u2 * 4294967296 + u1) / b1<4294967298:=by rw [Nat.div_lt_iff_lt_mul (by omega)]; omega
  omega
end Go.Proofs.YthoooolflmbmbaaGreat
