/- Plain numbers: what the document's answer to chapter 1 does. Nothing of a program in sight. -/
import Derived.Test.YtedokfpoajfflaaGreatNum2
namespace Go.Proofs.YtedokfpoajfflaaGreat
set_option linter.unusedVariables false
theorem take_trim0 {xs:List Nat} (hv:val (xs.take 0)=val xs):xs.take 0=toL (val xs):=by rw [← hv]; simp [val,toL_zero]
theorem take_trim {xs:List Nat} {m:Nat} (hx:∀ x∈xs,x<4294967296) (h0:0<m) (hm:m≤xs.length) (hv:val (xs.take m)=val xs) (hl:xs[m - 1]≠0):xs.take m=toL (val xs):=by
  have h1:=toL_val (xs.take m) (fun x h=>hx x (List.mem_of_mem_take h)) (by
    unfold trimmedB
    rw [List.getLast?_eq_getElem?,List.length_take,Nat.min_eq_left hm,List.getElem?_take,if_pos (by omega),List.getElem?_eq_getElem (by omega)]
    simpa using hl)
  rw [hv] at h1; exact h1.symm
theorem val_snoc (xs:List Nat) (x:Nat):val (xs ++ [x])=val xs + 4294967296 ^ xs.length * x:=by rw [val_append]; simp [val]
theorem snoc_lt {xs:List Nat} {x:Nat} (h:∀ x∈xs,x<4294967296) (hx:x<4294967296):∀ y∈xs ++ [x],y<4294967296:=fun y hy=>by
  rcases List.mem_append.1 hy with h1 | h1
  · exact h y h1
  rw [List.mem_singleton.1 h1]; exact hx
theorem getD_lt {xs:List Nat} (h:∀ x∈xs,x<4294967296) (k:Nat):xs.getD k 0<4294967296:=by
  rcases Nat.lt_or_ge k xs.length with h1 | h1
  · simp only [List.getD_eq_getElem?_getD,List.getElem?_eq_getElem h1,Option.getD_some]; exact h _ (List.getElem_mem h1)
  simp [h1]
theorem getD_of_lt {xs:List Nat} {k:Nat} (h:k<xs.length):xs.getD k 0=xs[k]:=by simp [h]
theorem getD_of_ge {xs:List Nat} {k:Nat} (h:xs.length≤k):xs.getD k 0=0:=by simp [List.getD_eq_getElem?_getD,List.getElem?_eq_none h]
theorem val_take_eq {xs:List Nat} {k:Nat} (h:val xs<4294967296 ^ k):val (xs.take k)=val xs:=val_take_lt h
theorem to_step {xs:List Nat} {m:Nat} (h0:0<m) (hm:m≤xs.length):val (xs.drop (m - 1))=val (xs.drop m) * 4294967296 + xs[m - 1]:=by
  rw [val_drop_step (by omega),Nat.sub_add_cancel h0,Nat.mul_comm,Nat.add_comm]
theorem drop_small {xs:List Nat} (hx:∀ x∈xs,x<4294967296) {m:Nat} (hm:xs.length≤m + 1):val (xs.drop m)<4294967296:=by
  have h1:=val_lt (xs.drop m) (fun x h=>hx x (List.mem_of_mem_drop h));have h2:=Nat.pow_le_pow_right (show 0<4294967296 by decide) (show (xs.drop m).length≤1 by rw [List.length_drop]; omega)
  omega
theorem val_lt64 {n:Nat} (h:(toL n).length≤2):n<18446744073709551616:=by
  have h1:=val_lt (toL n) (toL_lt n)
  rw [val_toL] at h1
  have h2:=Nat.pow_le_pow_right (show 0<4294967296 by decide) h
  omega
theorem r1mul_end {Pi Pk S S0 X D a cy:Nat} (hinv:S + Pi * Pk * cy=S0 + Pi * (a * D)) (h0:S0=X * D) (hc:cy=0):S=(X + Pi * a) * D:=by subst hc; grind
theorem r1mul_brk {xs ys : List Nat} {i k S S0 cy : Nat} (hx : ∀ x ∈ xs, x < 4294967296) (hy : ∀ y ∈ ys, y < 4294967296) (hi : i < xs.length) (hk : i + 1 + ys.length ≤ i + k)
    (hinv:S + 4294967296 ^ i * 4294967296 ^ k * cy=S0 + 4294967296 ^ i * (xs[i] * val ys)) (h0:S0=val (xs.take i) * val ys):cy=0:=by
  have h1:=val_take_lt_pow hx (show i + 1≤xs.length by omega);have h2:=val_lt ys hy
  have h3:S0 + 4294967296 ^ i * (xs[i] * val ys)=val (xs.take (i + 1)) * val ys:=by rw [val_take_succ hi,h0]; grind
  have h4:val (xs.take (i + 1)) * val ys<4294967296 ^ (i + 1) * 4294967296 ^ ys.length:=Nat.mul_lt_mul'' h1 h2
  rw [← Nat.pow_add] at h4
  have h5:=Nat.pow_le_pow_right (show 0<4294967296 by decide) hk
  rw [Nat.pow_add 4294967296 i k] at h5
  rcases Nat.eq_zero_or_pos cy with h6 | h6
  · exact h6
  exfalso
  have:=Nat.mul_le_mul_left (4294967296 ^ i * 4294967296 ^ k) h6
  omega
theorem shl1_step {S lo P V t B x hi:Nat} (h:S + P * lo=2 * V) (hx:x + B * hi=2 * t + lo):S + P * x + B * P * hi=2 * (V + P * t):=by grind
theorem two_val {xs:List Nat} (hx:∀ x∈xs,x<4294967296):2 * val xs<4294967296 ^ (xs.length + 1):=by
  have:=val_lt xs hx
  rw [pow_LB_succ]; omega
theorem carry0 {S lo V P:Nat} (h:S + P * lo=V) (hV:V<P):lo=0:=by
  rcases Nat.eq_zero_or_pos lo with h6 | h6
  · exact h6
  have:=Nat.mul_le_mul_left P h6
  omega
theorem pow32 (j:Nat):4294967296 ^ j=2 ^ (32 * j):=by rw [Nat.pow_mul]
theorem split_bit {xs:List Nat} (hx:∀ x∈xs,x<4294967296) {j:Nat} (hj:j<xs.length):val xs / 4294967296 ^ j=xs[j] + 4294967296 * val (xs.drop (j + 1)):=by
  have h1:=val_take_drop xs j
  rw [Nat.min_eq_left (by omega),val_drop_step hj] at h1
  rw [h1,Nat.add_mul_div_left _ _ (pow_LB_pos j),Nat.div_eq_of_lt (val_take_lt_pow hx (by omega)),Nat.zero_add]
theorem bit_val {xs:List Nat} (hx:∀ x∈xs,x<4294967296) {i:Nat} (hj:i / 32<xs.length):xs[i / 32] / 2 ^ (i % 32) % 2=val xs / 2 ^ i % 2:=by
  have h1:=split_bit hx hj
  have e:2 ^ i=4294967296 ^ (i / 32) * 2 ^ (i % 32):=by rw [pow32,← Nat.pow_add]; congr 1; omega
  have hp:0<2 ^ (i % 32):=Nat.pow_pos (by decide)
  have e2:(4294967296:Nat)=2 ^ (i % 32) * (2 * 2 ^ (31 - i % 32)):=by
    rw [← Nat.mul_assoc,← Nat.pow_succ,← Nat.pow_add]
    have:(i % 32).succ + (31 - i % 32)=32:=by omega
    rw [this]
  rw [e,← Nat.div_div_eq_div_mul,h1]
  have e3:4294967296 * val (xs.drop (i / 32 + 1))=2 ^ (i % 32) * (2 * (2 ^ (31 - i % 32) * val (xs.drop (i / 32 + 1)))):=by
    conv=>lhs; rw [e2]
    grind
  rw [e3,Nat.add_mul_div_left _ _ hp,Nat.add_mul_mod_self_left]
theorem half_step (A i:Nat):A / 2 ^ i=2 * (A / 2 ^ (i + 1)) + A / 2 ^ i % 2:=by
  have h:A / 2 ^ (i + 1)=A / 2 ^ i / 2:=by rw [Nat.pow_succ,Nat.div_div_eq_div_mul]
  rw [h]; omega
theorem bit_ge {A b i:Nat} (hb:0<b) (h:b≤2 * (A / 2 ^ (i + 1) % b) + A / 2 ^ i % 2):A / 2 ^ i % b=2 * (A / 2 ^ (i + 1) % b) + A / 2 ^ i % 2 - b∧A / 2 ^ i / b=2 * (A / 2 ^ (i + 1) / b) + 1:=by
  have h1:=half_step A i;have h2:=Nat.div_add_mod (A / 2 ^ (i + 1)) b;have h3:=Nat.mod_lt (A / 2 ^ (i + 1)) hb
  have h4:A / 2 ^ i % 2<2:=Nat.mod_lt _ (by decide)
  generalize A / 2 ^ i % 2=t at *
  generalize A / 2 ^ (i + 1)=Am at *
  generalize Am % b=r at *
  generalize Am / b=q at *
  have h5:A / 2 ^ i=b * (2 * q + 1) + (2 * r + t - b):=by
    have e:b * (2 * q + 1)=2 * (b * q) + b:=by grind
    rw [h1,← h2,e]; omega
  rw [h5,Nat.mul_add_mod,Nat.mul_add_div hb,Nat.mod_eq_of_lt (by omega),Nat.div_eq_of_lt (by omega)]
  exact ⟨rfl,rfl⟩
theorem bit_lt {A b i:Nat} (hb:0<b) (h:2 * (A / 2 ^ (i + 1) % b) + A / 2 ^ i % 2<b):A / 2 ^ i % b=2 * (A / 2 ^ (i + 1) % b) + A / 2 ^ i % 2∧A / 2 ^ i / b=2 * (A / 2 ^ (i + 1) / b):=by
  have h1:=half_step A i;have h2:=Nat.div_add_mod (A / 2 ^ (i + 1)) b
  generalize A / 2 ^ i % 2=t at *
  generalize A / 2 ^ (i + 1)=Am at *
  generalize Am % b=r at *
  generalize Am / b=q at *
  have h5:A / 2 ^ i=b * (2 * q) + (2 * r + t):=by
    have e:b * (2 * q)=2 * (b * q):=by grind
    rw [h1,← h2,e]; omega
  rw [h5,Nat.mul_add_mod,Nat.mul_add_div hb,Nat.mod_eq_of_lt h,Nat.div_eq_of_lt h]
  exact ⟨rfl,rfl⟩
theorem bit_or {qs:List Nat} {i Q:Nat} (hx:∀ x∈qs,x<4294967296) (hj:i / 32<qs.length) (hv:val qs=Q * 2 ^ (i + 1)):qs[i / 32] ||| 2 ^ (i % 32)=qs[i / 32] + 2 ^ (i % 32)∧qs[i / 32] + 2 ^ (i % 32)<4294967296:=by
  have h1:=split_bit hx hj
  have e:2 ^ (i + 1)=2 ^ (i % 32 + 1) * 4294967296 ^ (i / 32):=by rw [pow32,← Nat.pow_add]; congr 1; omega
  rw [hv,e,← Nat.mul_assoc,Nat.mul_div_cancel _ (pow_LB_pos _)] at h1
  have e2:(4294967296:Nat)=2 ^ (31 - i % 32) * 2 ^ (i % 32 + 1):=by
    rw [← Nat.pow_add]
    have:31 - i % 32 + (i % 32 + 1)=32:=by omega
    rw [this]
  have hm:qs[i / 32] % 2 ^ (i % 32 + 1)=0:=by
    have h2:(qs[i / 32] + 4294967296 * val (qs.drop (i / 32 + 1))) % 2 ^ (i % 32 + 1)=0:=by rw [← h1,Nat.mul_mod_left]
    have e3:4294967296 * val (qs.drop (i / 32 + 1))=2 ^ (i % 32 + 1) * (2 ^ (31 - i % 32) * val (qs.drop (i / 32 + 1))):=by
      conv=>lhs; rw [e2]
      grind
    rw [e3,Nat.add_mul_mod_self_left] at h2
    exact h2
  have hd:=Nat.div_add_mod qs[i / 32] (2 ^ (i % 32 + 1))
  rw [hm,Nat.add_zero,Nat.mul_comm] at hd
  have hlt:2 ^ (i % 32)<2 ^ (i % 32 + 1):=Nat.pow_lt_pow_right (by decide) (by omega)
  have h3:=or_add (a:=qs[i / 32] / 2 ^ (i % 32 + 1)) hlt
  rw [hd] at h3
  refine ⟨h3,?_⟩
  have hq:=hx _ (List.getElem_mem hj)
  rw [← h3]
  exact Nat.or_lt_two_pow (n:=32) hq (by exact Nat.pow_lt_pow_right (by decide) (by omega))
theorem bit_set {qs:List Nat} {i Q:Nat} (hj:i / 32<qs.length) (hv:val qs=Q * 2 ^ (i + 1)):val (qs.set (i / 32) (qs[i / 32] + 2 ^ (i % 32)))=(2 * Q + 1) * 2 ^ i:=by
  have h1:=val_set hj (qs[i / 32] + 2 ^ (i % 32))
  have e:2 ^ i=4294967296 ^ (i / 32) * 2 ^ (i % 32):=by rw [pow32,← Nat.pow_add]; congr 1; omega
  rw [Nat.mul_add,← e] at h1
  rw [hv,Nat.pow_succ] at h1
  have:(2 * Q + 1) * 2 ^ i=Q * (2 ^ i * 2) + 2 ^ i:=by grind
  omega
end Go.Proofs.YtedokfpoajfflaaGreat
