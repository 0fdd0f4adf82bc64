/- Plain numbers: limbs. Nothing of a program in sight. -/
namespace Go.Proofs.YthoooolflmbmbaaGreat
set_option linter.unusedVariables false
abbrev LB:Nat:=4294967296
def val:List Nat→Nat
  | []=>0
  | x :: r=>x + 4294967296 * val r
def toL (n:Nat):List Nat:=if h:n=0 then [] else (n % 4294967296) :: toL (n / 4294967296)
termination_by n
decreasing_by exact Nat.div_lt_self (Nat.pos_of_ne_zero h) (by decide)
theorem toL_zero:toL 0=[]:=by rw [toL]; simp
theorem toL_pos {n:Nat} (h:n≠0):toL n=(n % 4294967296) :: toL (n / 4294967296):=by rw [toL]; simp [h]
theorem val_toL (n:Nat):val (toL n)=n:=by
  induction n using Nat.strongRecOn with
  | _ n ih =>
    by_cases h:n=0
    · subst h; simp [toL_zero,val]
    rw [toL_pos h,val,ih _ (Nat.div_lt_self (Nat.pos_of_ne_zero h) (by decide))]
    exact Nat.mod_add_div n 4294967296
theorem toL_lt (n:Nat):∀ x∈toL n,x<4294967296:=by
  induction n using Nat.strongRecOn with
  | _ n ih =>
    by_cases h:n=0
    · subst h; simp [toL_zero]
    rw [toL_pos h]
    intro x hx
    rcases List.mem_cons.1 hx with rfl | hx
    · exact Nat.mod_lt _ (by decide)
    exact ih _ (Nat.div_lt_self (Nat.pos_of_ne_zero h) (by decide)) x hx
theorem toL_nil {n:Nat}:toL n=[]↔n=0:=by
  by_cases h:n=0
  · subst h; simp [toL_zero]
  rw [toL_pos h]; simp [h]
theorem toL_inj {n m:Nat} (h:toL n=toL m):n=m:=by rw [← val_toL n,h,val_toL]
theorem val_append:∀ (xs ys:List Nat),val (xs ++ ys)=val xs + 4294967296 ^ xs.length * val ys
  | [],ys=>by simp [val]
  | x :: r,ys=>by
    simp only [List.cons_append,val,val_append r ys,List.length_cons,Nat.pow_succ,Nat.mul_add]
    rw [Nat.add_assoc,Nat.mul_comm (4294967296 ^ r.length) 4294967296,Nat.mul_assoc]
theorem val_lt:∀ (xs:List Nat),(∀ x∈xs,x<4294967296)→val xs<4294967296 ^ xs.length
  | [],_=>by simp [val]
  | x :: r,h=>by
    have h1:=val_lt r (fun y hy=>h y (by simp [hy]));have h2:=h x (by simp)
    simp only [val,List.length_cons,Nat.pow_succ]
    omega
theorem val_replicate (k:Nat):val (List.replicate k 0)=0:=by
  induction k with
  | zero=>rfl
  | succ k ih=>simp [List.replicate_succ,val,ih]
def trimmedB (xs:List Nat):Bool:=xs.getLast? != some 0
theorem trimmed_toL (n:Nat):trimmedB (toL n)=true:=by
  induction n using Nat.strongRecOn with
  | _ n ih =>
    by_cases h:n=0
    · subst h; simp [toL_zero,trimmedB]
    rw [toL_pos h]
    have h1:=ih (n / 4294967296) (Nat.div_lt_self (Nat.pos_of_ne_zero h) (by decide))
    unfold trimmedB at *
    by_cases h2:n / 4294967296=0
    · rw [h2,toL_zero]
      simp
      omega
    rw [List.getLast?_cons_of_ne_nil (fun hh=>h2 (toL_nil.1 hh))]
    exact h1
theorem toL_val:∀ (xs:List Nat),(∀ x∈xs,x<4294967296)→trimmedB xs=true→toL (val xs)=xs
  | [],_,_=>by simp [val,toL_zero]
  | x :: r,h,ht=>by
    have hx:=h x (by simp)
    have hr:trimmedB r=true:=by
      cases r with
      | nil=>rfl
      | cons y s=>unfold trimmedB at *; rw [List.getLast?_cons_of_ne_nil (by simp)] at ht; exact ht
    have ih:=toL_val r (fun y hy=>h y (by simp [hy])) hr
    have hne:val (x :: r)≠0:=by
      simp only [val]
      intro h0
      have h1:x=0:=by omega
      have h2:val r=0:=by omega
      rw [h2,toL_zero] at ih
      subst ih; subst h1
      simp [trimmedB] at ht
    rw [toL_pos hne]
    simp only [val]
    have e1:(x + 4294967296 * val r) % 4294967296=x:=by omega
    have e2:(x + 4294967296 * val r) / 4294967296=val r:=by omega
    rw [e1,e2,ih]
theorem toL_length_le {n k:Nat} (h:n<4294967296 ^ k):(toL n).length≤k:=by
  induction k generalizing n with
  | zero => have : n = 0 := by simpa using h
            subst this; simp [toL_zero]
  | succ k ih =>
    by_cases h0:n=0
    · subst h0; simp [toL_zero]
    rw [toL_pos h0,List.length_cons]
    have:n / 4294967296<4294967296 ^ k:=by
      rw [Nat.div_lt_iff_lt_mul (by decide)]
      rw [Nat.pow_succ] at h; exact h
    have:=ih this
    omega
theorem toL_length_gt {n k:Nat} (h:4294967296 ^ k≤n):k<(toL n).length:=by
  rcases Nat.lt_or_ge k (toL n).length with h1 | h1
  · exact h1
  exfalso
  have h2:=val_lt (toL n) (toL_lt n)
  rw [val_toL] at h2
  have:=Nat.pow_le_pow_right (show 0<4294967296 by decide) h1
  omega
theorem toL_length_val (xs:List Nat) (h:∀ x∈xs,x<4294967296):(toL (val xs)).length≤xs.length:=toL_length_le (val_lt xs h)
theorem val_take_drop (xs:List Nat) (k:Nat):val xs=val (xs.take k) + 4294967296 ^ (min k xs.length) * val (xs.drop k):=by
  have:=val_append (xs.take k) (xs.drop k)
  rw [List.take_append_drop,List.length_take] at this
  exact this
theorem val_take_zero {xs:List Nat} {m:Nat} (hm:m<xs.length) (h0:xs[m]=0) (h:val (xs.take (m + 1))=val xs):val (xs.take m)=val xs:=by
  rw [List.take_succ_eq_append_getElem hm,val_append] at h
  simpa [h0,val] using h
end Go.Proofs.YthoooolflmbmbaaGreat
