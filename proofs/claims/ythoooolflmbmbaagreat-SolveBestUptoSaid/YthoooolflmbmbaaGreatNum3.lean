/- Several texts in one. -/
import Derived.Test.YthoooolflmbmbaaGreatNum
section
namespace Go.Proofs.YthoooolflmbmbaaGreat
set_option linter.unusedVariables false
theorem takes_step {Po Pk S S' S0 V q b c u u' lo hi bw bw' B : Nat} (hset : S' + Po * Pk * u = S + Po * Pk * u') (hinv : S + Po * (q * V) = S0 + Po * Pk * (c + bw)) (hc : lo + B * hi = c + q * b) (hu : u' + lo + bw = u + B * bw') :
    S' + Po * (q * (V + Pk * b))=S0 + B * (Po * Pk) * (hi + bw'):=by grind
theorem takes_last {Po Pn S S' S0 D q c u u' bw bw' B : Nat} (hset : S' + Po * Pn * u = S + Po * Pn * u') (hinv : S + Po * (q * D) = S0 + Po * Pn * (c + bw)) (hu : u' + c + bw = u + B * bw') :
    S' + Po * (q * D)=S0 + B * (Po * Pn) * bw':=by grind
theorem back_step {Po Pk S S' S0 V b m u t B:Nat} (hset:S' + Po * Pk * u=S + Po * Pk * (t % B)) (hinv:S + Po * Pk * m=S0 + Po * V) (ht:t=u + b + m):S' + B * (Po * Pk) * (t / B)=S0 + Po * (V + Pk * b):=by
  have:=Nat.mod_add_div t B
  grind
theorem back_last {Po Pk S S' S0 V m u t B:Nat} (hset:S' + Po * Pk * u=S + Po * Pk * (t % B)) (hinv:S + Po * Pk * m=S0 + Po * V) (ht:t=u + m):S' + B * (Po * Pk) * (t / B)=S0 + Po * V:=by
  have:=Nat.mod_add_div t B
  grind
def seg (cs:List Nat) (o n:Nat):Nat:=val ((cs.drop o).take (n + 1))
theorem val_split {cs:List Nat} {o n:Nat} (h:o + n + 1≤cs.length):val cs=val (cs.take o) + 4294967296 ^ o * (seg cs o n + 4294967296 * 4294967296 ^ n * val (cs.drop (o + n + 1))):=by
  have h1:=val_take_drop cs o;have h2:=val_take_drop (cs.drop o) (n + 1)
  rw [Nat.min_eq_left (by omega)] at h1
  rw [List.length_drop,Nat.min_eq_left (by omega),List.drop_drop,pow_LB_succ] at h2
  unfold seg
  rw [h1,h2]
  rfl
theorem seg_lt {cs:List Nat} (hc:∀ x∈cs,x<4294967296) {o n:Nat} (h:o + n + 1≤cs.length):seg cs o n<4294967296 * 4294967296 ^ n:=by
  have:=val_lt ((cs.drop o).take (n + 1)) (fun x hx=>hc x (List.mem_of_mem_drop (List.mem_of_mem_take hx)))
  rw [List.length_take,List.length_drop,Nat.min_eq_left (by omega),pow_LB_succ] at this
  exact this
theorem seg_cancel {cs ds : List Nat} {o n X Y : Nat} (h1 : o + n + 1 ≤ cs.length) (h2 : o + n + 1 ≤ ds.length) (ht : ds.take o = cs.take o) (hd : ds.drop (o + n + 1) = cs.drop (o + n + 1))
    (h:val ds + 4294967296 ^ o * X=val cs + 4294967296 ^ o * Y):seg ds o n + X=seg cs o n + Y:=by
  have e1:=val_split h1;have e2:=val_split h2
  rw [ht,hd] at e2
  have hp:=pow_LB_pos o
  refine Nat.eq_of_mul_eq_mul_left hp ?_
  rw [Nat.mul_add,Nat.mul_add]
  rw [Nat.mul_add] at e1 e2
  omega
theorem takes_false {cs ds : List Nat} {o n q D : Nat} (h1 : o + n + 1 ≤ cs.length) (h2 : o + n + 1 ≤ ds.length) (ht : ds.take o = cs.take o) (hd : ds.drop (o + n + 1) = cs.drop (o + n + 1))
    (h:val ds + 4294967296 ^ o * (q * D)=val cs + 4294967296 * (4294967296 ^ o * 4294967296 ^ n) * 0):val ds + 4294967296 ^ o * (q * D)=val cs∧q * D≤seg cs o n:=by
  rw [Nat.mul_zero,Nat.add_zero] at h
  refine ⟨h,?_⟩
  have:=seg_cancel (X:=q * D) (Y:=0) h1 h2 ht hd (by rw [Nat.mul_zero]; exact h)
  omega
theorem takes_true {cs ds es : List Nat} {o n q D ov : Nat} (h1 : o + n + 1 ≤ cs.length) (h2 : o + n + 1 ≤ ds.length) (h3 : o + n + 1 ≤ es.length) (ht : ds.take o = cs.take o) (hd : ds.drop (o + n + 1) = cs.drop (o + n + 1))
    (Y2:es.take o=cs.take o) (H2:es.drop (o + n + 1)=cs.drop (o + n + 1)) (hds:∀ x∈ds,x<4294967296) (hes:∀ x∈es,x<4294967296)
    (h:val ds + 4294967296 ^ o * (q * D)=val cs + 4294967296 * (4294967296 ^ o * 4294967296 ^ n) * 1) (hb:val es + 4294967296 * (4294967296 ^ o * 4294967296 ^ n) * ov=val ds + 4294967296 ^ o * D) (hov:ov≤1) (hq:q * D≤seg cs o n + D) :
    val es + 4294967296 ^ o * (q * D)=val cs + 4294967296 ^ o * D∧seg cs o n<q * D:=by
  have e1:=seg_cancel (X:=q * D) (Y:=4294967296 * 4294967296 ^ n) h1 h2 ht hd (by rw [h,Nat.mul_one]; congr 1; rw [Nat.mul_left_comm]);have e2:=seg_cancel (X:=4294967296 * 4294967296 ^ n * ov) (Y:=D) (cs:=ds) (ds:=es) h2 h3 (by rw [ht,Y2]) (by rw [hd,H2]) (by rw [← hb]; congr 1; rw [← Nat.mul_assoc,← Nat.mul_assoc,← Nat.mul_assoc,Nat.mul_comm (4294967296 ^ o) 4294967296]);have l1:=seg_lt hds h2;have l2:=seg_lt hes h3
  rcases Nat.eq_zero_or_pos ov with h0 | h0
  · subst h0; omega
  obtain rfl:ov=1:=by omega
  exact ⟨by omega,by omega⟩
theorem val_top {xs:List Nat} {n:Nat} (hx:∀ x∈xs,x<4294967296) (h:n<xs.length):∃ r,val (xs.take (n + 1))=xs[n] * 4294967296 ^ n + r∧r<4294967296 ^ n :=
  ⟨val (xs.take n),by rw [val_take_succ h,Nat.mul_comm,Nat.add_comm],val_take_lt_pow hx (by omega)⟩
theorem val_top2 {xs:List Nat} {n:Nat} (hx:∀ x∈xs,x<4294967296) (h:n + 1<xs.length):∃ r,val (xs.take (n + 2))=(xs[n + 1] * 4294967296 + xs[n]) * 4294967296 ^ n + r∧r<4294967296 ^ n:=by
  obtain ⟨r,e,hr⟩:=val_top hx (show n<xs.length by omega)
  refine ⟨r,?_,hr⟩
  rw [val_take_succ h,e,pow_LB_succ]
  grind
theorem val_top3 {xs:List Nat} {n:Nat} (hx:∀ x∈xs,x<4294967296) (h:n + 2<xs.length):∃ r,val (xs.take (n + 3))=((xs[n + 2] * 4294967296 + xs[n + 1]) * 4294967296 + xs[n]) * 4294967296 ^ n + r∧r<4294967296 ^ n:=by
  obtain ⟨r,e,hr⟩:=val_top2 hx (show n + 1<xs.length by omega)
  refine ⟨r,?_,hr⟩
  rw [val_take_succ h,e,pow_LB_succ,pow_LB_succ]
  grind
theorem norm_hi {bs:List Nat} {n s:Nat} (hx:∀ x∈bs,x<4294967296) (hn:bs.length=n + 1) (hs:bs[n] * 2 ^ s<4294967296) (hs32:s<32):val bs * 2 ^ s<4294967296 ^ (n + 1):=by
  obtain ⟨r,e,hr⟩:=val_top hx (show n<bs.length by omega)
  rw [val_take_all (by omega)] at e
  have h1:(bs[n] + 1) * 2 ^ s≤4294967296:=by
    have e32:(4294967296:Nat)=2 ^ (32 - s) * 2 ^ s:=by rw [← Nat.pow_add,Nat.sub_add_cancel (by omega)]
    rw [e32] at hs ⊢
    have:=Nat.lt_of_mul_lt_mul_right hs
    exact Nat.mul_le_mul_right _ this
  have h2:val bs<(bs[n] + 1) * 4294967296 ^ n:=by rw [Nat.add_mul,Nat.one_mul]; omega
  have h3:=Nat.mul_lt_mul_of_pos_right h2 (show 0<2 ^ s from Nat.pow_pos (by decide));have h4:=Nat.mul_le_mul_right (4294967296 ^ n) h1
  rw [pow_LB_succ]
  have h5:(bs[n] + 1) * 4294967296 ^ n * 2 ^ s=(bs[n] + 1) * 2 ^ s * 4294967296 ^ n:=by rw [Nat.mul_right_comm]
  omega
theorem norm_top {ds:List Nat} {n x s V:Nat} (hx:∀ x∈ds,x<4294967296) (hn:ds.length=n + 1) (hV:x * 4294967296 ^ n≤V) (hs:2147483648≤x * 2 ^ s) (hd:val ds=V * 2 ^ s):2147483648≤ds[n]:=by
  obtain ⟨r,e,hr⟩:=val_top hx (show n<ds.length by omega)
  rw [val_take_all (by omega)] at e
  have h1:=Nat.mul_le_mul_right (2 ^ s) hV
  have h2:x * 4294967296 ^ n * 2 ^ s=x * 2 ^ s * 4294967296 ^ n:=by rw [Nat.mul_right_comm]
  have h3:=Nat.mul_le_mul_right (4294967296 ^ n) hs
  have h4:2147483648 * 4294967296 ^ n<(ds[n] + 1) * 4294967296 ^ n:=by rw [Nat.add_mul,Nat.one_mul]; omega
  have:=Nat.lt_of_mul_lt_mul_right h4
  omega
theorem long_start {A s la n D:Nat} {top:Nat} (hA:A<4294967296 ^ la) (hs:s<32) (hD:top * 4294967296 ^ n≤D) (ht:2147483648≤top) (hn:n + 1≤la):A * 2 ^ s<D * 4294967296 ^ (la - (n + 1) + 1):=by
  have h1:A * 2 ^ s<4294967296 ^ la * 2 ^ 31:=Nat.mul_lt_mul_of_lt_of_le hA (Nat.pow_le_pow_right (by decide) (by omega)) (Nat.pow_pos (by decide))
  have h2:2147483648 * 4294967296 ^ n≤D:=Nat.le_trans (Nat.mul_le_mul_right _ ht) hD
  have h3:=Nat.mul_le_mul_right (4294967296 ^ (la - (n + 1) + 1)) h2
  rw [Nat.mul_assoc,← Nat.pow_add] at h3
  have h4:n + (la - (n + 1) + 1)=la:=by omega
  rw [h4] at h3
  have h5:4294967296 ^ la * 2 ^ 31=2147483648 * 4294967296 ^ la:=by rw [Nat.mul_comm]
  omega
theorem long_step {P Q D S S' A q B:Nat} (h:P * B * (Q * D) + S=A) (h2:S' + P * (q * D)=S):P * ((q + B * Q) * D) + S'=A:=by grind
theorem long_rest {cs ds:List Nat} {i N D q:Nat} (h:val ds + 4294967296 ^ i * (q * D)=val cs) (hN:val cs=val (cs.take i) + 4294967296 ^ i * N) (hl:val (cs.take i)<4294967296 ^ i) (hq:N<(q + 1) * D):val ds<D * 4294967296 ^ i:=by
  have h1:4294967296 ^ i * (N + 1)≤4294967296 ^ i * ((q + 1) * D):=Nat.mul_le_mul_left _ hq
  rw [Nat.mul_add,Nat.mul_one,Nat.add_mul,Nat.one_mul,Nat.mul_add] at h1
  rw [Nat.mul_comm D]
  omega
theorem long_seg {cs:List Nat} {i n:Nat} (hc:∀ x∈cs,x<4294967296) (h:i + n + 1≤cs.length) (hv:val cs<4294967296 ^ (i + n + 1)):val cs=val (cs.take i) + 4294967296 ^ i * seg cs i n:=by
  have h1:=val_split h
  have h2:val (cs.drop (i + n + 1))=0:=by
    have h3:=val_take_lt hv;have h4:=val_take_drop cs (i + n + 1)
    rw [h3,Nat.min_eq_left h] at h4
    have:=pow_LB_pos (i + n + 1)
    rcases Nat.eq_zero_or_pos (val (cs.drop (i + n + 1))) with h0 | h0
    · exact h0
    have:=Nat.mul_le_mul_left (4294967296 ^ (i + n + 1)) h0
    omega
  rw [h2,Nat.mul_zero,Nat.add_zero] at h1
  exact h1
theorem long_end {Q D R A a b s:Nat} (h:Q * D + R=A) (hA:A=a * 2 ^ s) (hD:D=b * 2 ^ s) (hR:R<D):a / b=Q∧a % b=R / 2 ^ s:=by
  have hp:0<2 ^ s:=Nat.pow_pos (by decide)
  have hb:0<b:=by
    rcases Nat.eq_zero_or_pos b with h0 | h0
    · subst h0; simp at hD; omega
    exact h0
  have h1:Q * b * 2 ^ s + R=a * 2 ^ s:=by rw [← hA,← h,hD,Nat.mul_assoc]
  have h2:Q * b≤a:=by
    refine Nat.le_of_mul_le_mul_right (c:=2 ^ s) ?_ hp
    omega
  have h3:R=(a - Q * b) * 2 ^ s:=by rw [Nat.sub_mul]; omega
  have h4:a - Q * b<b:=by rw [hD,h3] at hR; exact Nat.lt_of_mul_lt_mul_right hR
  have h5:a=b * Q + (a - Q * b):=by rw [Nat.mul_comm b]; omega
  constructor
  · rw [h5,Nat.mul_add_div hb,Nat.div_eq_of_lt h4,Nat.add_zero]
  rw [h3,Nat.mul_div_cancel _ hp]
  conv=>lhs; rw [h5]
  rw [Nat.mul_add_mod,Nat.mod_eq_of_lt h4]
theorem shr_step {A v s P:Nat} (hs:s<32):(A + P * 4294967296 * v) / 2 ^ s=A / 2 ^ s + P * 4294967296 * (v / 2 ^ s) + P * (v % 2 ^ s * 2 ^ (32 - s)):=by
  have hp:0<2 ^ s:=Nat.pow_pos (by decide)
  have e:(4294967296:Nat)=2 ^ s * 2 ^ (32 - s):=by rw [← Nat.pow_add,Nat.add_sub_cancel' (by omega)]
  have hv:=Nat.mod_add_div v (2 ^ s)
  have h1:A + P * 4294967296 * v=A + 2 ^ s * (P * 4294967296 * (v / 2 ^ s) + P * (v % 2 ^ s * 2 ^ (32 - s))):=by
    conv=>lhs; rw [← hv]
    rw [Nat.mul_add,Nat.mul_add]
    congr 1
    rw [Nat.add_comm]
    congr 1
    · rw [Nat.mul_left_comm]
    conv=>lhs; rw [e]
    grind
  rw [h1,Nat.add_mul_div_left _ _ hp,Nat.add_assoc]
theorem shr_word {v s:Nat} (hs:s<32) (hv:v<4294967296):v * 4294967296 / 2 ^ s / 4294967296=v / 2 ^ s∧v * 4294967296 / 2 ^ s % 4294967296=v % 2 ^ s * 2 ^ (32 - s):=by
  have h:=shr_step (A:=0) (v:=v) (P:=1) hs
  have hp:0<2 ^ s:=Nat.pow_pos (by decide)
  have e:(4294967296:Nat)=2 ^ s * 2 ^ (32 - s):=by rw [← Nat.pow_add,Nat.add_sub_cancel' (by omega)]
  have h2:v % 2 ^ s * 2 ^ (32 - s)<4294967296:=by
    conv=>rhs; rw [e]
    exact Nat.mul_lt_mul_of_pos_right (Nat.mod_lt _ hp) (Nat.pow_pos (by decide))
  simp only [Nat.zero_add,Nat.one_mul,Nat.zero_div] at h
  have h3:v * 4294967296 / 2 ^ s=4294967296 * (v / 2 ^ s) + v % 2 ^ s * 2 ^ (32 - s):=by rw [Nat.mul_comm v]; exact h
  rw [h3]
  constructor
  · rw [Nat.mul_add_div (by decide),Nat.div_eq_of_lt h2,Nat.add_zero]
  rw [Nat.mul_add_mod,Nat.mod_eq_of_lt h2]
theorem or_high {c v s:Nat} (hc:c<2 ^ (32 - s)):c ||| v * 2 ^ (32 - s)=c + v * 2 ^ (32 - s):=by rw [Nat.or_comm,or_add hc,Nat.add_comm]
theorem long_prep {us ds : List Nat} {i n : Nat} (h2n : 2 ≤ n) (hux : ∀ x ∈ us, x < 4294967296) (hdx : ∀ x ∈ ds, x < 4294967296) (hdl : ds.length = n) (hlen : i + n + 1 ≤ us.length) (htop : 2147483648 ≤ ds[n - 1]) (hv : val us < val ds * 4294967296 ^ (i + 1)) :
    us[i + n]≤ds[n - 1]∧val us=val (us.take i) + 4294967296 ^ i * seg us i n∧0<val ds∧seg us i n / val ds<4294967296 ∧
    (∀ x,x<4294967296→x * (ds[n - 1] * 4294967296 + ds[n - 2])≤(us[i + n] * 4294967296 + us[i + n - 1]) * 4294967296 + us[i + n - 2] →
      (4294967296≤x + 1∨(us[i + n] * 4294967296 + us[i + n - 1]) * 4294967296 + us[i + n - 2]<(x + 1) * (ds[n - 1] * 4294967296 + ds[n - 2]))→seg us i n / val ds≤x∧x≤seg us i n / val ds + 1):=by
  obtain ⟨k,rfl⟩:∃ k,n=k + 2:=⟨n - 2,by omega⟩
  have hD:=val_lt_len hdx hdl;have hp:=pow_LB_pos i
  have hV:val us<4294967296 ^ (i + (k + 2) + 1):=by
    have h1:val ds * 4294967296 ^ (i + 1)<4294967296 ^ (k + 2) * 4294967296 ^ (i + 1):=Nat.mul_lt_mul_of_pos_right hD (pow_LB_pos _)
    rw [← Nat.pow_add] at h1
    have e:k + 2 + (i + 1)=i + (k + 2) + 1:=by omega
    rw [e] at h1; omega
  have hseg:=long_seg hux hlen hV;obtain ⟨D',eD,hD'⟩:=val_top2 hdx (show k + 1<ds.length by omega)
  rw [val_take_all (by omega)] at eD
  obtain ⟨N',eN,hN'⟩:=val_top3 (xs:=us.drop i) (n:=k) (fun x hx=>hux x (List.mem_of_mem_drop hx)) (by rw [List.length_drop]; omega)
  simp only [List.getElem_drop] at eN
  have eN2:seg us i (k + 2)=((us[i + (k + 2)] * 4294967296 + us[i + (k + 2) - 1]) * 4294967296 + us[i + (k + 2) - 2]) * 4294967296 ^ k + N':=eN
  have htop':2147483648≤ds[k + 1]:=htop
  have D1:seg us i (k + 2)<val ds * 4294967296:=by
    have h1:4294967296 ^ i * seg us i (k + 2)<4294967296 ^ i * (val ds * 4294967296):=by
      rw [pow_LB_succ] at hv
      have e:val ds * (4294967296 * 4294967296 ^ i)=4294967296 ^ i * (val ds * 4294967296):=by grind
      omega
    exact Nat.lt_of_mul_lt_mul_left h1
  have hD0:0<val ds:=by
    have:=Nat.mul_le_mul_right (4294967296 ^ k) (show 1≤ds[k + 1] * 4294967296 + ds[k] by omega)
    have:=pow_LB_pos k
    omega
  have hqB:seg us i (k + 2) / val ds<4294967296:=by rw [Nat.div_lt_iff_lt_mul hD0,Nat.mul_comm]; exact D1
  refine ⟨?_,hseg,hD0,hqB,fun x hx hx2 hx3=>?_⟩
  · show us[i + (k + 2)]≤ds[k + 1]
    refine Nat.le_of_not_lt fun hlt=>?_
    have a1:(ds[k + 1] + 1) * 4294967296 * 4294967296≤(us[i + (k + 2)] * 4294967296 + us[i + (k + 2) - 1]) * 4294967296 + us[i + (k + 2) - 2]:=by omega
    have a2:=Nat.mul_le_mul_right (4294967296 ^ k) a1;have hk:=hdx _ (List.getElem_mem (show k<ds.length by omega))
    have a3:(ds[k + 1] * 4294967296 + ds[k] + 1) * 4294967296 ^ k≤(ds[k + 1] + 1) * 4294967296 * 4294967296 ^ k:=Nat.mul_le_mul_right _ (by omega)
    rw [Nat.add_mul,Nat.one_mul] at a3
    have a4:(ds[k + 1] + 1) * 4294967296 * 4294967296 * 4294967296 ^ k=(ds[k + 1] + 1) * 4294967296 * 4294967296 ^ k * 4294967296:=by grind
    have a5:=Nat.mul_le_mul_right 4294967296 (show val ds≤(ds[k + 1] + 1) * 4294967296 * 4294967296 ^ k by omega)
    omega
  exact knuth eN2 hN' eD hD' (show 4294967296≤ds[k + 1] * 4294967296 + ds[k] by omega) (Nat.div_mul_le_self _ _) (by have:=Nat.lt_div_mul_add hD0 (a:=seg us i (k + 2)); rw [Nat.add_mul,Nat.one_mul]; exact this) hqB hx hx2 hx3
theorem div_of_le {N D x:Nat} (hD:0<D) (h1:N / D≤x) (h2:x * D≤N):x=N / D:=by
  have:=(Nat.le_div_iff_mul_le hD).2 h2
  omega
theorem div_of_gt {N D x:Nat} (hD:0<D) (h1:x≤N / D + 1) (h2:N<x * D):x=N / D + 1:=by
  have:=(Nat.div_lt_iff_lt_mul hD).2 h2
  omega
theorem hqD_of {N D x:Nat} (h1:x≤N / D + 1):x * D≤N + D:=by
  have h2:=Nat.mul_le_mul_right D h1
  rw [Nat.add_mul,Nat.one_mul] at h2
  have:=Nat.div_mul_le_self N D
  omega
theorem lt_div_step {N D:Nat} (hD:0<D):N<(N / D + 1) * D:=by have:=Nat.lt_div_mul_add hD (a:=N); rw [Nat.add_mul,Nat.one_mul]; exact this
theorem shr_cell {xs cs:List Nat} {i s:Nat} (hs:s<32) (hi0:0<i) (hi:i≤cs.length) (hx:∀ x∈xs,x<4294967296) (hix:i≤xs.length) (hv:val cs=val (xs.take i) / 2 ^ s):cs[i - 1]<2 ^ (32 - s):=by
  have h1:=val_ge_getElem (xs:=cs) (j:=i - 1) (by omega);have h2:=val_take_lt_pow hx hix
  have e:(4294967296:Nat)=2 ^ (32 - s) * 2 ^ s:=by rw [← Nat.pow_add,Nat.sub_add_cancel (by omega)]
  have hpi:4294967296 ^ i=4294967296 ^ (i - 1) * 4294967296:=by rw [← Nat.pow_succ]; congr 1; omega
  have h3:val (xs.take i) / 2 ^ s<4294967296 ^ (i - 1) * 2 ^ (32 - s):=by
    rw [Nat.div_lt_iff_lt_mul (Nat.pow_pos (by decide)),Nat.mul_assoc,← e,← hpi]; exact h2
  exact Nat.lt_of_mul_lt_mul_left (a:=4294967296 ^ (i - 1)) (by omega)
end Go.Proofs.YthoooolflmbmbaaGreat
end
section
namespace Go.Proofs.YthoooolflmbmbaaGreat
set_option linter.unusedVariables false
theorem take_trim0 {xs:List Nat} (hv:val (xs.take 0)=val xs):xs.take 0=toL (val xs):=by rw [← hv]; simp [val,toL_zero]
theorem take_trim {xs:List Nat} {m:Nat} (hx:∀ x∈xs,x<4294967296) (h0:0<m) (hm:m≤xs.length) (hv:val (xs.take m)=val xs) (hl:xs[m - 1]≠0):xs.take m=toL (val xs):=by
  have h1:=toL_val (xs.take m) (fun x h=>hx x (List.mem_of_mem_take h)) (by
    unfold trimmedB
    rw [List.getLast?_eq_getElem?,List.length_take,Nat.min_eq_left hm,List.getElem?_take,if_pos (by omega),List.getElem?_eq_getElem (by omega)]
    simpa using hl)
  rw [hv] at h1; exact h1.symm
theorem val_snoc (xs:List Nat) (x:Nat):val (xs ++ [x])=val xs + 4294967296 ^ xs.length * x:=by rw [val_append]; simp [val]
theorem snoc_lt {xs:List Nat} {x:Nat} (h:∀ x∈xs,x<4294967296) (hx:x<4294967296):∀ y∈xs ++ [x],y<4294967296:=fun y hy=>by
  rcases List.mem_append.1 hy with h1 | h1
  · exact h y h1
  rw [List.mem_singleton.1 h1]; exact hx
theorem getD_lt {xs:List Nat} (h:∀ x∈xs,x<4294967296) (k:Nat):xs.getD k 0<4294967296:=by
  rcases Nat.lt_or_ge k xs.length with h1 | h1
  · simp only [List.getD_eq_getElem?_getD,List.getElem?_eq_getElem h1,Option.getD_some]; exact h _ (List.getElem_mem h1)
  simp [h1]
theorem getD_of_lt {xs:List Nat} {k:Nat} (h:k<xs.length):xs.getD k 0=xs[k]:=by simp [h]
theorem getD_of_ge {xs:List Nat} {k:Nat} (h:xs.length≤k):xs.getD k 0=0:=by simp [List.getD_eq_getElem?_getD,List.getElem?_eq_none h]
theorem val_take_eq {xs:List Nat} {k:Nat} (h:val xs<4294967296 ^ k):val (xs.take k)=val xs:=val_take_lt h
theorem to_step {xs:List Nat} {m:Nat} (h0:0<m) (hm:m≤xs.length):val (xs.drop (m - 1))=val (xs.drop m) * 4294967296 + xs[m - 1]:=by
  rw [val_drop_step (by omega),Nat.sub_add_cancel h0,Nat.mul_comm,Nat.add_comm]
theorem drop_small {xs:List Nat} (hx:∀ x∈xs,x<4294967296) {m:Nat} (hm:xs.length≤m + 1):val (xs.drop m)<4294967296:=by
  have h1:=val_lt (xs.drop m) (fun x h=>hx x (List.mem_of_mem_drop h));have h2:=Nat.pow_le_pow_right (show 0<4294967296 by decide) (show (xs.drop m).length≤1 by rw [List.length_drop]; omega)
  omega
theorem val_lt64 {n:Nat} (h:(toL n).length≤2):n<18446744073709551616:=by
  have h1:=val_lt (toL n) (toL_lt n)
  rw [val_toL] at h1
  have h2:=Nat.pow_le_pow_right (show 0<4294967296 by decide) h
  omega
theorem r1mul_end {Pi Pk S S0 X D a cy:Nat} (hinv:S + Pi * Pk * cy=S0 + Pi * (a * D)) (h0:S0=X * D) (hc:cy=0):S=(X + Pi * a) * D:=by subst hc; grind
theorem r1mul_brk {xs ys : List Nat} {i k S S0 cy : Nat} (hx : ∀ x ∈ xs, x < 4294967296) (hy : ∀ y ∈ ys, y < 4294967296) (hi : i < xs.length) (hk : i + 1 + ys.length ≤ i + k)
    (hinv:S + 4294967296 ^ i * 4294967296 ^ k * cy=S0 + 4294967296 ^ i * (xs[i] * val ys)) (h0:S0=val (xs.take i) * val ys):cy=0:=by
  have h1:=val_take_lt_pow hx (show i + 1≤xs.length by omega);have h2:=val_lt ys hy
  have h3:S0 + 4294967296 ^ i * (xs[i] * val ys)=val (xs.take (i + 1)) * val ys:=by rw [val_take_succ hi,h0]; grind
  have h4:val (xs.take (i + 1)) * val ys<4294967296 ^ (i + 1) * 4294967296 ^ ys.length:=Nat.mul_lt_mul'' h1 h2
  rw [← Nat.pow_add] at h4
  have h5:=Nat.pow_le_pow_right (show 0<4294967296 by decide) hk
  rw [Nat.pow_add 4294967296 i k] at h5
  rcases Nat.eq_zero_or_pos cy with h6 | h6
  · exact h6
  exfalso
  have:=Nat.mul_le_mul_left (4294967296 ^ i * 4294967296 ^ k) h6
  omega
theorem shl1_step {S lo P V t B x hi:Nat} (h:S + P * lo=2 * V) (hx:x + B * hi=2 * t + lo):S + P * x + B * P * hi=2 * (V + P * t):=by grind
theorem two_val {xs:List Nat} (hx:∀ x∈xs,x<4294967296):2 * val xs<4294967296 ^ (xs.length + 1):=by
  have:=val_lt xs hx
  rw [pow_LB_succ]; omega
theorem carry0 {S lo V P:Nat} (h:S + P * lo=V) (hV:V<P):lo=0:=by
  rcases Nat.eq_zero_or_pos lo with h6 | h6
  · exact h6
  have:=Nat.mul_le_mul_left P h6
  omega
theorem pow32 (j:Nat):4294967296 ^ j=2 ^ (32 * j):=by rw [Nat.pow_mul]
theorem split_bit {xs:List Nat} (hx:∀ x∈xs,x<4294967296) {j:Nat} (hj:j<xs.length):val xs / 4294967296 ^ j=xs[j] + 4294967296 * val (xs.drop (j + 1)):=by
  have h1:=val_take_drop xs j
  rw [Nat.min_eq_left (by omega),val_drop_step hj] at h1
  rw [h1,Nat.add_mul_div_left _ _ (pow_LB_pos j),Nat.div_eq_of_lt (val_take_lt_pow hx (by omega)),Nat.zero_add]
theorem bit_val {xs:List Nat} (hx:∀ x∈xs,x<4294967296) {i:Nat} (hj:i / 32<xs.length):xs[i / 32] / 2 ^ (i % 32) % 2=val xs / 2 ^ i % 2:=by
  have h1:=split_bit hx hj
  have e:2 ^ i=4294967296 ^ (i / 32) * 2 ^ (i % 32):=by rw [pow32,← Nat.pow_add]; congr 1; omega
  have hp:0<2 ^ (i % 32):=Nat.pow_pos (by decide)
  have e2:(4294967296:Nat)=2 ^ (i % 32) * (2 * 2 ^ (31 - i % 32)):=by
    rw [← Nat.mul_assoc,← Nat.pow_succ,← Nat.pow_add]
    have:(i % 32).succ + (31 - i % 32)=32:=by omega
    rw [this]
  rw [e,← Nat.div_div_eq_div_mul,h1]
  have e3:4294967296 * val (xs.drop (i / 32 + 1))=2 ^ (i % 32) * (2 * (2 ^ (31 - i % 32) * val (xs.drop (i / 32 + 1)))):=by
    conv=>lhs; rw [e2]
    grind
  rw [e3,Nat.add_mul_div_left _ _ hp,Nat.add_mul_mod_self_left]
theorem half_step (A i:Nat):A / 2 ^ i=2 * (A / 2 ^ (i + 1)) + A / 2 ^ i % 2:=by
  have h:A / 2 ^ (i + 1)=A / 2 ^ i / 2:=by rw [Nat.pow_succ,Nat.div_div_eq_div_mul]
  rw [h]; omega
theorem bit_ge {A b i:Nat} (hb:0<b) (h:b≤2 * (A / 2 ^ (i + 1) % b) + A / 2 ^ i % 2):A / 2 ^ i % b=2 * (A / 2 ^ (i + 1) % b) + A / 2 ^ i % 2 - b∧A / 2 ^ i / b=2 * (A / 2 ^ (i + 1) / b) + 1:=by
  have h1:=half_step A i;have h2:=Nat.div_add_mod (A / 2 ^ (i + 1)) b;have h3:=Nat.mod_lt (A / 2 ^ (i + 1)) hb
  have h4:A / 2 ^ i % 2<2:=Nat.mod_lt _ (by decide)
  generalize A / 2 ^ i % 2=t at *
  generalize A / 2 ^ (i + 1)=Am at *
  generalize Am % b=r at *
  generalize Am / b=q at *
  have h5:A / 2 ^ i=b * (2 * q + 1) + (2 * r + t - b):=by
    have e:b * (2 * q + 1)=2 * (b * q) + b:=by grind
    rw [h1,← h2,e]; omega
  rw [h5,Nat.mul_add_mod,Nat.mul_add_div hb,Nat.mod_eq_of_lt (by omega),Nat.div_eq_of_lt (by omega)]
  exact ⟨rfl,rfl⟩
theorem bit_lt {A b i:Nat} (hb:0<b) (h:2 * (A / 2 ^ (i + 1) % b) + A / 2 ^ i % 2<b):A / 2 ^ i % b=2 * (A / 2 ^ (i + 1) % b) + A / 2 ^ i % 2∧A / 2 ^ i / b=2 * (A / 2 ^ (i + 1) / b):=by
  have h1:=half_step A i;have h2:=Nat.div_add_mod (A / 2 ^ (i + 1)) b
  generalize A / 2 ^ i % 2=t at *
  generalize A / 2 ^ (i + 1)=Am at *
  generalize Am % b=r at *
  generalize Am / b=q at *
  have h5:A / 2 ^ i=b * (2 * q) + (2 * r + t):=by
    have e:b * (2 * q)=2 * (b * q):=by grind
    rw [h1,← h2,e]; omega
  rw [h5,Nat.mul_add_mod,Nat.mul_add_div hb,Nat.mod_eq_of_lt h,Nat.div_eq_of_lt h]
  exact ⟨rfl,rfl⟩
theorem bit_or {qs:List Nat} {i Q:Nat} (hx:∀ x∈qs,x<4294967296) (hj:i / 32<qs.length) (hv:val qs=Q * 2 ^ (i + 1)):qs[i / 32] ||| 2 ^ (i % 32)=qs[i / 32] + 2 ^ (i % 32)∧qs[i / 32] + 2 ^ (i % 32)<4294967296:=by
  have h1:=split_bit hx hj
  have e:2 ^ (i + 1)=2 ^ (i % 32 + 1) * 4294967296 ^ (i / 32):=by rw [pow32,← Nat.pow_add]; congr 1; omega
  rw [hv,e,← Nat.mul_assoc,Nat.mul_div_cancel _ (pow_LB_pos _)] at h1
  have e2:(4294967296:Nat)=2 ^ (31 - i % 32) * 2 ^ (i % 32 + 1):=by
    rw [← Nat.pow_add]
    have:31 - i % 32 + (i % 32 + 1)=32:=by omega
    rw [this]
  have hm:qs[i / 32] % 2 ^ (i % 32 + 1)=0:=by
    have h2:(qs[i / 32] + 4294967296 * val (qs.drop (i / 32 + 1))) % 2 ^ (i % 32 + 1)=0:=by rw [← h1,Nat.mul_mod_left]
    have e3:4294967296 * val (qs.drop (i / 32 + 1))=2 ^ (i % 32 + 1) * (2 ^ (31 - i % 32) * val (qs.drop (i / 32 + 1))):=by
      conv=>lhs; rw [e2]
      grind
    rw [e3,Nat.add_mul_mod_self_left] at h2
    exact h2
  have hd:=Nat.div_add_mod qs[i / 32] (2 ^ (i % 32 + 1))
  rw [hm,Nat.add_zero,Nat.mul_comm] at hd
  have hlt:2 ^ (i % 32)<2 ^ (i % 32 + 1):=Nat.pow_lt_pow_right (by decide) (by omega)
  have h3:=or_add (a:=qs[i / 32] / 2 ^ (i % 32 + 1)) hlt
  rw [hd] at h3
  refine ⟨h3,?_⟩
  have hq:=hx _ (List.getElem_mem hj)
  rw [← h3]
  exact Nat.or_lt_two_pow (n:=32) hq (by exact Nat.pow_lt_pow_right (by decide) (by omega))
theorem bit_set {qs:List Nat} {i Q:Nat} (hj:i / 32<qs.length) (hv:val qs=Q * 2 ^ (i + 1)):val (qs.set (i / 32) (qs[i / 32] + 2 ^ (i % 32)))=(2 * Q + 1) * 2 ^ i:=by
  have h1:=val_set hj (qs[i / 32] + 2 ^ (i % 32))
  have e:2 ^ i=4294967296 ^ (i / 32) * 2 ^ (i % 32):=by rw [pow32,← Nat.pow_add]; congr 1; omega
  rw [Nat.mul_add,← e] at h1
  rw [hv,Nat.pow_succ] at h1
  have:(2 * Q + 1) * 2 ^ i=Q * (2 ^ i * 2) + 2 ^ i:=by grind
  omega
end Go.Proofs.YthoooolflmbmbaaGreat
end
