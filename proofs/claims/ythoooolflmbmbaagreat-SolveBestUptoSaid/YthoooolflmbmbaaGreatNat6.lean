/- Several texts in one. -/
import Derived.Test.YthoooolflmbmbaaGreatNat4
section
namespace Go.Proofs.YthoooolflmbmbaaGreat
open Go.RowKit
set_option linter.unusedVariables false
set_option linter.unusedSimpArgs false
set_option maxRecDepth 10000
def lenTab:ByteArray:=⟨#[0,1,2,2,3,3,3,3,4,4,4,4,4,4,4,4,5,5,5,5,5,5,5,5,5,5,5,5,5,5,5,5,6,6,6,6,6,6,6,6,6,6,6,6,6,6,6,6,6,6,6,6,6,6,6,6,6,6,6,6,6,6,6,6,7,7,7,7,7,7,7,7,7,7,7,7,7,7,7,7,7,7,7,7,7,7,7,7,7,7,7,7,7,7,7,7,7,7,7,7,7,7,7,7,7,7,7,7,7,7,7,7,7,7,7,7,7,7,7,7,7,7,7,7,7,7,7,7,8,8,8,8,8,8,8,8,8,8,8,8,8,8,8,8,8,8,8,8,8,8,8,8,8,8,8,8,8,8,8,8,8,8,8,8,8,8,8,8,8,8,8,8,8,8,8,8,8,8,8,8,8,8,8,8,8,8,8,8,8,8,8,8,8,8,8,8,8,8,8,8,8,8,8,8,8,8,8,8,8,8,8,8,8,8,8,8,8,8,8,8,8,8,8,8,8,8,8,8,8,8,8,8,8,8,8,8,8,8,8,8,8,8,8,8,8,8,8,8,8,8,8,8,8,8,8,8]⟩
def lenOK (j:Nat):Bool:=match lenTab.data[j]? with
  | some t=>decide (1≤t.toNat∧t.toNat≤8∧2 ^ (t.toNat - 1)≤j∧j<2 ^ t.toNat)
  | none=>false
theorem lenTab_size:lenTab.size=256:=by decide +kernel
theorem lenTab_all:(List.range 256).all (fun j=>j == 0 || lenOK j)=true:=by decide +kernel
theorem lenTab_ok {j:Nat} (h0:0<j) (h:j<256) (hj:j<lenTab.size):1≤lenTab[j].toNat∧lenTab[j].toNat≤8∧2 ^ (lenTab[j].toNat - 1)≤j∧j<2 ^ lenTab[j].toNat:=by
  have h1:=List.all_eq_true.1 lenTab_all j (List.mem_range.2 h)
  simp only [Bool.or_eq_true,beq_iff_eq] at h1
  rcases h1 with h1 | h1
  · omega
  unfold lenOK at h1
  have e:lenTab.data[j]?=some lenTab[j]:=by
    have:j<lenTab.data.size:=hj
    rw [Array.getElem?_eq_getElem this]; rfl
  rw [e] at h1
  simpa using h1
theorem len_end {x n0 t z:Nat} (hz:z=x / 2 ^ n0) (h1:1≤t) (h2:2 ^ (t - 1)≤z) (h3:z<2 ^ t):2 ^ (n0 + t - 1)≤x∧x<2 ^ (n0 + t):=by
  subst hz
  have hp:0<2 ^ n0:=Nat.pow_pos (by decide)
  have e:n0 + t - 1=(t - 1) + n0:=by omega
  constructor
  · rw [e,Nat.pow_add]; exact (Nat.le_div_iff_mul_le hp).1 h2
  rw [Nat.add_comm n0 t,Nat.pow_add]; exact (Nat.div_lt_iff_lt_mul hp).1 h3
theorem lead_end {x l:Nat} (h1:1≤l) (h32:l≤32) (h2:2 ^ (l - 1)≤x) (h3:x<2 ^ l):2147483648≤x * 2 ^ (32 - l)∧x * 2 ^ (32 - l)<4294967296:=by
  have hp:0<2 ^ (32 - l):=Nat.pow_pos (by decide)
  have a1:=Nat.mul_le_mul_right (2 ^ (32 - l)) h2;have a2:=Nat.mul_lt_mul_of_pos_right h3 hp
  rw [← Nat.pow_add] at a1 a2
  have e1:l - 1 + (32 - l)=31:=by omega
  have e2:l + (32 - l)=32:=by omega
  rw [e1] at a1; rw [e2] at a2
  exact ⟨by omega,by omega⟩
theorem c_nat_takesN {M : List Nat} {w : World} {g o cap n : Nat} {cs : List Nat} {vb : Value} {bs : List Nat} {q : Nat} (hn : bs.length = n) (hb : Blk w g 90 (uarr cs)) (hcx : ∀ x ∈ cs, x < 4294967296) (h : U32 (g :: M) w vb bs) (hlen : o + n + 1 ≤ cs.length) (hq : q < 4294967296) (hmax : cs.length ≤ 4398046511104) (hqD : q * val bs ≤ seg cs o n + val bs) :
    Ret Tryz.prog 133 #[.slice (some ⟨g,o,none⟩) (n + 1) cap,vb,.int .u64 (q:Int)] w (fun r w'=>∃ ds b,r=.bool b∧Blk w' g 90 (uarr ds)∧ds.length=cs.length∧(∀ x∈ds,x<4294967296)∧(b=false→val ds + 4294967296 ^ o * (q * val bs)=val cs∧q * val bs≤seg cs o n)∧(b=true→val ds + 4294967296 ^ o * (q * val bs)=val cs + 4294967296 ^ o * val bs∧seg cs o n<q * val bs)∧Mod [g] w w'):=by
  subst hn
  refine (c_nat_takes hb hcx h hlen hq hmax hqD).mono fun r w' ⟨ds,h1,h2,h3,h4,h5⟩=>?_
  rcases h4 with ⟨rfl,a,b⟩ | ⟨rfl,a,b⟩
  · exact ⟨ds,false,rfl,h1,h2,h3,fun _=>⟨a,b⟩,(fun h=>by cases h),h5⟩
  exact ⟨ds,true,rfl,h1,h2,h3,(fun h=>by cases h),fun _=>⟨a,b⟩,h5⟩
theorem c_Len32 {w : World} {x : Nat} (hx0 : 0 < x) (hx : x < 4294967296) :
    Ret Tryz.prog 136 #[.int .u32 (x:Int)] w (fun r w'=>∃ l:Nat,r=.int .i64 (l:Int)∧1≤l∧l≤32∧2 ^ (l - 1)≤x∧x<2 ^ l∧Mod [] w w'):=by
 refine Ret.of (vs:=[.int .u32 (x:Int)]) (n:=19) Tryz.func136 rfl rfl rfl rfl ?_
 have C0:Mod [] w w:=Mod.refl _ _
 refine W.sr<|L.b rfl<|L.z<|W.seq<|W.sr<|L.k rfl<|L.v (R1.ge rfl rfl) rfl<|L.nil ?_
 refine X.seq<|W.cut (ι:=Nat × Nat) (fun (y,m)=>[(0,.int .u32 (y:Int)),(2,.int .i64 (m:Int))]) (fun (y,m) w_=>y=x / 2 ^ m∧0<y∧y<65536∧m≤16∧Mod [] w w_) ?_ ?_
 ·
  refine W.cond rfl ?_ ?_
  ·
   intro J4
   try simp only [bq,ne_eq] at J4
   refine W.sr<|L.k rfl<|L.v (R1.shrW (b:=16) rfl rfl (by omega)) rfl<|L.b rfl<|L.z<|W.region<|L.b rfl<|L.nil<|X.join (x / 2 ^ 16,16) ?_ ?_
   · exact ⟨rfl,rfl,trivial⟩
   exact ⟨rfl,by omega,by omega,by omega,C0⟩
  intro J4
  try simp only [bq,ne_eq] at J4
  refine W.skip<|X.join (x,0) ?_ ?_
  · exact ⟨rfl,rfl,trivial⟩
  exact ⟨by simp,hx0,by omega,by omega,C0⟩
 rintro ⟨y,m⟩ wj ⟨hy,hy0,hy2,hm,C0⟩
 refine X.seq<|W.seq<|W.sr<|L.k rfl<|L.v (R1.ge rfl rfl) rfl<|L.z<|W.cut (ι:=Nat × Nat) (fun (z,m2)=>[(0,.int .u32 (z:Int)),(2,.int .i64 (m2:Int))]) (fun (z,m2) w_=>z=x / 2 ^ m2∧0<z∧z<256∧m2≤24∧Mod [] w w_) ?_ ?_
 ·
  refine W.cond rfl ?_ ?_
  ·
   intro J8
   try simp only [bq,ne_eq] at J8
   refine W.sr<|L.k rfl<|L.v (R1.shrW (b:=8) rfl rfl (by omega)) rfl<|L.b rfl<|L.z<|W.region<|L.k rfl<|L.v (R1.addI (b:=8) rfl rfl (by omega)) rfl<|L.b rfl ?_
   refine L.nil<|X.join (y / 2 ^ 8,m + 8) ?_ ?_
   · exact ⟨rfl,rfl,trivial⟩
   exact ⟨by rw [hy,Nat.pow_add,Nat.div_div_eq_div_mul],by omega,by omega,by omega,C0⟩
  intro J8
  try simp only [bq,ne_eq] at J8
  refine W.skip<|X.join (y,m) ?_ ?_
  · exact ⟨rfl,rfl,trivial⟩
  exact ⟨hy,hy0,by omega,by omega,C0⟩
 rintro ⟨z,m2⟩ wk ⟨hz,P0,P2,hmm,C0⟩
 refine X.seq<|W.seq ?_
 obtain ⟨t1,t2,t3,t4⟩:=lenTab_ok P0 P2 (by rw [lenTab_size]; exact P2)
 refine W.region<|L.k rfl<|L.k rfl<|L.v ((R1.conv rfl tyI90 tyI5).as (j:=(z:Int)) (by rw [wrap_u8_mod]; omega)) rfl<|L.v (R1.indexS (u:=lenTab) (j:=z) (by kernel_rfl) rfl tyStr9 rfl (by rw [lenTab_size]; exact P2)) rfl<|L.v ((R1.conv rfl tyI5 tyI3).as (j:=((lenTab[z]'(by rw [lenTab_size]; exact P2)).toNat:Int)) (by rw [wrap_i64 (by omega) (by omega)])) rfl<|L.v (R1.addI rfl rfl (by omega)) rfl<|L.b rfl<|L.z<|W.ret ?_
 refine X.result1 rfl (.tmp rfl .nil) ?_
 have P9:=len_end hz t1 t3 t4
 exact ⟨_,rfl,by omega,by omega,P9.1,P9.2,C0⟩
theorem c_Lead {w : World} {x : Nat} (hx0 : 0 < x) (hx : x < 4294967296) :
    Ret Tryz.prog 130 #[.int .u32 (x:Int)] w (fun r w'=>∃ s:Nat,r=.int .i64 (s:Int)∧s<32∧2147483648≤x * 2 ^ s∧x * 2 ^ s<4294967296∧Mod [] w w'):=by
 refine Ret.of (vs:=[.int .u32 (x:Int)]) (n:=6) Tryz.func130 rfl rfl rfl rfl ?_
 have C0:Mod [] w w:=Mod.refl _ _
 refine W.sr<|L.b rfl<|L.z<|W.sr<|L.k rfl<|L.c rfl (c_Len32 hx0 hx) ?_
 rintro _ w1 ⟨l,rfl,hl1,hl2,hl3,hl4,C1⟩
 replace C0:=C0.trans C1;clear C1
 refine L.v (R1.subI (a:=32) rfl rfl (by omega) (by omega)) rfl<|L.b rfl<|L.z<|W.ret<|X.result1 rfl (.tmp rfl .nil) ?_
 have hz:=lead_end hl1 hl2 hl3 hl4
 exact ⟨32 - l,rfl,by omega,hz.1,hz.2,C0⟩
end Go.Proofs.YthoooolflmbmbaaGreat
end
section
namespace Go.Proofs.YthoooolflmbmbaaGreat
open Go.RowKit
set_option linter.unusedVariables false
set_option linter.unusedSimpArgs false
set_option maxRecDepth 10000
theorem c_nat_ShiftR {M : List Nat} {w : World} {va : Value} {xs : List Nat} {s : Nat} (h : U32 M w va xs) (hs0 : 0 < s) (hs : s < 32) (hbd : Bd M w) (hl : xs.length ≤ 1099511627776) :
    Ret Tryz.prog 134 #[va,.int .i64 (-(s:Int))] w (fun r w'=>U32 M w' r (toL (val xs / 2 ^ s))∧Mod [] w w'):=by
 have hbd0:=hbd;have hla:=toL_len_40 h.2 hl
 have hp2:0<2 ^ s:=Nat.pow_pos (by decide)
 refine Ret.of (vs:=[va,.int .i64 (-(s:Int))]) (n:=95) Tryz.func134 rfl rfl rfl rfl ?_
 have C0:Mod [] w w:=Mod.refl _ _
 refine W.sr<|L.b rfl<|L.z<|W.sr<|L.k rfl<|L.v ((R1.maxI rfl rfl).as (j:=(-(s:Int))) (by omega)) rfl<|L.v ((R1.minI rfl rfl).as (j:=(-(s:Int))) (by omega)) rfl<|L.b rfl ?_
 refine L.z<|W.sr<|L.k rfl<|L.c rfl (c_nat_trim (by assumption)) ?_
 rintro v17 w1 ⟨h17,C1⟩
 replace h:=h.gr C1;replace C0:=C0.trans C1;clear C1;obtain ⟨A17,c17,rfl⟩:=h17.form;have hcap17:=h17.1.capOf rfl
 refine L.b rfl<|L.z<|W.seq<|W.sr<|L.k rfl<|L.v ((R1.lt rfl rfl).asB (c:=true) (by simp; omega)) rfl<|L.z<|W.condT rfl ?_
 refine W.sr<|L.k rfl<|L.v ((R1.neg rfl).as (j:=((s:Nat):Int)) (by rw [wrap_i64 (by omega) (by omega)]; omega)) rfl<|L.v ((R1.quoI (b:=32) rfl rfl (by omega) (by omega)).as (j:=((0:Nat):Int)) (by omega)) rfl<|L.b rfl<|L.z<|W.seq<|W.seq<|W.region ?_
 refine L.k rfl<|L.k rfl<|L.v (R1.len rfl Q38) rfl<|L.v (R1.ge rfl rfl) rfl<|L.z<|W.cond rfl ?_ ?_
 ·
  intro J26
  try simp only [bq,ne_eq] at J26
  refine W.sr<|L.b rfl<|L.z<|W.ret<|X.thenRet<|X.thenRet<|X.result1 rfl (.tmp rfl .nil) ?_
  have h0:toL (val xs)=[]:=List.eq_nil_of_length_eq_zero (by omega)
  rw [toL_nil] at h0
  rw [h0,Nat.zero_div,toL_zero]
  exact ⟨U32.nil,C0⟩
 intro J26
 try simp only [bq,ne_eq] at J26
 refine W.skip<|X.seq<|W.sr<|L.k rfl<|L.v ((R1.neg rfl).as (j:=((s:Nat):Int)) (by rw [wrap_i64 (by omega) (by omega)]; omega)) rfl<|L.v ((R1.remI (b:=32) rfl rfl (by omega)).as (j:=((s:Nat):Int)) (by omega)) rfl<|L.v (R1.convIL rfl tyI3 tyI117 (by omega)) rfl<|L.b rfl<|L.z ?_
 refine W.sr<|L.k rfl<|L.v (R1.len rfl Q38) rfl<|L.k rfl<|L.v (R1.subI rfl rfl (by omega) (by omega)) rfl<|L.makeSlice (m:=(toL (val xs)).length) rfl rfl rfl rfl Q38 tyZ90 (by omega) (by unfold maxLen; omega) rfl ?_
 intro g35 w2 D35
 replace h:=h.new D35;have K35:=New.ge D35 C0.size;replace C0:=C0.tn D35;replace h17:=h17.new D35;have E35:=D35.blk;clear D35
 rw [uarr_made] at E35
 refine L.b rfl<|L.z<|W.seq<|W.sr<|L.k rfl<|L.k rfl<|L.v ((R1.sliceL rfl rfl Q38 (by omega) (by omega)).asV (v:=cutS A17 c17 0 (toL (val xs)).length 1) rfl) rfl ?_
 have hcut:=U32.cutL h17 rfl (Nat.zero_le _)
 rw [List.drop_zero] at hcut
 refine L.lU rfl hcut Q38<|L.k rfl<|L.z<|W.block<|W.loop (ι:=Nat × List Nat) (fun (i,cs)=>[(6,.int .u64 (s:Int)),(7,.slice (some ⟨g35,0,none⟩) (toL (val xs)).length (toL (val xs)).length),(38,cutS A17 c17 0 (toL (val xs)).length 1),(39,.int .i64 (((toL (val xs)).length:Nat):Int)),(40,.int .i64 (i:Int))]) (fun (i,cs) w_=>i≤(toL (val xs)).length∧cs.length=(toL (val xs)).length∧(∀ x∈cs,x<4294967296)∧val cs=val ((toL (val xs)).take i) / 2 ^ s∧(∀ j (hj:j<cs.length),i≤j→cs[j]=0)∧Blk w_ g35 90 (uarr cs)∧U32 (g35 :: M) w_ (cutS A17 c17 0 (toL (val xs)).length 1) (toL (val xs))∧Mod [] w w_) (fun (i,cs)=>(toL (val xs)).length - i) (0,List.replicate (toL (val xs)).length 0) ?_ ?_ ?_
 · repeat' constructor
 ·
  exact ⟨Nat.zero_le _,by simp,rep_lt _,by simp [val,val_replicate],by simp,E35,hcut,C0⟩
 rintro ⟨i,cs⟩ w3 ⟨hk,hcl,hcx,hv,hz,E35,hcut,C0⟩
 refine W.sr<|L.lt rfl rfl<|L.z<|W.seq<|W.cond rfl ?_ ?_
 ·
  intro J41
  try simp only [bq,ne_eq] at J41
  have hi1:i<(toL (val xs)).length:=by omega
  have hxi:=hcut.lt hi1;obtain ⟨hw1,hw2⟩:=shr_word hs hxi
  have hh:(toL (val xs))[i] / 2 ^ s<4294967296:=Nat.lt_of_le_of_lt (Nat.div_le_self _ _) hxi
  have P0:=hz i (by omega) (Nat.le_refl _)
  have hlw:(toL (val xs))[i] % 2 ^ s * 2 ^ (32 - s)<4294967296:=by rw [← hw2]; exact Nat.mod_lt _ (by decide)
  have hstep:=shr_step (A:=val ((toL (val xs)).take i)) (v:=(toL (val xs))[i]) (P:=4294967296 ^ (i - 1)) hs;have e1:=val_set (xs:=cs) (j:=i) (by omega) ((toL (val xs))[i] / 2 ^ s)
  rw [P0,Nat.mul_zero,Nat.add_zero] at e1
  refine W.skip<|X.seq<|W.seq<|W.block<|W.sr<|L.k rfl<|L.v (R1.atU (j:=i) rfl rfl hcut Q38 rfl (by omega)) rfl<|L.v (R1.ldU rfl hcut tyP90 (by omega) rfl) rfl<|L.b rfl<|L.b rfl ?_
  refine L.z<|W.sr<|L.k rfl<|L.v (R1.convWL rfl tyI90 tyI87 (by omega)) rfl<|L.v (R1.shl32 rfl rfl (by omega)) rfl<|L.k rfl<|L.v (R1.shrL rfl rfl (by omega)) rfl<|L.b rfl<|L.nil ?_
  refine X.seq<|W.sr<|L.k rfl<|L.k rfl<|L.v (R1.atO (j:=i) rfl rfl Q38 rfl (by omega)) rfl<|L.v (R1.ldO rfl (by assumption) (by omega) tyP90 rfl) rfl<|L.k rfl<|L.v (R1.shr32 rfl rfl) rfl<|L.v ((R1.convLW rfl tyI87 tyI90).as (j:=(((toL (val xs))[i] / 2 ^ s:Nat):Int)) (by rw [hw1,Nat.mod_eq_of_lt hh])) rfl<|L.v ((R1.orW rfl rfl (by omega) (by omega)).as (j:=(((toL (val xs))[i] / 2 ^ s:Nat):Int)) (by rw [P0,Nat.zero_or])) rfl ?_
  refine L.v (R1.atO (j:=i) rfl rfl Q38 rfl (by omega)) rfl<|L.storeU rfl rfl E35 (by omega) tyP90 ?_
  intro w4 E35' C4
  replace hcut:=hcut.ms C4;replace C0:=C0.old1 C4 K35;clear C4;replace E35:=E35'; clear E35'
  refine L.z<|W.sr<|L.k rfl<|L.v (R1.gt rfl rfl) rfl<|L.z<|W.cut (ι:=List Nat) (fun cs2=>[(6,.int .u64 (s:Int)),(7,.slice (some ⟨g35,0,none⟩) (toL (val xs)).length (toL (val xs)).length),(38,cutS A17 c17 0 (toL (val xs)).length 1),(39,.int .i64 (((toL (val xs)).length:Nat):Int)),(40,.int .i64 (i:Int))]) (fun cs2 w_=>cs2.length=(toL (val xs)).length∧(∀ x∈cs2,x<4294967296)∧val cs2=val ((toL (val xs)).take (i + 1)) / 2 ^ s∧(∀ j (hj:j<cs2.length),i + 1≤j→cs2[j]=0)∧Blk w_ g35 90 (uarr cs2)∧U32 (g35 :: M) w_ (cutS A17 c17 0 (toL (val xs)).length 1) (toL (val xs))∧Mod [] w w_) ?_ ?_
  ·
   refine W.cond rfl ?_ ?_
   ·
    intro J60
    try simp only [bq,ne_eq] at J60
    have hi0:0<i:=by omega
    have hpi:4294967296 ^ (i - 1) * 4294967296=4294967296 ^ i:=by rw [← Nat.pow_succ]; congr 1; omega
    have J1:cs[i - 1]<2 ^ (32 - s):=shr_cell hs hi0 (by omega) (toL_lt _) (by omega) hv
    have hci:=hcx _ (List.getElem_mem (show i - 1<cs.length by omega))
    have hsum:cs[i - 1] + (toL (val xs))[i] % 2 ^ s * 2 ^ (32 - s)<4294967296:=by
        rw [← or_high J1]; exact Nat.or_lt_two_pow (n:=32) hci hlw
    have e2:=val_set (xs:=cs.set i ((toL (val xs))[i] / 2 ^ s)) (j:=i - 1) (by simp; omega) (cs[i - 1] + (toL (val xs))[i] % 2 ^ s * 2 ^ (32 - s))
    rw [List.getElem_set_ne (by omega),Nat.mul_add] at e2
    rw [hpi] at hstep
    refine W.region<|L.k rfl<|L.k rfl<|L.v (R1.subI (b:=1) rfl rfl (by omega) (by omega)) rfl<|L.v (R1.atO (j:=(i - 1)) rfl rfl Q38 rfl (by omega)) rfl<|L.v (R1.ldO rfl (by assumption) (by simp; omega) tyP90 (by rw [List.getElem_set_ne (by omega)])) rfl<|L.k rfl<|L.v ((R1.convLW rfl tyI87 tyI90).as (j:=(((toL (val xs))[i] % 2 ^ s * 2 ^ (32 - s):Nat):Int)) (by rw [hw2])) rfl<|L.v ((R1.orW rfl rfl (by omega) (by omega)).as (j:=((cs[i - 1] + (toL (val xs))[i] % 2 ^ s * 2 ^ (32 - s):Nat):Int)) (congrArg (fun n:Nat=>(n:Int)) (or_high J1))) rfl<|L.v (R1.atO (j:=(i - 1)) rfl rfl Q38 rfl (by omega)) rfl<|L.storeU rfl rfl E35 (by simp; omega) tyP90 ?_
    intro w5 E35' C5
    replace hcut:=hcut.ms C5;replace C0:=C0.old1 C5 K35;clear C5;replace E35:=E35'; clear E35'
    refine L.nil<|X.join ((cs.set i ((toL (val xs))[i] / 2 ^ s)).set (i - 1) (cs[i - 1] + (toL (val xs))[i] % 2 ^ s * 2 ^ (32 - s))) ?_ ?_
    · repeat' constructor
    refine ⟨by simpa using hcl,set_lt (set_lt hcx hh) hsum,?_,?_,E35,hcut,C0⟩
    · rw [val_take_succ hi1,hstep]; omega
    intro j hj hle
    rw [List.getElem_set_ne (by omega),List.getElem_set_ne (by omega)]
    exact hz j (by simpa using hj) (by omega)
   intro J60
   try simp only [bq,ne_eq] at J60
   obtain rfl:i=0:=by omega
   refine W.skip<|X.join (cs.set 0 ((toL (val xs))[0] / 2 ^ s)) ?_ ?_
   · repeat' constructor
   refine ⟨by simpa using hcl,set_lt hcx hh,?_,?_,E35,hcut,C0⟩
   · rw [val_take_succ hi1]; simp [val] at e1 hv ⊢; omega
   intro j hj hle
   rw [List.getElem_set_ne (by omega)]
   exact hz j (by simpa using hj) (by omega)
  rintro cs2 wk ⟨hcl2,hcx2,hv2,P2,E35,hcut,C0⟩
  refine X.blockEnd<|X.seq<|W.region<|L.inc rfl rfl (by omega)<|L.k rfl<|L.nil<|X.next (i + 1,cs2) ?_ ?_ ?_
  · repeat' constructor
  ·
   exact ⟨by omega,hcl2,hcx2,hv2,P2,E35,hcut,C0⟩
  first | omega | (dsimp only; omega)
 intro J41
 try simp only [bq,ne_eq] at J41
 obtain rfl:i=(toL (val xs)).length:=by omega
 rw [List.take_length,val_toL] at hv
 refine W.brk<|W.seq ?_
 have hU:U32 M w3 (.slice (some ⟨g35,0,none⟩) (toL (val xs)).length (toL (val xs)).length) cs:=by
     have hU:=U32.of_blk (M:=M) E35 (hbd0.not K35) (by unfold maxLen; omega) hcx
     rw [hcl] at hU; exact hU
 refine W.region<|L.k rfl<|L.c rfl (c_nat_trim hU) ?_
 rintro v72 w6 ⟨h72,C6⟩
 replace C0:=C0.trans C6;clear C6
 refine L.b rfl<|L.z<|W.ret<|X.thenRet<|X.result1 rfl (.tmp rfl .nil) ?_
 exact ⟨by rw [hv] at h72; exact h72,C0⟩
theorem c_nat_Shift0 {M : List Nat} {w : World} {va : Value} {xs : List Nat} (h : U32 M w va xs) (hbd : Bd M w) (hl : xs.length ≤ 1099511627776) :
    Ret Tryz.prog 134 #[va,.int .i64 0] w (fun r w'=>U32 M w' r (toL (val xs))∧Mod [] w w'):=by
 have hbd0:=hbd;have hla:=toL_len_40 h.2 hl
 have hs:0<32:=by decide
 refine Ret.of (vs:=[va,.int .i64 0]) (n:=95) Tryz.func134 rfl rfl rfl rfl ?_
 have C0:Mod [] w w:=Mod.refl _ _
 refine W.sr<|L.b rfl<|L.z<|W.sr<|L.k rfl<|L.v ((R1.maxI rfl rfl).as (j:=((0:Nat):Int)) (by decide)) rfl<|L.v ((R1.minI rfl rfl).as (j:=((0:Nat):Int)) (by decide)) rfl<|L.b rfl ?_
 refine L.z<|W.sr<|L.k rfl<|L.c rfl (c_nat_trim (by assumption)) ?_
 rintro v17 w1 ⟨h17,C1⟩
 replace h:=h.gr C1;replace C0:=C0.trans C1;clear C1
 refine L.b rfl<|L.z<|W.seq<|W.sr<|L.k rfl<|L.v ((R1.lt rfl rfl).asB (c:=false) (by simp)) rfl<|L.z<|W.condF rfl ?_
 refine W.skip<|X.seq<|W.sr<|L.k rfl<|L.v ((R1.quoI (b:=32) rfl rfl (by omega) (by omega)).as (j:=((0:Nat):Int)) (by decide)) rfl<|L.b rfl<|L.z<|W.seq<|W.region ?_
 refine L.k rfl<|L.k rfl<|L.lU rfl (by assumption) Q38<|L.v ((R1.addI rfl rfl (by omega)).as (j:=(((toL (val xs)).length:Nat):Int)) (by omega)) rfl<|L.inc rfl rfl (by omega)<|L.makeSlice (m:=((toL (val xs)).length + 1)) rfl rfl rfl rfl Q38 tyZ90 (by omega) (by unfold maxLen; omega) rfl ?_
 intro g80 w2 D80
 replace h:=h.new D80;have K80:=New.ge D80 C0.size;replace C0:=C0.tn D80;replace h17:=h17.new D80;have E80:=D80.blk;clear D80
 rw [uarr_made] at E80
 refine L.b rfl<|L.z<|W.seq<|W.drawW (T:=[11]) rfl (by decide +kernel) (NoHang.then NoHang.post) (fun w3 C3=>?_)
 replace h:=h.gr C3;replace C0:=C0.trans C3;replace h17:=h17.gr C3;replace E80:=E80.gr C3
 have G1:Mod [] w3 w3:=Mod.refl _ _
 clear C3;have hb80_s:=E80
 refine D.z 0 rfl (by kernel_rfl) rfl G1<|D.z 1 rfl (by kernel_rfl) rfl G1<|D.t 2 rfl (by kernel_rfl) (fun _ hS=>(R1.sliceL rfl rfl Q38 (by omega) (by omega)).asV (v:=.slice (some ⟨g80,0,none⟩) ((toL (val xs)).length + 1) ((toL (val xs)).length + 1)) (by rw [Int.toNat_natCast]; exact cutS_lit0 _ _ _ (by omega))) G1<|D.z 3 rfl (by kernel_rfl) rfl G1<|D.z 4 rfl (by kernel_rfl) rfl G1<|D.t 5 rfl (by kernel_rfl) (fun _ hS=>(R1.remI (b:=32) rfl rfl (by omega)).as (j:=((0:Nat):Int)) (by decide)) G1<|D.t 6 rfl (by kernel_rfl) (fun _ hS=>R1.convIL rfl tyI3 tyI117 (by omega)) G1<|D.z 7 rfl (by kernel_rfl) rfl G1<|D.t 8 rfl (by kernel_rfl) (fun _ hS=>R1.lenU rfl (U32.gr (by assumption) hS) Q38) G1<|D.t 9 rfl (by kernel_rfl) (fun _ hS=>R1.addI (b:=1) rfl rfl (by omega)) G1<|D.one 10 rfl (by kernel_rfl) (fun hX=>?_)
 refine L.c rfl (c_nat_left (s:=0) (n:=((toL (val xs)).length + 1)) h17 hs (by omega) (by omega)) ?_
 rintro _ w4 ⟨g91,us91,rfl,K91,E91,hul91,hux91,huv91,C4⟩
 replace C0:=C0.trans C4;replace E80:=E80.gr C4;replace G1:=G1.trans C4;clear C4
 refine L.nil (hX _ _ ⟨.inr G1,?_⟩)
 have hU91:U32 [] w4 (.slice (some ⟨g91,0,none⟩) ((toL (val xs)).length + 1) ((toL (val xs)).length + 1)) us91:=by
     have hU:=U32.of_blk (M:=[]) E91 (by simp) (by unfold maxLen; omega) hux91
     rw [hul91] at hU; exact hU
 refine D.one 11 rfl (by kernel_rfl) (fun hX=>?_)
 refine L.copyAll rfl rfl E80 hU91 (by simp; omega) (by simp) (by omega) Q38 rfl ?_
 intro w5 E80' C5
 replace C0:=C0.old1 C5 K80;clear C5;replace E80:=E80'; clear E80'
 refine L.nil (hX _ _ ⟨.inl rfl,?_⟩)
 refine D.done (by decide +kernel) ?_ _
 refine X.seq<|W.seq ?_
 have hU:U32 M w5 (.slice (some ⟨g80,0,none⟩) ((toL (val xs)).length + 1) ((toL (val xs)).length + 1)) us91:=by
     have hU:=U32.of_blk (M:=M) E80 (hbd0.not K80) (by unfold maxLen; omega) hux91
     rw [hul91] at hU; exact hU
 refine W.region<|L.k rfl<|L.c rfl (c_nat_trim hU) ?_
 rintro v94 w6 ⟨h94,C6⟩
 replace C0:=C0.trans C6;clear C6
 refine L.b rfl<|L.z<|W.ret<|X.result1 rfl (.tmp rfl .nil)<|⟨?_,C0⟩
 have hv:=val_lt (toL (val xs)) (toL_lt _)
 rw [val_toL] at hv
 have hv2:val xs<4294967296 ^ ((toL (val xs)).length + 1):=by rw [pow_LB_succ]; omega
 rw [val_toL,Nat.pow_zero,Nat.mul_one,Nat.mod_eq_of_lt hv2] at huv91
 rw [huv91] at h94
 exact h94
theorem c_nat_Shift {M : List Nat} {w : World} {va : Value} {xs : List Nat} {s : Nat} (h : U32 M w va xs) (hs : s < 32) (hbd : Bd M w) (hl : xs.length ≤ 1099511627776) :
    Ret Tryz.prog 134 #[va,.int .i64 (-(s:Int))] w (fun r w'=>U32 M w' r (toL (val xs / 2 ^ s))∧Mod [] w w'):=by
  rcases Nat.eq_zero_or_pos s with h0 | h0
  · subst h0
    simpa using c_nat_Shift0 h hbd hl
  exact c_nat_ShiftR h h0 hs hbd hl
end Go.Proofs.YthoooolflmbmbaaGreat
end
