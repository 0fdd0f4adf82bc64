/- Walks: what the functions compute. -/
import Derived.Test.YthoooolflmbmbaaGreatNat3
import Derived.Test.YthoooolflmbmbaaGreatNum3
namespace Go.Proofs.YthoooolflmbmbaaGreat
open Go.RowKit
set_option linter.unusedVariables false
set_option linter.unusedSimpArgs false
set_option maxRecDepth 10000
theorem c_nat_left {M : List Nat} {w : World} {va : Value} {xs : List Nat} {s n : Nat} (h : U32 M w va xs) (hs : s < 32) (hn : xs.length ≤ n) (hl : n ≤ 2199023255552) :
    Ret Tryz.prog 131 #[va,.int .u64 (s:Int),.int .i64 (n:Int)] w (fun r w'=>∃ g cs,r=.slice (some ⟨g,0,none⟩) n n∧w.heap.size≤g∧Blk w' g 90 (uarr cs)∧cs.length=n∧(∀ x∈cs,x<4294967296)∧val cs=val xs * 2 ^ s % 4294967296 ^ n∧Mod [] w w'):=by
 have hx:=h.2
 refine Ret.of (vs:=[va,.int .u64 (s:Int),.int .i64 (n:Int)]) (n:=45) Tryz.func131 rfl rfl rfl rfl ?_
 have C0:Mod [] w w:=Mod.refl _ _
 refine W.sr<|L.b rfl<|L.z<|W.sr<|L.k rfl<|L.makeSlice (m:=n) rfl rfl rfl rfl Q38 tyZ90 (by omega) (by unfold maxLen; omega) rfl ?_
 intro g12 w1 D12
 replace h:=h.new D12;have K12:=New.ge D12 C0.size;replace C0:=C0.tn D12;have E12:=D12.blk;clear D12
 rw [uarr_made] at E12
 refine L.b rfl<|L.z<|W.seq<|W.sr<|L.k rfl<|L.lU rfl (by assumption) Q38<|L.k rfl<|L.z ?_
 refine W.block<|W.loop (ι:=Nat × List Nat) (fun (i,cs)=>[(0,va),(1,.int .u64 (s:Int)),(2,.int .i64 (n:Int)),(7,.slice (some ⟨g12,0,none⟩) n n),(13,va),(14,.int .i64 (xs.length:Int)),(15,.int .i64 (i:Int))]) (fun (i,cs) w_=>i≤xs.length∧cs.length=n∧(∀ x∈cs,x<4294967296)∧val cs=val (xs.take i) * 2 ^ s % 4294967296 ^ n∧Blk w_ g12 90 (uarr cs)∧U32 (g12 :: M) w_ va xs∧Mod [] w w_) (fun (i,cs)=>xs.length - i) (0,List.replicate n 0) ?_ ?_ ?_
 · repeat' constructor
 ·
  exact ⟨Nat.zero_le _,by simp,rep_lt _,by simp [val,val_replicate],E12,h,C0⟩
 rintro ⟨i,cs⟩ w2 ⟨hk,hcl,hcx,hv,E12,h,C0⟩
 refine W.sr<|L.lt rfl rfl<|L.z<|W.seq<|W.cond rfl ?_ ?_
 ·
  intro J16
  try simp only [bq,ne_eq] at J16
  have hi1:i<xs.length:=by omega
  have hxi:=h.lt hi1;have hw:=shl_lt hxi hs;obtain ⟨hS,G1,G2⟩:=left_cell hx hs hk (show i<n by omega) hv;have hcell:=cell_lt_pow G1 (show i<cs.length by omega);have hp32:=pow32_le hs;have hci:=hcx _ (List.getElem_mem (show i<cs.length by omega))
  have hsum:cs[i] + xs[i] * 2 ^ s % 4294967296<4294967296:=by
      have:=or_low (v:=xs[i]) hcell hs
      rw [← this]
      exact Nat.or_lt_two_pow (n:=32) hci (Nat.mod_lt _ (by decide))
  have e1:=val_set (xs:=cs) (j:=i) (by omega) (cs[i] + xs[i] * 2 ^ s % 4294967296)
  rw [Nat.mul_add] at e1
  have hww:=Nat.mod_add_div (xs[i] * 2 ^ s) 4294967296
  refine W.skip<|X.seq<|W.seq<|W.block<|W.sr<|L.k rfl<|L.v (R1.atU (j:=i) rfl rfl (by assumption) Q38 rfl (by omega)) rfl<|L.v (R1.ldU rfl (by assumption) tyP90 (by omega) rfl) rfl<|L.b rfl<|L.b rfl ?_
  refine L.z<|W.sr<|L.k rfl<|L.v (R1.convWL rfl tyI90 tyI87 (by omega)) rfl<|L.k rfl<|L.v ((R1.shlL rfl rfl (by omega)).as (j:=((xs[i] * 2 ^ s:Nat):Int)) (by rw [Nat.mod_eq_of_lt (by omega)])) rfl<|L.b rfl<|L.z ?_
  refine W.sr<|L.k rfl<|L.k rfl<|L.v (R1.atO (j:=i) rfl rfl Q38 rfl (by omega)) rfl<|L.v (R1.ldO rfl (by assumption) (by omega) tyP90 rfl) rfl<|L.k rfl<|L.v (R1.convLW rfl tyI87 tyI90) rfl<|L.v ((R1.orW rfl rfl (by omega) (by omega)).as (j:=((cs[i] + xs[i] * 2 ^ s % 4294967296:Nat):Int)) (congrArg (fun n:Nat=>(n:Int)) (or_low hcell hs))) rfl<|L.v (R1.atO (j:=i) rfl rfl Q38 rfl (by omega)) rfl<|L.storeU rfl rfl E12 (by omega) tyP90 ?_
  intro w3 E12' C3
  replace h:=h.ms C3;replace C0:=C0.old1 C3 K12;clear C3;replace E12:=E12'; clear E12'
  refine L.z<|W.sr<|L.k rfl<|L.inc rfl rfl (by omega)<|L.k rfl<|L.lt rfl rfl<|L.z<|W.cut (ι:=List Nat) (fun cs2=>[(0,va),(1,.int .u64 (s:Int)),(2,.int .i64 (n:Int)),(7,.slice (some ⟨g12,0,none⟩) n n),(13,va),(14,.int .i64 (xs.length:Int)),(15,.int .i64 (i:Int))]) (fun cs2 w_=>cs2.length=n∧(∀ x∈cs2,x<4294967296)∧val cs2=val (xs.take (i + 1)) * 2 ^ s % 4294967296 ^ n∧Blk w_ g12 90 (uarr cs2)∧U32 (g12 :: M) w_ va xs∧Mod [] w w_) ?_ ?_
  ·
   refine W.cond rfl ?_ ?_
   ·
    intro J35
    try simp only [bq,ne_eq] at J35
    have e2:=val_set (xs:=cs.set i (cs[i] + xs[i] * 2 ^ s % 4294967296)) (j:=i + 1) (by simp; omega) (xs[i] * 2 ^ s / 4294967296);have hz:=zero_above G2 (show i + 1<cs.length by omega) (Nat.le_refl _)
    rw [List.getElem_set_ne (by omega),hz,pow_LB_succ] at e2
    refine W.region<|L.k rfl<|L.k rfl<|L.inc rfl rfl (by omega)<|L.k rfl<|L.v (R1.shr32 rfl rfl) rfl<|L.v ((R1.convLW rfl tyI87 tyI90).as (j:=((xs[i] * 2 ^ s / 4294967296:Nat):Int)) (by omega)) rfl<|L.v (R1.atO (j:=(i + 1)) rfl rfl Q38 rfl (by omega)) rfl<|L.storeU rfl rfl E12 (by simp; omega) tyP90 ?_
    intro w4 E12' C4
    replace h:=h.ms C4;replace C0:=C0.old1 C4 K12;clear C4;replace E12:=E12'; clear E12'
    refine L.nil<|X.join ((cs.set i (cs[i] + xs[i] * 2 ^ s % 4294967296)).set (i + 1) (xs[i] * 2 ^ s / 4294967296)) ?_ ?_
    · repeat' constructor
    have hcs2:∀ x∈((cs.set i (cs[i] + xs[i] * 2 ^ s % 4294967296)).set (i + 1) (xs[i] * 2 ^ s / 4294967296)),x<4294967296:=set_lt (set_lt hcx hsum) (by omega)
    refine ⟨by simpa using hcl,hcs2,?_,E12,h,C0⟩
    have e3:=left_step2 (S:=val cs) (S':=val (cs.set i (cs[i] + xs[i] * 2 ^ s % 4294967296))) (S0:=val ((cs.set i (cs[i] + xs[i] * 2 ^ s % 4294967296)).set (i + 1) (xs[i] * 2 ^ s / 4294967296))) (P:=4294967296 ^ i) (c1:=val (xs.take i)) (by omega) (by omega) hww hS
    rw [val_take_succ hi1,← e3]
    exact (Nat.mod_eq_of_lt (val_lt_len hcs2 (by simpa using hcl))).symm
   intro J35
   try simp only [bq,ne_eq] at J35
   refine W.skip<|X.join (cs.set i (cs[i] + xs[i] * 2 ^ s % 4294967296)) ?_ ?_
   · repeat' constructor
   have hcs2:∀ x∈(cs.set i (cs[i] + xs[i] * 2 ^ s % 4294967296)),x<4294967296:=set_lt hcx hsum
   refine ⟨by simpa using hcl,hcs2,?_,E12,h,C0⟩
   obtain rfl:n=i + 1:=by omega
   have hlt:=val_lt_len (n:=i + 1) hcs2 (by simpa using hcl)
   rw [pow_LB_succ] at hlt
   rw [val_take_succ hi1,pow_LB_succ]
   exact left_last (S:=val cs) (P:=4294967296 ^ i) (c1:=val (xs.take i)) (by omega) hww hS hlt
  rintro cs2 wk ⟨hcl2,hcx2,hv2,E12,h,C0⟩
  refine X.blockEnd<|X.seq<|W.region<|L.inc rfl rfl (by omega)<|L.k rfl<|L.nil<|X.next (i + 1,cs2) ?_ ?_ ?_
  · repeat' constructor
  ·
   exact ⟨by omega,hcl2,hcx2,hv2,E12,h,C0⟩
  first | omega | (dsimp only; omega)
 intro J16
 try simp only [bq,ne_eq] at J16
 obtain rfl:i=xs.length:=by omega
 rw [List.take_length] at hv
 refine W.brk<|W.sr<|L.k rfl<|L.b rfl<|L.z ?_
 refine W.ret<|X.result1 rfl (.tmp rfl .nil) ?_
 exact ⟨_,_,rfl,K12,E12,hcl,hcx,hv,C0⟩
theorem c_nat_guess {w : World} {u2 u1 u0 b1 b2 : Nat} (h2 : u2 ≤ b1) (h1 : u1 < 4294967296) (h0 : u0 < 4294967296) (E1 : 2147483648 ≤ b1) (hb1x : b1 < 4294967296) (E2 : b2 < 4294967296) :
    Ret Tryz.prog 132 #[.int .u32 (u2:Int),.int .u32 (u1:Int),.int .u32 (u0:Int),.int .u32 (b1:Int),.int .u32 (b2:Int)] w (fun r w'=>∃ x:Nat,r=.int .u64 (x:Int)∧x<4294967296∧x * (b1 * 4294967296 + b2)≤((u2 * 4294967296 + u1) * 4294967296 + u0)∧(4294967296≤x + 1∨((u2 * 4294967296 + u1) * 4294967296 + u0)<(x + 1) * (b1 * 4294967296 + b2))∧Mod [] w w'):=by
 have hdm:=Nat.div_add_mod (u2 * 4294967296 + u1) b1
 have hrm:(u2 * 4294967296 + u1) % b1<b1:=Nat.mod_lt _ (by omega)
 refine Ret.of (vs:=[.int .u32 (u2:Int),.int .u32 (u1:Int),.int .u32 (u0:Int),.int .u32 (b1:Int),.int .u32 (b2:Int)]) (n:=53) Tryz.func132 rfl rfl rfl rfl ?_
 have C0:Mod [] w w:=Mod.refl _ _
 refine W.sr<|L.b rfl<|L.z<|W.sr<|L.k rfl<|L.v (R1.convWL rfl tyI90 tyI87 (by omega)) rfl<|L.v (R1.shl32 rfl rfl (by omega)) rfl<|L.k rfl ?_
 refine L.v (R1.convWL rfl tyI90 tyI87 (by omega)) rfl<|L.v ((R1.orL rfl rfl (by omega) (by omega)).as (j:=(((u2 * 4294967296 + u1):Nat):Int)) (congrArg (fun n:Nat=>(n:Int)) (or32 h1))) rfl<|L.b rfl<|L.z<|W.seq<|W.drawW (T:=[]) rfl (by decide +kernel) (NoHang.then NoHang.post) (fun w1 C1=>?_)
 replace C0:=C0.trans C1
 have G1:Mod [] w1 w1:=Mod.refl _ _
 clear C1
 refine D.z 0 rfl (by kernel_rfl) rfl G1<|D.z 1 rfl (by kernel_rfl) rfl G1<|D.t 2 rfl (by kernel_rfl) (fun _ hS=>R1.convWL rfl tyI90 tyI87 (by omega)) G1<|D.t 3 rfl (by kernel_rfl) (fun _ hS=>R1.quoL rfl rfl (by omega) (by omega)) G1<|D.z 4 rfl (by kernel_rfl) rfl G1<|D.z 5 rfl (by kernel_rfl) rfl G1<|D.t 6 rfl (by kernel_rfl) (fun _ hS=>R1.convWL rfl tyI90 tyI87 (by omega)) G1<|D.t 7 rfl (by kernel_rfl) (fun _ hS=>R1.remL rfl rfl (by omega)) G1<|D.t 8 rfl (by kernel_rfl) (fun _ hS=>R1.assign rfl) G1<|D.t 9 rfl (by kernel_rfl) (fun _ hS=>R1.assign rfl) G1<|D.done (by decide +kernel) ?_ _
 refine X.seq<|W.seq<|W.block<|W.loop (ι:=Nat × Nat) (fun (q,r)=>[(2,.int .u32 (u0:Int)),(3,.int .u32 (b1:Int)),(4,.int .u32 (b2:Int)),(12,.int .u64 (q:Int)),(13,.int .u64 (r:Int))]) (fun (q,r) w_=>q * b1 + r=(u2 * 4294967296 + u1)∧r<4294967296∧q≤4294967297∧(4294967296≤q + 1∨((u2 * 4294967296 + u1) * 4294967296 + u0)<(q + 1) * (b1 * 4294967296 + b2))∧Mod [] w w_) (fun (q,r)=>q) ((u2 * 4294967296 + u1) / b1,(u2 * 4294967296 + u1) % b1) ?_ ?_ ?_
 · repeat' constructor
 ·
  exact ⟨by rw [Nat.mul_comm]; exact hdm,by omega,guess_le h1 h2 E1,.inr (guess_first h0 (by omega)),C0⟩
 rintro ⟨q,r⟩ w2 ⟨hqr,hr,hqm,hlo,C0⟩
 refine W.seq<|W.sr<|L.k rfl<|L.v (R1.shr32 rfl rfl) rfl<|L.v ((R1.ne rfl rfl).asB (c:=decide (4294967296≤q)) (by congr 1; apply propext; omega)) rfl<|L.k rfl ?_
 cases W31:decide (4294967296≤q)
 ·
  try simp only [bq,ne_eq] at W31
  have hqb:=limb_mul (Nat.lt_of_not_le W31) E2
  refine L.p rfl (R1.move rfl)<|L.p rfl (R1.move rfl)<|L.p rfl (R1.convWL rfl tyI90 tyI87 (by omega))<|L.p rfl (R1.mulL rfl rfl (by omega))<|L.p rfl (R1.move rfl)<|L.p rfl (R1.shl32 rfl rfl (by omega))<|L.p rfl (R1.move rfl)<|L.p rfl (R1.convWL rfl tyI90 tyI87 (by omega))<|L.p rfl ((R1.orL rfl rfl (by omega) (by omega)).as (j:=((r * 4294967296 + u0:Nat):Int)) (congrArg (fun n:Nat=>(n:Int)) (or32 h0)))<|L.p rfl (R1.gt rfl rfl)<|L.pF rfl rfl ?_
  refine L.z<|W.cond rfl ?_ ?_
  ·
   intro J42
   try simp only [bq,ne_eq] at J42
   have hq1:0<q:=by
       rcases Nat.eq_zero_or_pos q with h9 | h9
       · subst h9; simp at J42; omega
       exact h9
   have hdn:=guess_down hqr (show r * 4294967296 + u0<q * b2 by omega)
   refine W.skip<|X.seq<|W.block<|W.sr<|L.k rfl<|L.v (R1.subL (b:=1) rfl rfl (by omega) (by omega)) rfl<|L.b rfl<|L.z<|W.seq ?_
   refine W.region<|L.k rfl<|L.k rfl<|L.v (R1.convWL rfl tyI90 tyI87 (by omega)) rfl<|L.v (R1.addL rfl rfl (by omega)) rfl<|L.b rfl<|L.z<|W.sr<|L.k rfl ?_
   refine L.v (R1.shr32 rfl rfl) rfl<|L.v (R1.ne rfl rfl) rfl<|L.z<|W.cond rfl ?_ ?_
   ·
    intro J51
    try simp only [bq,ne_eq] at J51
    have hqq:q - 1 + 1=q:=by omega
    have hinv:(q - 1) * b1 + (r + b1)=(u2 * 4294967296 + u1):=by
        rw [← hqr]
        conv=>rhs; rw [← hqq,Nat.add_mul,Nat.one_mul]
        omega
    refine W.exit<|X.past rfl<|X.nextExit<|X.here<|X.seq<|W.sr<|L.k rfl<|L.b rfl<|L.z ?_
    refine W.ret<|X.result1 rfl (.tmp rfl .nil) ?_
    first
      | exact ⟨q,rfl,Nat.lt_of_not_le W31,hok,hlo,C0⟩
      | (obtain ⟨z1, z2⟩ := guess_brk (u0 := u0) hinv h1 (show 4294967296 ≤ r + b1 by omega) E2 h2
         refine ⟨q - 1,rfl,z1,z2,?_,C0⟩
         rw [hqq]
         first | exact .inr hdn | exact .inl W31)
   intro J51
   try simp only [bq,ne_eq] at J51
   have hqq:q - 1 + 1=q:=by omega
   have hinv:(q - 1) * b1 + (r + b1)=(u2 * 4294967296 + u1):=by
       rw [← hqr]
       conv=>rhs; rw [← hqq,Nat.add_mul,Nat.one_mul]
       omega
   refine W.skip<|X.blockEnd<|X.next (q - 1,r + b1) ?_ ?_ ?_
   · repeat' constructor
   ·
    refine ⟨hinv,by omega,by omega,?_,C0⟩
    rw [hqq]
    first | exact .inr hdn | exact .inl W31
   first | omega | (dsimp only; omega)
  intro J42
  try simp only [bq,ne_eq] at J42
  have hok:=guess_ok hqr (show q * b2≤r * 4294967296 + u0 by omega)
  refine W.brk<|W.sr<|L.k rfl<|L.b rfl<|L.z ?_
  refine W.ret<|X.result1 rfl (.tmp rfl .nil) ?_
  first
    | exact ⟨q,rfl,Nat.lt_of_not_le W31,hok,hlo,C0⟩
    | (obtain ⟨z1, z2⟩ := guess_brk (u0 := u0) hinv h1 (show 4294967296 ≤ r + b1 by omega) E2 h2
       refine ⟨q - 1,rfl,z1,z2,?_,C0⟩
       rw [hqq]
       first | exact .inr hdn | exact .inl W31)
 try simp only [bq,ne_eq] at W31
 refine L.o rfl<|L.o rfl<|L.o rfl<|L.o rfl<|L.o rfl<|L.o rfl<|L.o rfl<|L.o rfl<|L.o rfl<|L.o rfl<|L.pT rfl rfl ?_
 refine L.z<|W.condT rfl<|W.skip<|X.seq<|W.block<|W.sr<|L.k rfl<|L.v (R1.subL (b:=1) rfl rfl (by omega) (by omega)) rfl<|L.b rfl ?_
 refine L.z<|W.sr<|L.k rfl<|L.k rfl<|L.v (R1.convWL rfl tyI90 tyI87 (by omega)) rfl<|L.v (R1.addL rfl rfl (by omega)) rfl<|L.b rfl<|L.z ?_
 refine W.sr<|L.k rfl<|L.v (R1.shr32 rfl rfl) rfl<|L.v (R1.ne rfl rfl) rfl<|L.z<|W.cond rfl ?_ ?_
 ·
  intro J51
  try simp only [bq,ne_eq] at J51
  have hqq:q - 1 + 1=q:=by omega
  have hinv:(q - 1) * b1 + (r + b1)=(u2 * 4294967296 + u1):=by
      rw [← hqr]
      conv=>rhs; rw [← hqq,Nat.add_mul,Nat.one_mul]
      omega
  refine W.exit<|X.past rfl<|X.nextExit<|X.here<|X.seq<|W.sr<|L.k rfl<|L.b rfl<|L.z ?_
  refine W.ret<|X.result1 rfl (.tmp rfl .nil) ?_
  first
    | exact ⟨q,rfl,Nat.lt_of_not_le W31,hok,hlo,C0⟩
    | (obtain ⟨z1, z2⟩ := guess_brk (u0 := u0) hinv h1 (show 4294967296 ≤ r + b1 by omega) E2 h2
       refine ⟨q - 1,rfl,z1,z2,?_,C0⟩
       rw [hqq]
       first | exact .inr hdn | exact .inl W31)
 intro J51
 try simp only [bq,ne_eq] at J51
 have hqq:q - 1 + 1=q:=by omega
 have hinv:(q - 1) * b1 + (r + b1)=(u2 * 4294967296 + u1):=by
     rw [← hqr]
     conv=>rhs; rw [← hqq,Nat.add_mul,Nat.one_mul]
     omega
 refine W.skip<|X.blockEnd<|X.next (q - 1,r + b1) ?_ ?_ ?_
 · repeat' constructor
 ·
  refine ⟨hinv,by omega,by omega,?_,C0⟩
  rw [hqq]
  first | exact .inr hdn | exact .inl W31
 first | omega | (dsimp only; omega)
theorem c_nat_takes {M : List Nat} {w : World} {g o cap : Nat} {cs : List Nat} {vb : Value} {bs : List Nat} {q : Nat} (hb : Blk w g 90 (uarr cs)) (hcx : ∀ x ∈ cs, x < 4294967296) (h : U32 (g :: M) w vb bs) (hlen : o + bs.length + 1 ≤ cs.length) (hq : q < 4294967296) (hmax : cs.length ≤ 4398046511104) (hqD : q * val bs ≤ seg cs o bs.length + val bs) :
    Ret Tryz.prog 133 #[.slice (some ⟨g,o,none⟩) (bs.length + 1) cap,vb,.int .u64 (q:Int)] w (fun r w'=>∃ ds,Blk w' g 90 (uarr ds)∧ds.length=cs.length∧(∀ x∈ds,x<4294967296)∧((r=.bool false∧val ds + 4294967296 ^ o * (q * val bs)=val cs∧q * val bs≤seg cs o bs.length)∨(r=.bool true∧val ds + 4294967296 ^ o * (q * val bs)=val cs + 4294967296 ^ o * val bs∧seg cs o bs.length<q * val bs))∧Mod [g] w w'):=by
 have C0:Mod [g] w w:=Mod.refl _ _
 refine Ret.of (vs:=[.slice (some ⟨g,o,none⟩) (bs.length + 1) cap,vb,.int .u64 (q:Int)]) (n:=91) Tryz.func133 rfl rfl rfl rfl<|W.sr<|L.b rfl<|L.z<|W.sr<|L.b rfl<|L.b rfl<|L.nil ?_
 refine X.seq<|W.seq<|W.sr<|L.k rfl<|L.lU rfl (by assumption) Q38<|L.k rfl<|L.z<|W.block<|W.loop (ι:=Nat × Nat × Nat × List Nat) (fun (k,c,bw,cs2)=>[(0,.slice (some ⟨g,o,none⟩) (bs.length + 1) cap),(1,vb),(2,.int .u64 (q:Int)),(7,.int .u64 (c:Int)),(8,.int .u32 (bw:Int)),(14,vb),(15,.int .i64 (bs.length:Int)),(16,.int .i64 (k:Int))]) (fun (k,c,bw,cs2) w_=>k≤bs.length∧c<4294967296∧bw≤1∧cs2.length=cs.length∧(∀ x∈cs2,x<4294967296)∧cs2.take o=cs.take o∧cs2.drop (o + bs.length + 1)=cs.drop (o + bs.length + 1)∧val cs2 + 4294967296 ^ o * (q * val (bs.take k))=val cs + 4294967296 ^ o * 4294967296 ^ k * (c + bw)∧Blk w_ g 90 (uarr cs2)∧U32 (g :: M) w_ vb bs∧Mod [g] w w_) (fun (k,c,bw,cs2)=>bs.length - k) (0,0,0,cs) ?_ ?_ ?_
 · repeat' constructor
 ·
  exact ⟨Nat.zero_le _,by decide,by decide,rfl,hcx,rfl,rfl,by simp [val],hb,h,C0⟩
 rintro ⟨k,c,bw,cs2⟩ w1 ⟨hk,hc,hbw,hcl,hcx2,htk,hdr,hv,hb,h,C0⟩
 refine W.sr<|L.lt rfl rfl<|L.z<|W.seq<|W.cond rfl ?_ ?_
 ·
  intro J17
  try simp only [bq,ne_eq] at J17
  have hk1:k<bs.length:=by omega
  have hbk:=h.lt hk1;have hqb:=limb_mul hq hbk
  refine W.skip<|X.seq<|W.seq<|W.block<|W.sr<|L.k rfl<|L.v (R1.atU (j:=k) rfl rfl (by assumption) Q38 rfl (by omega)) rfl<|L.v (R1.ldU rfl (by assumption) tyP90 (by omega) rfl) rfl<|L.b rfl<|L.b rfl ?_
  refine L.z<|W.sr<|L.k rfl<|L.k rfl<|L.k rfl<|L.v (R1.convWL rfl tyI90 tyI87 (by omega)) rfl<|L.v (R1.mulL rfl rfl (by omega)) rfl<|L.v (R1.addL rfl rfl (by omega)) rfl<|L.b rfl ?_
  refine L.z<|W.sr<|L.k rfl<|L.k rfl<|L.k rfl<|L.k rfl<|L.v (R1.atAt (j:=k) rfl rfl Q38 rfl (by omega)) rfl<|L.v (R1.ldO rfl (by assumption) (by omega) tyP90 rfl) rfl<|L.k rfl ?_
  refine L.v (R1.convLW rfl tyI87 tyI90) rfl<|L.k rfl<|L.c rfl (c_Sub32 (hcx2 _ (List.getElem_mem (show o + k<cs2.length by omega))) (Nat.mod_lt _ (by decide)) hbw) ?_
  rintro _ w2 ⟨rfl,C2⟩
  replace hb:=hb.gr C2;replace h:=h.gr C2;replace C0:=C0.trans (C2.mono (by simp));clear C2
  refine L.k rfl<|L.ex rfl rfl<|L.ex rfl rfl<|L.v (R1.atAt (j:=k) rfl rfl Q38 rfl (by omega)) rfl<|L.storeU rfl rfl hb (by omega) tyP90 ?_
  intro w3 hb' C3
  replace h:=h.ms C3;replace C0:=C0.trans (C3.mono (by simp));clear C3;replace hb:=hb'; clear hb'
  refine L.b rfl<|L.z<|W.region<|L.k rfl<|L.v (R1.shr32 rfl rfl) rfl<|L.b rfl<|L.nil<|X.blockEnd<|X.seq<|W.region ?_
  refine L.inc rfl rfl (by omega)<|L.k rfl<|L.nil<|X.next (k + 1,(c + q * bs[k]) / 4294967296,subB cs2[o + k] ((c + q * bs[k]) % 4294967296) bw,cs2.set (o + k) (subW cs2[o + k] ((c + q * bs[k]) % 4294967296) bw)) ?_ ?_ ?_
  · repeat' constructor
  ·
   refine ⟨by omega,by omega,subB_le _ _ _,by simpa using hcl,set_lt hcx2 (subW_lt _ _ _),by rw [List.take_set_of_le (by omega)]; exact htk,by rw [List.drop_set_of_lt (by omega)]; exact hdr,?_,hb,h,C0⟩
   have e1:=val_set (xs:=cs2) (j:=o + k) (by omega) (subW cs2[o + k] ((c + q * bs[k]) % 4294967296) bw)
   rw [Nat.pow_add] at e1
   rw [val_take_succ hk1,pow_LB_succ,show 4294967296 ^ o * (4294967296 * 4294967296 ^ k)=4294967296 * (4294967296 ^ o * 4294967296 ^ k) by rw [Nat.mul_left_comm]]
   exact takes_step e1 hv (Nat.mod_add_div _ _) (subW_eq (hcx2 _ (List.getElem_mem (show o + k<cs2.length by omega))) (Nat.mod_lt _ (by decide)) hbw)
  first | omega | (dsimp only; omega)
 intro J17
 try simp only [bq,ne_eq] at J17
 obtain rfl:k=bs.length:=by omega
 rw [List.take_length] at hv
 refine W.brk<|W.sr<|L.k rfl<|L.k rfl<|L.lU rfl (by assumption) Q38<|L.k rfl ?_
 refine L.k rfl<|L.lU rfl (by assumption) Q38<|L.v (R1.atAt (j:=bs.length) rfl rfl Q38 rfl (by omega)) rfl<|L.v (R1.ldO rfl (by assumption) (by omega) tyP90 rfl) rfl<|L.k rfl<|L.v ((R1.convLW rfl tyI87 tyI90).as (j:=((c:Nat):Int)) (by omega)) rfl<|L.k rfl<|L.c rfl (c_Sub32 (hcx2 _ (List.getElem_mem (show o + bs.length<cs2.length by omega))) hc hbw) ?_
 rintro _ w4 ⟨rfl,C4⟩
 replace hb:=hb.gr C4;replace h:=h.gr C4;replace C0:=C0.trans (C4.mono (by simp));clear C4
 refine L.k rfl<|L.ex rfl rfl<|L.ex rfl rfl<|L.v (R1.atAt (j:=bs.length) rfl rfl Q38 rfl (by omega)) rfl<|L.storeU rfl rfl hb (by omega) tyP90 ?_
 intro w5 hb' C5
 replace h:=h.ms C5;replace C0:=C0.trans (C5.mono (by simp));clear C5;replace hb:=hb'; clear hb'
 refine L.b rfl<|L.z<|W.seq<|W.seq ?_
 have hfin:val (cs2.set (o + bs.length) (subW cs2[o + bs.length] c bw)) + 4294967296 ^ o * (q * val bs)=val cs + 4294967296 * (4294967296 ^ o * 4294967296 ^ bs.length) * subB cs2[o + bs.length] c bw:=by
     have e1:=val_set (xs:=cs2) (j:=o + bs.length) (by omega) (subW cs2[o + bs.length] c bw)
     rw [Nat.pow_add] at e1
     exact takes_last e1 hv (subW_eq (hcx2 _ (List.getElem_mem (show o + bs.length<cs2.length by omega))) hc hbw)
 have hdl:(cs2.set (o + bs.length) (subW cs2[o + bs.length] c bw)).length=cs.length:=by simpa using hcl
 have hdx:∀ x∈(cs2.set (o + bs.length) (subW cs2[o + bs.length] c bw)),x<4294967296:=set_lt hcx2 (subW_lt _ _ _)
 have hdt:(cs2.set (o + bs.length) (subW cs2[o + bs.length] c bw)).take o=cs.take o:=by rw [List.take_set_of_le (by omega)]; exact htk
 have hdd:(cs2.set (o + bs.length) (subW cs2[o + bs.length] c bw)).drop (o + bs.length + 1)=cs.drop (o + bs.length + 1):=by rw [List.drop_set_of_lt (by omega)]; exact hdr
 refine W.region<|L.k rfl<|L.v (R1.eq rfl rfl) rfl<|L.z<|W.cond rfl ?_ ?_
 ·
  intro J61
  try simp only [bq,ne_eq] at J61
  rw [show subB cs2[o + bs.length] c bw=0 by omega] at hfin
  refine W.sr<|L.b rfl<|L.z<|W.ret<|X.thenRet<|X.result1 rfl (.tmp rfl .nil) ?_
  have hz:=takes_false hlen (by omega) hdt hdd hfin
  exact ⟨_,hb,hdl,hdx,.inl ⟨rfl,hz.1,hz.2⟩,C0⟩
 intro J61
 try simp only [bq,ne_eq] at J61
 rw [show subB cs2[o + bs.length] c bw=1 by have:=subB_le cs2[o + bs.length] c bw; omega] at hfin
 obtain ⟨ds,hds⟩:∃ ds,ds=cs2.set (o + bs.length) (subW cs2[o + bs.length] c bw):=⟨_,rfl⟩
 rw [← hds] at hb hfin hdl hdx hdt hdd
 refine W.skip<|X.seq<|W.sr<|L.b rfl<|L.z<|W.seq<|W.sr<|L.k rfl ?_
 refine L.lU rfl (by assumption) Q38<|L.k rfl<|L.z<|W.block<|W.loop (ι:=Nat × Nat × List Nat) (fun (k,mo,cs3)=>[(0,.slice (some ⟨g,o,none⟩) (bs.length + 1) cap),(1,vb),(11,.int .u32 (mo:Int)),(62,vb),(63,.int .i64 (bs.length:Int)),(64,.int .i64 (k:Int))]) (fun (k,mo,cs3) w_=>k≤bs.length∧mo≤1∧cs3.length=cs.length∧(∀ x∈cs3,x<4294967296)∧cs3.take o=cs.take o∧cs3.drop (o + bs.length + 1)=cs.drop (o + bs.length + 1)∧val cs3 + 4294967296 ^ o * 4294967296 ^ k * mo=val ds + 4294967296 ^ o * val (bs.take k)∧Blk w_ g 90 (uarr cs3)∧U32 (g :: M) w_ vb bs∧Mod [g] w w_) (fun (k,mo,cs3)=>bs.length - k) (0,0,ds) ?_ ?_ ?_
 · repeat' constructor
 ·
  exact ⟨Nat.zero_le _,by decide,hdl,hdx,hdt,hdd,by simp [val],hb,h,C0⟩
 rintro ⟨k,mo,cs3⟩ w6 ⟨hk,hmo,hcl3,hcx3,htk3,hdr3,hv3,hb,h,C0⟩
 refine W.sr<|L.lt rfl rfl<|L.z<|W.seq<|W.cond rfl ?_ ?_
 ·
  intro J65
  try simp only [bq,ne_eq] at J65
  have hk1:k<bs.length:=by omega
  have hbk:=h.lt hk1
  refine W.skip<|X.seq<|W.seq<|W.block<|W.sr<|L.k rfl<|L.v (R1.atU (j:=k) rfl rfl (by assumption) Q38 rfl (by omega)) rfl<|L.v (R1.ldU rfl (by assumption) tyP90 (by omega) rfl) rfl<|L.b rfl<|L.b rfl ?_
  refine L.z<|W.region<|L.k rfl<|L.k rfl<|L.k rfl<|L.k rfl<|L.v (R1.atAt (j:=k) rfl rfl Q38 rfl (by omega)) rfl<|L.v (R1.ldO rfl (by assumption) (by omega) tyP90 rfl) rfl<|L.k rfl<|L.k rfl ?_
  refine L.c rfl (c_Add32 (hcx3 _ (List.getElem_mem (show o + k<cs3.length by omega))) hbk hmo) ?_
  rintro _ w7 ⟨rfl,C7⟩
  replace hb:=hb.gr C7;replace h:=h.gr C7;replace C0:=C0.trans (C7.mono (by simp));clear C7
  refine L.k rfl<|L.ex rfl rfl<|L.ex rfl rfl<|L.v (R1.atAt (j:=k) rfl rfl Q38 rfl (by omega)) rfl<|L.storeU rfl rfl hb (by omega) tyP90 ?_
  intro w8 hb' C8
  replace h:=h.ms C8;replace C0:=C0.trans (C8.mono (by simp));clear C8;replace hb:=hb'; clear hb'
  refine L.b rfl<|L.nil<|X.blockEnd<|X.seq<|W.region<|L.inc rfl rfl (by omega)<|L.k rfl<|L.nil<|X.next (k + 1,(cs3[o + k] + bs[k] + mo) / 4294967296,cs3.set (o + k) ((cs3[o + k] + bs[k] + mo) % 4294967296)) ?_ ?_ ?_
  · repeat' constructor
  ·
   have hck:=hcx3 _ (List.getElem_mem (show o + k<cs3.length by omega))
   refine ⟨by omega,by omega,by simpa using hcl3,set_lt hcx3 (Nat.mod_lt _ (by decide)),by rw [List.take_set_of_le (by omega)]; exact htk3,by rw [List.drop_set_of_lt (by omega)]; exact hdr3,?_,hb,h,C0⟩
   have e1:=val_set (xs:=cs3) (j:=o + k) (by omega) ((cs3[o + k] + bs[k] + mo) % 4294967296)
   rw [Nat.pow_add] at e1
   rw [val_take_succ hk1,pow_LB_succ,show 4294967296 ^ o * (4294967296 * 4294967296 ^ k)=4294967296 * (4294967296 ^ o * 4294967296 ^ k) by rw [Nat.mul_left_comm]]
   exact back_step e1 hv3 rfl
  first | omega | (dsimp only; omega)
 intro J65
 try simp only [bq,ne_eq] at J65
 obtain rfl:k=bs.length:=by omega
 rw [List.take_length] at hv3
 refine W.brk<|W.sr<|L.k rfl<|L.k rfl<|L.lU rfl (by assumption) Q38<|L.v (R1.atAt (j:=bs.length) rfl rfl Q38 rfl (by omega)) rfl ?_
 refine L.v (R1.ldO rfl (by assumption) (by omega) tyP90 rfl) rfl<|L.k rfl<|L.v (R1.addW rfl rfl ) rfl<|L.v (R1.atAt (j:=bs.length) rfl rfl Q38 rfl (by omega)) rfl<|L.storeU rfl rfl hb (by omega) tyP90 ?_
 intro w9 hb' C9
 replace C0:=C0.trans (C9.mono (by simp));clear C9;replace hb:=hb'; clear hb'
 refine L.z<|W.sr<|L.b rfl<|L.z<|W.ret<|X.result1 rfl (.tmp rfl .nil) ?_
 have hck:=hcx3 _ (List.getElem_mem (show o + bs.length<cs3.length by omega));have e1:=val_set (xs:=cs3) (j:=o + bs.length) (by omega) ((cs3[o + bs.length] + mo) % 4294967296)
 rw [Nat.pow_add] at e1
 have hbk:=back_last e1 hv3 rfl;have hz:=takes_true hlen (by omega) (by simp; omega) hdt hdd (by rw [List.take_set_of_le (by omega)]; exact htk3) (by rw [List.drop_set_of_lt (by omega)]; exact hdr3) hdx (set_lt hcx3 (Nat.mod_lt _ (by decide))) hfin hbk (by omega) hqD
 exact ⟨_,hb,by simpa using hcl3,set_lt hcx3 (Nat.mod_lt _ (by decide)),.inr ⟨rfl,hz.1,hz.2⟩,C0⟩
end Go.Proofs.YthoooolflmbmbaaGreat
