/- Several texts in one. -/
import Derived.Test.YthoooolflmbmbaaGreatTy
import Derived.Test.YthoooolflmbmbaaGreatMath
import Derived.Test.YthoooolflmbmbaaGreatOwn
import Derived.Test.YthoooolflmbmbaaGreatMore
import Derived.Test.YthoooolflmbmbaaGreatNum
section
namespace Go.Proofs.YthoooolflmbmbaaGreat
open Go.RowKit
set_option linter.unusedVariables false
set_option linter.unusedSimpArgs false
set_option maxRecDepth 10000
theorem trimmed_snoc {xs:List Nat} (h:xs.length≠0):trimmedB xs=decide (xs[xs.length - 1]'(by omega)≠0):=by
  unfold trimmedB
  rw [List.getLast?_eq_getElem?,List.getElem?_eq_getElem (by omega)]
  rw [Bool.eq_iff_iff]; simp
theorem c_nat_Is {M : List Nat} {w : World} {v : Value} {xs : List Nat} (h : U32 M w v xs) :
    Ret Tryz.prog 63 #[v] w (fun r w'=>r=.bool (trimmedB xs)∧Mod [] w w'):=by
 have hmax:=h.1.max; unfold maxLen at hmax
 refine Ret.of (vs:=[v]) (n:=15) Tryz.func63 rfl rfl rfl rfl ?_
 have C0:Mod [] w w:=Mod.refl _ _
 refine W.sr<|L.b rfl<|L.z<|W.sr<|L.k rfl<|L.lU rfl (by assumption) Q38<|L.v ((R1.eq rfl rfl).asB (c:=decide (xs.length=0)) (by simp)) rfl<|L.k rfl ?_
 cases W6:decide (xs.length=0)
 ·
  try simp only [bq,ne_eq] at W6
  refine L.p rfl (R1.move rfl)<|L.p rfl (R1.move rfl)<|L.p rfl (R1.lenU rfl (by assumption) Q38)<|L.p rfl (R1.subI (b:=1) rfl rfl (by omega) (by omega))<|L.p rfl (R1.atU (j:=xs.length - 1) rfl rfl (by assumption) Q38 rfl (by omega))<|L.p rfl (R1.ldU rfl (by assumption) tyP90 (by omega) rfl)<|L.p rfl ((R1.ne rfl rfl).asB (c:=trimmedB xs) (by rw [trimmed_snoc (by omega)]; simp))<|L.pF rfl rfl<|L.b rfl<|L.z ?_
  refine W.ret<|X.result1 rfl (.tmp rfl .nil) ?_
  first
    | exact ⟨rfl,C0⟩
    | exact ⟨by (obtain rfl:xs=[]:=List.eq_nil_of_length_eq_zero W6); rfl,C0⟩
 try simp only [bq,ne_eq] at W6
 refine L.o rfl<|L.o rfl<|L.o rfl<|L.o rfl<|L.o rfl<|L.o rfl<|L.o rfl<|L.pT rfl rfl<|L.b rfl<|L.z ?_
 refine W.ret<|X.result1 rfl (.tmp rfl .nil) ?_
 first
   | exact ⟨rfl,C0⟩
   | exact ⟨by (obtain rfl:xs=[]:=List.eq_nil_of_length_eq_zero W6); rfl,C0⟩
theorem c_nat_trim {M : List Nat} {w : World} {v : Value} {xs : List Nat} (h : U32 M w v xs) :
    Ret Tryz.prog 101 #[v] w (fun r w'=>U32 M w' r (toL (val xs))∧Mod [] w w'):=by
 have hlt:=h.2
 refine Ret.of (vs:=[v]) (n:=12) Tryz.func101 rfl rfl rfl rfl ?_
 have C0:Mod [] w w:=Mod.refl _ _
 refine W.sr<|L.b rfl<|L.z<|W.seq<|W.block<|W.loop (ι:=Nat × Value) (fun (m,u)=>[(0,u)]) (fun (m,u) w_=>m≤xs.length∧U32 M w_ u (xs.take m)∧val (xs.take m)=val xs∧Mod [] w w_) (fun (m,u)=>m) (xs.length,v) ?_ ?_ ?_
 · exact ⟨rfl,trivial⟩
 ·
  exact ⟨Nat.le_refl _,by rw [List.take_length]; exact h,by rw [List.take_length],C0⟩
 rintro ⟨m,u⟩ w1 ⟨hm,h,hv,C0⟩
 have hlen:(xs.take m).length=m:=by rw [List.length_take]; omega
 have hmax:=h.1.max; unfold maxLen at hmax
 refine W.seq<|W.sr<|L.k rfl<|L.c rfl (c_nat_Is (by assumption)) ?_
 rintro _ w2 ⟨rfl,C2⟩
 replace h:=h.gr C2;replace C0:=C0.trans C2;clear C2
 refine L.v (R1.not rfl) rfl<|L.z<|W.cond rfl ?_ ?_
 ·
  intro J5
  simp only [Bool.not_eq_true',Bool.not_eq_false'] at J5
  have C1:0<m:=Nat.pos_of_ne_zero fun h0=>by subst h0; simp [trimmedB] at J5
  have hlast:xs[m - 1]'(by omega)=0:=by
      have h1:=trimmed_snoc (xs:=xs.take m) (by omega)
      rw [J5] at h1
      simpa [hlen] using h1
  have hval:val (xs.take (m - 1))=val xs:=val_take_zero (by omega) hlast (by rw [Nat.sub_add_cancel C1]; exact hv)
  refine W.skip<|X.seq<|W.block ?_
  obtain ⟨A,cap,rfl⟩:=h.form
  have hcut:U32 M w2 (cutS A cap 0 (m - 1) 1) (xs.take (m - 1)):=by
      have h1:=h.1.cutH (k:=m - 1) (by omega) rfl
      refine ⟨?_,fun x hx=>hlt x (List.mem_of_mem_take hx)⟩
      have e1:(xs.take (m - 1)).length=m - 1:=by rw [List.length_take]; omega
      rw [e1]
      have e2:((xs.take m).map fun (x:Nat)=>Value.int .u32 (x:Int)).take ((m - 1) * 1)=(xs.take (m - 1)).map fun (x:Nat)=>Value.int .u32 (x:Int):=by
        rw [← List.map_take,List.take_take]; congr 2; omega
      rw [← e2]; exact h1
  have hcap:=h.1.capOf rfl
  rw [hlen] at hcap
  refine W.region<|L.k rfl<|L.k rfl<|L.v (R1.len rfl Q38) rfl<|L.v ((R1.sub rfl rfl).as (j:=((m - 1:Nat):Int)) (by rw [wrap_i64 (by omega) (by omega)]; omega)) rfl<|L.v ((R1.sliceH rfl rfl Q38 (by omega) (by omega)).asV (v:=cutS A cap 0 (m - 1) 1) (by rw [Int.toNat_natCast])) rfl<|L.b rfl<|L.nil<|X.blockEnd<|X.next (m - 1,cutS A cap 0 (m - 1) 1) ?_ ?_ ?_
  · exact ⟨rfl,trivial⟩
  ·
   refine ⟨by omega,?_,?_,C0⟩
   · exact hcut
   exact hval
  first | omega | (dsimp only; omega)
 intro J5
 simp only [Bool.not_eq_true',Bool.not_eq_false'] at J5
 have hres:xs.take m=toL (val xs):=by
     have h1:=toL_val (xs.take m) (fun x hx=>hlt x (List.mem_of_mem_take hx)) J5
     rw [hv] at h1; exact h1.symm
 refine W.brk<|W.sr<|L.k rfl<|L.b rfl<|L.z ?_
 refine W.ret<|X.result1 rfl (.tmp rfl .nil) ?_
 exact ⟨by rw [← hres]; exact h,C0⟩
theorem c_CloneU {M N9 : List Nat} {w : World} {v : Value} {xs : List Nat} (h : U32 N9 w v xs) (hbd : Bd M w) (hl : xs.length ≤ 1099511627776) :
    Ret Tryz.prog 122 #[v] w (fun r w'=>U32 M w' r xs∧Mod [] w w'):=by
 obtain ⟨A,c,rfl⟩:=h.form;have hx:=h.2;have hbd0:=hbd
 refine Ret.of (vs:=[.slice A xs.length c]) (n:=8) Tryz.func122 rfl rfl rfl rfl ?_
 have C0:Mod [] w w:=Mod.refl _ _
 refine W.sr<|L.b rfl<|L.z<|W.seq<|W.sr<|L.k rfl<|L.v (R1.nilSl rfl Q38) rfl<|L.nil ?_
 refine X.seq<|W.cond rfl ?_ ?_
 ·
  intro J4
  simp only [Option.isNone_iff_eq_none,Option.isNone_eq_false_iff] at J4
  subst J4
  have h0:xs=[]:=by
      obtain ⟨A,cap,e1,e2,_,_,e5,_⟩:=h.1
      injection e1 with e1 _ e3
      have:=e5 e1.symm
      exact List.eq_nil_of_length_eq_zero (by omega)
  subst h0
  refine W.sr<|L.b rfl<|L.z<|W.ret<|X.thenRet<|X.result1 rfl (.tmp rfl .nil) ?_
  exact ⟨U32.nil,C0⟩
 intro J4
 simp only [Option.isNone_iff_eq_none,Option.isNone_eq_false_iff] at J4
 refine W.skip<|X.seq<|W.sr<|L.buildEmpty Q38 rfl ?_
 intro g5 w1 D5
 replace h:=h.new D5;have K5:=New.ge D5 C0.size;replace C0:=C0.tn D5;have E5:=D5.blk;clear D5
 have hown:World.ownsRow w1 w.heap.size 90 1 (.slice (some ⟨g5,0,none⟩) 0 0) 0 []:=⟨rfl,.inr ⟨g5,0,#[],rfl,K5,E5,Nat.le_refl _,by decide,rfl,rfl⟩⟩
 clear E5
 refine L.k rfl<|L.append rfl rfl hown h.1 (by simp [Value.oneCell']) Q38 tyZ90 (by omega) (by unfold maxLen; omega) C0.size rfl ?_
 intro v7 w2 O7' X7
 replace C0:=C0.grew X7 (fun g hg=>(own_ge hown g hg).1);clear hown;have O7:=O7'; clear O7';obtain ⟨A7,c7,rfl⟩:=own_form O7
 refine L.b rfl<|L.z<|W.ret<|X.result1 rfl (.tmp rfl .nil)<|⟨⟨(Sl.of_own O7 (fun g hg=>hbd0.not (own_ge O7 g hg).1)).congr (by simp) (by simp),hx⟩,C0⟩
theorem c_nat_Trim {M N9 : List Nat} {w : World} {v : Value} {xs : List Nat} (h : U32 N9 w v xs) (hbd : Bd M w) (hl : xs.length ≤ 1099511627776) :
    Ret Tryz.prog 102 #[v] w (fun r w'=>U32 M w' r (toL (val xs))∧Mod [] w w'):=by
 have hle:=toL_length_val xs h.2
 refine Ret.of (vs:=[v]) (n:=6) Tryz.func102 rfl rfl rfl rfl ?_
 have C0:Mod [] w w:=Mod.refl _ _
 refine W.sr<|L.b rfl<|L.z<|W.sr<|L.k rfl<|L.c rfl (c_nat_trim (by assumption)) ?_
 rintro v4 w1 ⟨h4,C1⟩
 replace h:=h.gr C1;replace hbd:=hbd.gr C1;replace C0:=C0.trans C1;clear C1
 refine L.c rfl (c_CloneU (by assumption) (by assumption) (by omega)) ?_
 rintro v5 w2 ⟨h5,C2⟩
 replace C0:=C0.trans C2;clear C2
 refine L.b rfl<|L.z<|W.ret<|X.result1 rfl (.tmp rfl .nil) ?_
 exact ⟨h5,C0⟩
end Go.Proofs.YthoooolflmbmbaaGreat
end
section
namespace Go.Proofs.YthoooolflmbmbaaGreat
open Go.RowKit
set_option linter.unusedVariables false
set_option linter.unusedSimpArgs false
set_option maxRecDepth 10000
theorem fill2u (a b:Int):Instr.fill (fun i=>some (i * 1,1)) ((Array.range (2 * 1)).map ((Value.int .u32 0).cells[· % (Value.int .u32 0).cells.size]!)) [(0,.int .u32 a),(1,.int .u32 b)]=some #[.int .u32 a,.int .u32 b]:=by kernel_rfl
theorem c_nat_Of {M : List Nat} {w : World} {n : Nat} (hn : n < 18446744073709551616) (hbd : Bd M w) :
    Ret Tryz.prog 66 #[.int .u64 (n:Int)] w (fun r w'=>U32 M w' r (toL n)∧Mod [] w w'):=by
 have hbd0:=hbd
 refine Ret.of (vs:=[.int .u64 (n:Int)]) (n:=10) Tryz.func66 rfl rfl rfl rfl ?_
 have C0:Mod [] w w:=Mod.refl _ _
 refine W.sr<|L.b rfl<|L.z<|W.sr<|L.k rfl<|L.v (R1.convLW rfl tyI87 tyI90) rfl<|L.k rfl<|L.v (R1.shr32 rfl rfl) rfl ?_
 refine L.v (R1.convLW rfl tyI87 tyI90) rfl<|L.buildSlice (cells:=[.int .u32 ((n % 4294967296:Nat):Int),.int .u32 ((n / 4294967296 % 4294967296:Nat):Int)]) rfl Q38 tyZ90 (fill2u _ _) (by decide) (by decide) rfl ?_
 intro g8 w1 D8
 have K8:=New.ge D8 C0.size;replace C0:=C0.tn D8;have E8:=D8.blk;clear D8
 have hU:U32 M w1 (.slice (some ⟨g8,0,none⟩) 2 2) [n % 4294967296,n / 4294967296 % 4294967296]:=U32.of_blk (xs:=[n % 4294967296,n / 4294967296 % 4294967296]) E8 (hbd0.not K8) (by show (2:Nat)≤maxLen; decide) (by simp; omega)
 refine L.c rfl (c_nat_trim (by assumption)) ?_
 rintro v9 w2 ⟨h9,C2⟩
 replace C0:=C0.trans C2;clear C2
 refine L.b rfl<|L.z<|W.ret<|X.result1 rfl (.tmp rfl .nil) ?_
 exact ⟨by rw [val_two n hn] at h9; exact h9,C0⟩
theorem c_nat_Cmp {M : List Nat} {w : World} {va vb : Value} {xs ys : List Nat} (h : U32 M w va xs) (k : U32 M w vb ys) :
    Ret Tryz.prog 64 #[va,vb] w (fun r w'=>r=.int .i64 (cmpI (val xs) (val ys))∧Mod [] w w'):=by
 refine Ret.of (vs:=[va,vb]) (n:=45) Tryz.func64 rfl rfl rfl rfl ?_
 have C0:Mod [] w w:=Mod.refl _ _
 refine W.sr<|L.b rfl<|L.z<|W.sr<|L.k rfl<|L.c rfl (c_nat_trim (by assumption)) ?_
 rintro v7 w1 ⟨h7,C1⟩
 replace h:=h.gr C1;replace k:=k.gr C1;replace C0:=C0.trans C1;clear C1
 refine L.k rfl<|L.c rfl (c_nat_trim (by assumption)) ?_
 rintro v9 w2 ⟨h9,C2⟩
 replace h:=h.gr C2;replace k:=k.gr C2;replace C0:=C0.trans C2;replace h7:=h7.gr C2;clear C2
 refine L.b rfl<|L.b rfl<|L.z<|W.seq<|W.seq ?_
 have hma:=h7.1.max; unfold maxLen at hma;have hmb:=h9.1.max; unfold maxLen at hmb
 refine W.region<|L.k rfl<|L.lU rfl (by assumption) Q38<|L.k rfl<|L.lU rfl (by assumption) Q38<|L.v (R1.ne rfl rfl) rfl<|L.z<|W.cond rfl ?_ ?_
 ·
  intro J14
  try simp only [bq,ne_eq] at J14
  refine W.seq<|W.sr<|L.k rfl<|L.lU rfl (by assumption) Q38<|L.k rfl<|L.lU rfl (by assumption) Q38<|L.lt rfl rfl<|L.z<|W.cond rfl ?_ ?_
  ·
   intro J19
   try simp only [bq,ne_eq] at J19
   refine W.sr<|L.b rfl<|L.z<|W.ret<|X.thenRet<|X.thenRet<|X.result1 rfl (.tmp rfl .nil) ?_
   exact ⟨by rw [cmpI_lt (lt_of_toL_len (by omega))],C0⟩
  intro J19
  try simp only [bq,ne_eq] at J19
  refine W.skip<|X.seq<|W.sr<|L.b rfl<|L.z<|W.ret<|X.thenRet<|X.result1 rfl (.tmp rfl .nil) ?_
  exact ⟨by rw [cmpI_gt (lt_of_toL_len (by omega))],C0⟩
 intro J14
 try simp only [bq,ne_eq] at J14
 have hlen:(toL (val xs)).length=(toL (val ys)).length:=by omega
 refine W.skip<|X.seq<|W.seq<|W.sr<|L.k rfl<|L.lU rfl (by assumption) Q38<|L.v ((R1.sub rfl rfl).as (wrap_i64 (by omega) (by omega))) rfl<|L.b rfl<|L.z ?_
 refine W.block<|W.loop (ι:=Nat) (fun m=>[(0,v7),(1,v9),(5,.int .i64 ((m:Int) - 1))]) (fun m w_=>m≤(toL (val xs)).length∧(toL (val xs)).drop m=(toL (val ys)).drop m∧U32 M w_ v7 (toL (val xs))∧U32 M w_ v9 (toL (val ys))∧Mod [] w w_) (fun m=>m) (toL (val xs)).length ?_ ?_ ?_
 · exact ⟨rfl,rfl,rfl,trivial⟩
 ·
  exact ⟨Nat.le_refl _,by rw [List.drop_of_length_le (Nat.le_refl _),List.drop_of_length_le (by omega)],h7,h9,C0⟩
 rintro m w3 ⟨hm,hd,h7,h9,C0⟩
 refine W.seq<|W.sr<|L.k rfl<|L.v (R1.ge rfl rfl) rfl<|L.z<|W.cond rfl ?_ ?_
 ·
  intro J24
  try simp only [bq,ne_eq] at J24
  have C1:0<m:=by omega
  refine W.skip<|X.seq<|W.seq<|W.block<|W.seq<|W.drawW (T:=[]) rfl (by decide +kernel) (NoHang.then (NoHang.block (NoHang.then (NoHang.next (NoHang.block (NoHang.then NoHang.post)))))) (fun w4 C4=>?_)
  replace h7:=h7.gr C4;replace h9:=h9.gr C4;replace C0:=C0.trans C4
  have G1:Mod [] w4 w4:=Mod.refl _ _
  clear C4
  refine D.z 0 rfl (by kernel_rfl) rfl G1<|D.z 1 rfl (by kernel_rfl) rfl G1<|D.t 2 rfl (by kernel_rfl) (fun _ hS=>R1.atU (j:=(m - 1)) rfl rfl (U32.gr (by assumption) hS) Q38 (by omega) (by omega)) G1<|D.t 3 rfl (by kernel_rfl) (fun _ hS=>R1.ldU rfl (U32.gr (by assumption) hS) tyP90 (by omega) rfl) G1<|D.z 4 rfl (by kernel_rfl) rfl G1<|D.z 5 rfl (by kernel_rfl) rfl G1<|D.t 6 rfl (by kernel_rfl) (fun _ hS=>R1.atU (j:=(m - 1)) rfl rfl (U32.gr (by assumption) hS) Q38 (by omega) (by omega)) G1<|D.t 7 rfl (by kernel_rfl) (fun _ hS=>R1.ldU rfl (U32.gr (by assumption) hS) tyP90 (by omega) rfl) G1<|D.t 8 rfl (by kernel_rfl) (fun _ hS=>R1.ne rfl rfl) G1<|D.done (by decide +kernel) ?_ _
  refine X.seq<|W.cond rfl ?_ ?_
  ·
   intro J35
   try simp only [bq,ne_eq] at J35
   refine W.seq<|W.seq<|W.drawW (T:=[]) rfl (by decide +kernel) (NoHang.then (NoHang.then (NoHang.block (NoHang.then (NoHang.next (NoHang.block (NoHang.then NoHang.post))))))) (fun w5 C5=>?_)
   replace h7:=h7.gr C5;replace h9:=h9.gr C5;replace C0:=C0.trans C5
   have G2:Mod [] w5 w5:=Mod.refl _ _
   clear C5
   refine D.z 0 rfl (by kernel_rfl) rfl G2<|D.z 1 rfl (by kernel_rfl) rfl G2<|D.t 2 rfl (by kernel_rfl) (fun _ hS=>R1.atU (j:=(m - 1)) rfl rfl (U32.gr (by assumption) hS) Q38 (by omega) (by omega)) G2<|D.t 3 rfl (by kernel_rfl) (fun _ hS=>R1.ldU rfl (U32.gr (by assumption) hS) tyP90 (by omega) rfl) G2<|D.z 4 rfl (by kernel_rfl) rfl G2<|D.z 5 rfl (by kernel_rfl) rfl G2<|D.t 6 rfl (by kernel_rfl) (fun _ hS=>R1.atU (j:=(m - 1)) rfl rfl (U32.gr (by assumption) hS) Q38 (by omega) (by omega)) G2<|D.t 7 rfl (by kernel_rfl) (fun _ hS=>R1.ldU rfl (U32.gr (by assumption) hS) tyP90 (by omega) rfl) G2<|D.t 8 rfl (by kernel_rfl) (fun _ hS=>R1.lt rfl rfl) G2<|D.done (by decide +kernel) ?_ _
   refine X.seq<|W.cond rfl ?_ ?_
   ·
    intro J44
    try simp only [bq,ne_eq] at J44
    refine W.sr<|L.b rfl<|L.z<|W.ret<|X.thenRet<|X.blockRet<|X.thenRet<|X.nextRet<|X.blockRet ?_
    refine X.thenRet<|X.result1 rfl (.tmp rfl .nil)<|⟨?_,C0⟩
    have hz:=val_lt_of_top (xs:=toL (val xs)) (ys:=toL (val ys)) (j:=m - 1) (toL_lt _) (by omega) (by omega) (by rw [Nat.sub_add_cancel C1]; exact hd) (by omega)
    rw [val_toL,val_toL] at hz
    rw [cmpI_lt hz]
   intro J44
   try simp only [bq,ne_eq] at J44
   refine W.skip<|X.seq<|W.sr<|L.b rfl<|L.z<|W.ret<|X.blockRet<|X.thenRet<|X.nextRet ?_
   refine X.blockRet<|X.thenRet<|X.result1 rfl (.tmp rfl .nil)<|⟨?_,C0⟩
   have hz:=val_lt_of_top (xs:=toL (val ys)) (ys:=toL (val xs)) (j:=m - 1) (toL_lt _) (by omega) (by omega) (by rw [Nat.sub_add_cancel C1]; exact hd.symm) (by omega)
   rw [val_toL,val_toL] at hz
   rw [cmpI_gt hz]
  intro J35
  try simp only [bq,ne_eq] at J35
  refine W.skip<|X.blockEnd<|X.seq<|W.region<|L.k rfl<|L.v ((R1.sub rfl rfl).as (j:=((m - 1:Nat):Int) - 1) (by rw [wrap_i64 (by omega) (by omega)]; omega)) rfl<|L.b rfl<|L.nil<|X.next (m - 1) ?_ ?_ ?_
  · exact ⟨rfl,rfl,rfl,trivial⟩
  ·
   exact ⟨by omega,drop_step (by omega) (by omega) (by omega) hd (by omega),h7,h9,C0⟩
  first | omega | (dsimp only; omega)
 intro J24
 try simp only [bq,ne_eq] at J24
 refine W.brk<|W.sr<|L.b rfl<|L.z<|W.ret ?_
 refine X.result1 rfl (.tmp rfl .nil)<|⟨?_,C0⟩
 have h0:m=0:=by omega
 rw [h0,List.drop_zero,List.drop_zero] at hd
 rw [cmpI_eq (toL_inj hd)]
theorem c_nat_Add {M : List Nat} {w : World} {va vb : Value} {xs ys : List Nat} (h : U32 M w va xs) (k : U32 M w vb ys) (hbd : Bd M w) (hl1 : xs.length ≤ 1099511627776) (hl2 : ys.length ≤ 1099511627776) :
    Ret Tryz.prog 113 #[va,vb] w (fun r w'=>U32 M w' r (toL (val xs + val ys))∧Mod [] w w'):=by
 have hbd0:=hbd;have hla:=toL_len_40 h.2 hl1;have hlb:=toL_len_40 k.2 hl2
 refine Ret.of (vs:=[va,vb]) (n:=62) Tryz.func113 rfl rfl rfl rfl ?_
 have C0:Mod [] w w:=Mod.refl _ _
 refine W.sr<|L.b rfl<|L.z<|W.sr<|L.k rfl<|L.c rfl (c_nat_trim (by assumption)) ?_
 rintro v10 w1 ⟨h10,C1⟩
 replace h:=h.gr C1;replace k:=k.gr C1;replace C0:=C0.trans C1;clear C1
 refine L.k rfl<|L.c rfl (c_nat_trim (by assumption)) ?_
 rintro v12 w2 ⟨h12,C2⟩
 replace h:=h.gr C2;replace k:=k.gr C2;replace C0:=C0.trans C2;replace h10:=h10.gr C2;clear C2
 refine L.b rfl<|L.b rfl<|L.z<|W.seq<|W.sr<|L.k rfl<|L.lU rfl (by assumption) Q38<|L.k rfl<|L.lU rfl (by assumption) Q38 ?_
 refine L.lt rfl rfl<|L.z<|W.cut (ι:=List Nat × List Nat × Value × Value) (fun (es,bs,u1,u2)=>[(0,u1),(1,u2)]) (fun (es,bs,u1,u2) w_=>U32 M w_ u1 es∧U32 M w_ u2 bs∧bs.length≤es.length∧val es + val bs=val xs + val ys∧es.length≤1099511627776∧Mod [] w w_) ?_ ?_
 ·
  refine W.cond rfl ?_ ?_
  ·
   intro J17
   try simp only [bq,ne_eq] at J17
   refine W.region<|L.k rfl<|L.k rfl<|L.b rfl<|L.b rfl<|L.nil<|X.join (toL (val ys),toL (val xs),v12,v10) ?_ ?_
   · exact ⟨rfl,rfl,trivial⟩
   exact ⟨h12,h10,by omega,by rw [val_toL,val_toL,Nat.add_comm],hlb,C0⟩
  intro J17
  try simp only [bq,ne_eq] at J17
  refine W.skip<|X.join (toL (val xs),toL (val ys),v10,v12) ?_ ?_
  · exact ⟨rfl,rfl,trivial⟩
  exact ⟨h10,h12,by omega,by rw [val_toL,val_toL],hla,C0⟩
 rintro ⟨es,bs,u1,u2⟩ wj ⟨h,k2,hle,hv,hla,C0⟩
 refine X.seq<|W.sr<|L.k rfl<|L.lU rfl (by assumption) Q38<|L.inc rfl rfl (by omega)<|L.makeSlice (m:=(es.length + 1)) rfl rfl rfl rfl Q38 tyZ90 (by omega) (by unfold maxLen; omega) rfl ?_
 intro g23 w3 D23
 replace h:=h.new D23;replace k2:=k2.new D23;have K23:=New.ge D23 C0.size;replace C0:=C0.tn D23;have E23:=D23.blk;clear D23
 rw [uarr_made] at E23
 refine L.b rfl<|L.z<|W.sr<|L.b rfl<|L.z<|W.seq<|W.seq<|W.region ?_
 refine L.k rfl<|L.lU rfl (by assumption) Q38<|L.k rfl<|L.z<|W.block<|W.loop (ι:=Nat × Nat × List Nat) (fun (k,cy,cs)=>[(0,u1),(1,u2),(5,.slice (some ⟨g23,0,none⟩) (es.length + 1) (es.length + 1)),(6,.int .u64 (cy:Int)),(24,u1),(25,.int .i64 (es.length:Int)),(26,.int .i64 (k:Int))]) (fun (k,cy,cs) w_=>k≤es.length∧cs.length=es.length + 1∧(∀ x∈cs,x<4294967296)∧cy≤1∧val (cs.take k) + 4294967296 ^ k * cy=val (es.take k) + val (bs.take k)∧Blk w_ g23 90 (uarr cs)∧U32 (g23 :: M) w_ u1 es∧U32 (g23 :: M) w_ u2 bs∧Mod [] w w_) (fun (k,cy,cs)=>es.length - k) (0,0,List.replicate (es.length + 1) 0) ?_ ?_ ?_
 · repeat' constructor
 ·
  exact ⟨Nat.zero_le _,by simp,rep_lt _,by omega,by simp [val],E23,h,k2,C0⟩
 rintro ⟨k,cy,cs⟩ w4 ⟨hk,hcl,hcx,hcy,hv2,E23,h,k2,C0⟩
 refine W.sr<|L.lt rfl rfl<|L.z<|W.seq<|W.cond rfl ?_ ?_
 ·
  intro J27
  try simp only [bq,ne_eq] at J27
  have hk1:k<es.length:=by omega
  have hak:=h.lt hk1
  refine W.skip<|X.seq<|W.seq<|W.block<|W.sr<|L.k rfl<|L.v (R1.atU (j:=k) rfl rfl (by assumption) Q38 rfl (by omega)) rfl<|L.v (R1.ldU rfl (by assumption) tyP90 (by omega) rfl) rfl<|L.b rfl<|L.b rfl ?_
  refine L.z<|W.sr<|L.k rfl<|L.k rfl<|L.v (R1.convWL rfl tyI90 tyI87 (by omega)) rfl<|L.v (R1.addL rfl rfl (by omega)) rfl<|L.b rfl<|L.z ?_
  refine W.seq<|W.sr<|L.k rfl<|L.k rfl<|L.lU rfl (by assumption) Q38<|L.lt rfl rfl<|L.z<|W.cut (ι:=Nat) (fun t=>[(0,u1),(1,u2),(5,.slice (some ⟨g23,0,none⟩) (es.length + 1) (es.length + 1)),(6,.int .u64 (t:Int)),(7,.int .i64 (k:Int)),(24,u1),(25,.int .i64 (es.length:Int)),(26,.int .i64 (k:Int))]) (fun t w_=>t=cy + es[k] + bs.getD k 0∧Blk w_ g23 90 (uarr cs)∧U32 (g23 :: M) w_ u1 es∧U32 (g23 :: M) w_ u2 bs∧Mod [] w w_) ?_ ?_
  ·
   refine W.cond rfl ?_ ?_
   ·
    intro J38
    try simp only [bq,ne_eq] at J38
    have hk2:k<bs.length:=by omega
    have hbk:=k2.lt hk2
    refine W.region<|L.k rfl<|L.k rfl<|L.k rfl<|L.v (R1.atU (j:=k) rfl rfl (by assumption) Q38 rfl (by omega)) rfl<|L.v (R1.ldU rfl (by assumption) tyP90 (by omega) rfl) rfl<|L.v (R1.convWL rfl tyI90 tyI87 (by omega)) rfl<|L.v (R1.addL rfl rfl (by omega)) rfl<|L.b rfl<|L.nil<|X.join (cy + es[k] + bs[k]) ?_ ?_
    · repeat' constructor
    exact ⟨by simp [hk2],E23,h,k2,C0⟩
   intro J38
   try simp only [bq,ne_eq] at J38
   refine W.skip<|X.join (cy + es[k]) ?_ ?_
   · repeat' constructor
   exact ⟨by simp [List.getD_eq_getElem?_getD,List.getElem?_eq_none (show bs.length≤k by omega)],E23,h,k2,C0⟩
  rintro t wk ⟨ht,E23,h,k2,C0⟩
  have hbk:bs.getD k 0<4294967296:=by
      rcases Nat.lt_or_ge k bs.length with h1 | h1
      · simp only [List.getD_eq_getElem?_getD,List.getElem?_eq_getElem h1,Option.getD_some]; exact k2.lt h1
      simp [h1]
  refine X.seq<|W.sr<|L.k rfl<|L.k rfl<|L.k rfl<|L.v (R1.convLW rfl tyI87 tyI90) rfl<|L.v (R1.atO (j:=k) rfl rfl Q38 rfl (by omega)) rfl<|L.storeU rfl rfl E23 (by omega) tyP90 ?_
  intro w5 E23' C5
  replace h:=h.ms C5;replace k2:=k2.ms C5;replace C0:=C0.old1 C5 K23;clear C5;replace E23:=E23'; clear E23'
  refine L.z<|W.region<|L.k rfl<|L.v (R1.shr32 rfl rfl) rfl<|L.b rfl<|L.nil<|X.blockEnd<|X.seq<|W.region<|L.inc rfl rfl (by omega) ?_
  refine L.k rfl<|L.nil<|X.next (k + 1,t / 4294967296,cs.set k (t % 4294967296)) ?_ ?_ ?_
  · repeat' constructor
  ·
   refine ⟨by omega,by simpa using hcl,set_lt hcx (Nat.mod_lt _ (by decide)),by omega,?_,E23,h,k2,C0⟩
   rw [val_take_set (by omega),val_take_succ hk1,val_take_succD bs,pow_LB_succ]
   have hs:=add_step hv2 ht
   rw [Nat.mul_comm (4294967296 ^ k) 4294967296] at hs
   omega
  first | omega | (dsimp only; omega)
 intro J27
 try simp only [bq,ne_eq] at J27
 obtain rfl:k=es.length:=by omega
 rw [List.take_length] at hv2
 rw [val_take_all hle] at hv2
 refine W.brk<|W.sr<|L.k rfl<|L.k rfl<|L.lU rfl (by assumption) Q38<|L.k rfl ?_
 refine L.v (R1.convLW rfl tyI87 tyI90) rfl<|L.v (R1.atO (j:=es.length) rfl rfl Q38 rfl (by omega)) rfl<|L.storeU rfl rfl E23 (by omega) tyP90 ?_
 intro w6 E23' C6
 replace C0:=C0.old1 C6 K23;clear C6;replace E23:=E23'; clear E23'
 refine L.z<|W.seq ?_
 have hU:U32 M w6 (.slice (some ⟨g23,0,none⟩) (es.length + 1) (es.length + 1)) (cs.set es.length (cy % 4294967296)):=by
     have hU:=U32.of_blk (M:=M) E23 (hbd0.not K23) (by simp; unfold maxLen; omega) (set_lt hcx (Nat.mod_lt _ (by decide)))
     rw [List.length_set,hcl] at hU; exact hU
 refine W.region<|L.k rfl<|L.c rfl (c_nat_trim hU) ?_
 rintro v61 w7 ⟨h61,C7⟩
 replace C0:=C0.trans C7;clear C7
 refine L.b rfl<|L.z<|W.ret<|X.result1 rfl (.tmp rfl .nil)<|⟨?_,C0⟩
 have e1:=val_take_set (xs:=cs) (k:=es.length) (by omega) (cy % 4294967296)
 rw [val_take_all (by simp; omega),Nat.mod_eq_of_lt (show cy<4294967296 by omega)] at e1
 rw [Nat.mod_eq_of_lt (show cy<4294967296 by omega),e1,hv2,hv] at h61
 exact h61
end Go.Proofs.YthoooolflmbmbaaGreat
end
section
namespace Go.Proofs.YthoooolflmbmbaaGreat
open Go.RowKit
set_option linter.unusedVariables false
set_option linter.unusedSimpArgs false
set_option maxRecDepth 10000
theorem c_Sub32 {w : World} {x y b : Nat} (hx : x < 4294967296) (hy : y < 4294967296) (hb : b ≤ 1) :
    Ret Tryz.prog 128 #[.int .u32 (x:Int),.int .u32 (y:Int),.int .u32 (b:Int)] w (fun r w'=>r=.tuple #[.int .u32 ((subW x y b:Nat):Int),.int .u32 ((subB x y b:Nat):Int)]∧Mod [] w w'):=by
 have hd:=subW_lt x y b
 have hxy:x ^^^ y<4294967296:=Nat.xor_lt_two_pow (n:=32) hx hy
 have hA:(4294967295 - x) &&& y<2 ^ 32:=Nat.lt_of_le_of_lt Nat.and_le_right hy
 have hB:(4294967295 - (x ^^^ y)) &&& subW x y b<2 ^ 32:=Nat.lt_of_le_of_lt Nat.and_le_right hd
 refine Ret.of (vs:=[.int .u32 (x:Int),.int .u32 (y:Int),.int .u32 (b:Int)]) (n:=25) Tryz.func128 rfl rfl rfl rfl ?_
 have C0:Mod [] w w:=Mod.refl _ _
 refine W.sr<|L.b rfl<|L.b rfl<|L.z<|W.sr<|L.k rfl<|L.k rfl<|L.v (R1.subW rfl rfl (by omega)) rfl ?_
 refine L.k rfl<|L.v ((R1.subW rfl rfl (by omega)).as (j:=((subW x y b:Nat):Int)) (by unfold subW; omega)) rfl<|L.b rfl<|L.z<|W.sr<|L.k rfl<|L.v (R1.compl rfl (by omega)) rfl<|L.k rfl<|L.v (R1.andW rfl rfl (by omega) hy) rfl ?_
 refine L.k rfl<|L.k rfl<|L.v (R1.xorW rfl rfl hx hy) rfl<|L.v (R1.compl rfl (by omega)) rfl<|L.k rfl<|L.v (R1.andW rfl rfl (by omega) hd) rfl<|L.v (R1.orW rfl rfl hA hB) rfl<|L.v ((R1.shrW (b:=31) rfl rfl (by omega)).as (j:=((subB x y b:Nat):Int)) (congrArg (fun n:Nat=>(n:Int)) (sub_bits hx hy hb))) rfl<|L.b rfl<|L.z ?_
 refine W.ret<|X.result2 rfl (.tmp rfl (.tmp rfl .nil)) ?_
 exact ⟨rfl,C0⟩
theorem c_Add32 {w : World} {x y b : Nat} (hx : x < 4294967296) (hy : y < 4294967296) (hb : b ≤ 1) :
    Ret Tryz.prog 137 #[.int .u32 (x:Int),.int .u32 (y:Int),.int .u32 (b:Int)] w (fun r w'=>r=.tuple #[.int .u32 (((x + y + b) % 4294967296:Nat):Int),.int .u32 (((x + y + b) / 4294967296:Nat):Int)]∧Mod [] w w'):=by
 refine Ret.of (vs:=[.int .u32 (x:Int),.int .u32 (y:Int),.int .u32 (b:Int)]) (n:=22) Tryz.func137 rfl rfl rfl rfl ?_
 have C0:Mod [] w w:=Mod.refl _ _
 refine W.sr<|L.b rfl<|L.b rfl<|L.z<|W.sr<|L.k rfl<|L.v (R1.convWL rfl tyI90 tyI87 (by omega)) rfl<|L.k rfl ?_
 refine L.v (R1.convWL rfl tyI90 tyI87 (by omega)) rfl<|L.v (R1.addL rfl rfl (by omega)) rfl<|L.k rfl<|L.v (R1.convWL rfl tyI90 tyI87 (by omega)) rfl<|L.v (R1.addL rfl rfl (by omega)) rfl<|L.b rfl<|L.z<|W.sr<|L.k rfl ?_
 refine L.v (R1.convLW rfl tyI87 tyI90) rfl<|L.b rfl<|L.z<|W.sr<|L.k rfl<|L.v (R1.shr32 rfl rfl) rfl<|L.v ((R1.convLW rfl tyI87 tyI90).as (j:=(((x + y + b) / 4294967296:Nat):Int)) (by omega)) rfl<|L.b rfl<|L.nil ?_
 refine X.seq<|W.ret<|X.result2 rfl (.tmp rfl (.tmp rfl .nil)) ?_
 exact ⟨rfl,C0⟩
theorem c_Div32 {w : World} {a c y : Nat} (ha : a < y) (hc : c < 4294967296) (hy : y < 4294967296) :
    Ret Tryz.prog 129 #[.int .u32 (a:Int),.int .u32 (c:Int),.int .u32 (y:Int)] w (fun r w'=>r=.tuple #[.int .u32 (((a * 4294967296 + c) / y:Nat):Int),.int .u32 (((a * 4294967296 + c) % y:Nat):Int)]∧Mod [] w w'):=by
 have hq:(a * 4294967296 + c) / y<4294967296:=by rw [Nat.div_lt_iff_lt_mul (by omega)]; omega
 have hr:(a * 4294967296 + c) % y<y:=Nat.mod_lt _ (by omega)
 refine Ret.of (vs:=[.int .u32 (a:Int),.int .u32 (c:Int),.int .u32 (y:Int)]) (n:=33) Tryz.func129 rfl rfl rfl rfl ?_
 have C0:Mod [] w w:=Mod.refl _ _
 refine W.sr<|L.b rfl<|L.b rfl<|L.z<|W.seq<|W.sr<|L.k rfl<|L.v ((R1.ne rfl rfl).asB (c:=true) (by simp; omega)) rfl ?_
 refine L.k rfl<|L.p rfl (R1.move rfl)<|L.p rfl (R1.move rfl)<|L.p rfl ((R1.le rfl rfl).asB (c:=false) (by simp; omega))<|L.pT rfl rfl<|L.z<|W.condF rfl<|W.skip<|X.seq<|W.seq ?_
 refine W.region<|L.k rfl<|L.v (R1.convWL rfl tyI90 tyI87 (by omega)) rfl<|L.v (R1.shl32 rfl rfl (by omega)) rfl<|L.k rfl<|L.v (R1.convWL rfl tyI90 tyI87 (by omega)) rfl<|L.v ((R1.orL rfl rfl (by omega) (by omega)).as (j:=(((a * 4294967296 + c):Nat):Int)) (congrArg (fun n:Nat=>(n:Int)) (or32 hc))) rfl<|L.b rfl<|L.z<|W.seq ?_
 refine W.drawW (T:=[]) rfl (by decide +kernel) (NoHang.then NoHang.post) (fun w1 C1=>?_)
 replace C0:=C0.trans C1
 have G1:Mod [] w1 w1:=Mod.refl _ _
 clear C1
 refine D.z 0 rfl (by kernel_rfl) rfl G1<|D.z 1 rfl (by kernel_rfl) rfl G1<|D.t 2 rfl (by kernel_rfl) (fun _ hS=>R1.convWL rfl tyI90 tyI87 (by omega)) G1<|D.t 3 rfl (by kernel_rfl) (fun _ hS=>R1.quoL rfl rfl (by omega) (by omega)) G1<|D.t 4 rfl (by kernel_rfl) (fun _ hS=>(R1.convLW rfl tyI87 tyI90).as (j:=(((a * 4294967296 + c) / y:Nat):Int)) (by rw [Nat.mod_eq_of_lt hq])) G1<|D.z 5 rfl (by kernel_rfl) rfl G1<|D.z 6 rfl (by kernel_rfl) rfl G1<|D.t 7 rfl (by kernel_rfl) (fun _ hS=>R1.convWL rfl tyI90 tyI87 (by omega)) G1<|D.t 8 rfl (by kernel_rfl) (fun _ hS=>R1.remL rfl rfl (by omega)) G1<|D.t 9 rfl (by kernel_rfl) (fun _ hS=>(R1.convLW rfl tyI87 tyI90).as (j:=(((a * 4294967296 + c) % y:Nat):Int)) (by rw [Nat.mod_eq_of_lt (show (a * 4294967296 + c) % y<4294967296 by omega)])) G1<|D.t 10 rfl (by kernel_rfl) (fun _ hS=>R1.assign rfl) G1 ?_
 refine D.t 11 rfl (by kernel_rfl) (fun _ hS=>R1.assign rfl) G1<|D.done (by decide +kernel) ?_ _
 refine X.seq<|W.ret<|X.result2 rfl (.tmp rfl (.tmp rfl .nil)) ?_
 exact ⟨rfl,C0⟩
theorem c_nat_Sub {M : List Nat} {w : World} {va vb : Value} {xs ys : List Nat} (h : U32 M w va xs) (k : U32 M w vb ys) (hbd : Bd M w) (hl1 : xs.length ≤ 1099511627776) (hl2 : ys.length ≤ 1099511627776) (hge : val ys ≤ val xs) :
    Ret Tryz.prog 114 #[va,vb] w (fun r w'=>∃ v,r=.tuple #[v,.bool true]∧U32 M w' v (toL (val xs - val ys))∧Mod [] w w'):=by
 have hbd0:=hbd;have hla:=toL_len_40 h.2 hl1;have hlb:=toL_len_mono hge
 refine Ret.of (vs:=[va,vb]) (n:=50) Tryz.func114 rfl rfl rfl rfl ?_
 have C0:Mod [] w w:=Mod.refl _ _
 refine W.sr<|L.b rfl<|L.b rfl<|L.z<|W.seq<|W.sr<|L.k rfl<|L.k rfl ?_
 refine L.c rfl (c_nat_Cmp (by assumption) (by assumption)) ?_
 rintro _ w1 ⟨rfl,C1⟩
 replace h:=h.gr C1;replace k:=k.gr C1;replace C0:=C0.trans C1;clear C1
 refine L.v ((R1.lt rfl rfl).asB (c:=false) (by rw [cmpI_lt0]; simp; omega)) rfl<|L.z<|W.condF rfl<|W.skip<|X.seq<|W.sr<|L.k rfl<|L.c rfl (c_nat_trim (by assumption)) ?_
 rintro v16 w2 ⟨h16,C2⟩
 replace h:=h.gr C2;replace k:=k.gr C2;replace C0:=C0.trans C2;clear C2
 refine L.k rfl<|L.c rfl (c_nat_trim (by assumption)) ?_
 rintro v18 w3 ⟨h18,C3⟩
 replace h:=h.gr C3;replace k:=k.gr C3;replace C0:=C0.trans C3;replace h16:=h16.gr C3;clear C3
 refine L.b rfl<|L.b rfl<|L.z<|W.sr<|L.k rfl<|L.lU rfl (by assumption) Q38<|L.makeSlice (m:=(toL (val xs)).length) rfl rfl rfl rfl Q38 tyZ90 (by omega) (by unfold maxLen; omega) rfl ?_
 intro g21 w4 D21
 replace h:=h.new D21;replace k:=k.new D21;have K21:=New.ge D21 C0.size;replace C0:=C0.tn D21;replace h16:=h16.new D21;replace h18:=h18.new D21;have E21:=D21.blk;clear D21
 rw [uarr_made] at E21
 refine L.b rfl<|L.z<|W.sr<|L.b rfl<|L.z<|W.seq<|W.seq<|W.region ?_
 refine L.k rfl<|L.lU rfl (by assumption) Q38<|L.k rfl<|L.z<|W.block<|W.loop (ι:=Nat × Nat × List Nat) (fun (k,bw,cs)=>[(0,v16),(1,v18),(6,.slice (some ⟨g21,0,none⟩) (toL (val xs)).length (toL (val xs)).length),(7,.int .u32 (bw:Int)),(22,v16),(23,.int .i64 ((toL (val xs)).length:Int)),(24,.int .i64 (k:Int))]) (fun (k,bw,cs) w_=>k≤(toL (val xs)).length∧cs.length=(toL (val xs)).length∧(∀ x∈cs,x<4294967296)∧bw≤1∧val ((toL (val xs)).take k) + 4294967296 ^ k * bw=val (cs.take k) + val ((toL (val ys)).take k)∧Blk w_ g21 90 (uarr cs)∧U32 (g21 :: M) w_ v16 (toL (val xs))∧U32 (g21 :: M) w_ v18 (toL (val ys))∧Mod [] w w_) (fun (k,bw,cs)=>(toL (val xs)).length - k) (0,0,List.replicate (toL (val xs)).length 0) ?_ ?_ ?_
 · repeat' constructor
 ·
  exact ⟨Nat.zero_le _,by simp,rep_lt _,by omega,by simp [val],E21,h16,h18,C0⟩
 rintro ⟨k,bw,cs⟩ w5 ⟨hk,hcl,hcx,hbw,hv,E21,h16,h18,C0⟩
 refine W.sr<|L.lt rfl rfl<|L.z<|W.seq<|W.cond rfl ?_ ?_
 ·
  intro J25
  try simp only [bq,ne_eq] at J25
  have hk1:k<(toL (val xs)).length:=by omega
  have hak:=h16.lt hk1
  refine W.skip<|X.seq<|W.seq<|W.block<|W.sr<|L.k rfl<|L.v (R1.atU (j:=k) rfl rfl (by assumption) Q38 rfl (by omega)) rfl<|L.v (R1.ldU rfl (by assumption) tyP90 (by omega) rfl) rfl<|L.b rfl<|L.b rfl ?_
  refine L.z<|W.sr<|L.b rfl<|L.z<|W.seq<|W.sr<|L.k rfl ?_
  refine L.k rfl<|L.lU rfl (by assumption) Q38<|L.lt rfl rfl<|L.z<|W.cut (ι:=Nat) (fun y=>[(0,v16),(1,v18),(6,.slice (some ⟨g21,0,none⟩) (toL (val xs)).length (toL (val xs)).length),(7,.int .u32 (bw:Int)),(8,.int .i64 (k:Int)),(9,.int .u32 (((toL (val xs))[k]:Nat):Int)),(10,.int .u32 (y:Int)),(22,v16),(23,.int .i64 ((toL (val xs)).length:Int)),(24,.int .i64 (k:Int))]) (fun y w_=>y<4294967296∧y=(toL (val ys)).getD k 0∧Blk w_ g21 90 (uarr cs)∧U32 (g21 :: M) w_ v16 (toL (val xs))∧U32 (g21 :: M) w_ v18 (toL (val ys))∧Mod [] w w_) ?_ ?_
  ·
   refine W.cond rfl ?_ ?_
   ·
    intro J32
    try simp only [bq,ne_eq] at J32
    have hk2:k<(toL (val ys)).length:=by omega
    refine W.region<|L.k rfl<|L.k rfl<|L.v (R1.atU (j:=k) rfl rfl (by assumption) Q38 rfl (by omega)) rfl<|L.v (R1.ldU rfl (by assumption) tyP90 (by omega) rfl) rfl<|L.b rfl<|L.nil<|X.join (toL (val ys))[k] ?_ ?_
    · repeat' constructor
    exact ⟨h18.lt hk2,by simp [hk2],E21,h16,h18,C0⟩
   intro J32
   try simp only [bq,ne_eq] at J32
   refine W.skip<|X.join 0 ?_ ?_
   · repeat' constructor
   exact ⟨by decide,by simp [List.getD_eq_getElem?_getD,List.getElem?_eq_none (show (toL (val ys)).length≤k by omega)],E21,h16,h18,C0⟩
  rintro y wk ⟨hyk,hy,E21,h16,h18,C0⟩
  refine X.seq<|W.region<|L.k rfl<|L.k rfl<|L.k rfl<|L.k rfl<|L.k rfl<|L.c rfl (c_Sub32 hak hyk hbw) ?_
  rintro _ w6 ⟨rfl,C6⟩
  replace E21:=E21.gr C6;replace h16:=h16.gr C6;replace h18:=h18.gr C6;replace C0:=C0.trans C6;clear C6
  refine L.k rfl<|L.ex rfl rfl<|L.ex rfl rfl<|L.v (R1.atO (j:=k) rfl rfl Q38 rfl (by omega)) rfl<|L.storeU rfl rfl E21 (by omega) tyP90 ?_
  intro w7 E21' C7
  replace h16:=h16.ms C7;replace h18:=h18.ms C7;replace C0:=C0.old1 C7 K21;clear C7;replace E21:=E21'; clear E21'
  refine L.b rfl<|L.nil<|X.blockEnd<|X.seq<|W.region<|L.inc rfl rfl (by omega)<|L.k rfl<|L.nil<|X.next (k + 1,subB (toL (val xs))[k] y bw,cs.set k (subW (toL (val xs))[k] y bw)) ?_ ?_ ?_
  · repeat' constructor
  ·
   refine ⟨by omega,by simpa using hcl,set_lt hcx (subW_lt _ _ _),subB_le _ _ _,?_,E21,h16,h18,C0⟩
   rw [val_take_set (by omega),val_take_succ hk1,val_take_succD (toL (val ys)),pow_LB_succ,← hy]
   exact sub_step hv (subW_eq hak hyk hbw)
  first | omega | (dsimp only; omega)
 intro J25
 try simp only [bq,ne_eq] at J25
 obtain rfl:k=(toL (val xs)).length:=by omega
 rw [List.take_length,val_take_all hlb,val_take_all (by omega),val_toL,val_toL] at hv
 refine W.brk<|W.seq ?_
 have hU:U32 M w5 (.slice (some ⟨g21,0,none⟩) (toL (val xs)).length (toL (val xs)).length) cs:=by
     have hU:=U32.of_blk (M:=M) E21 (hbd0.not K21) (by unfold maxLen; omega) hcx
     rw [hcl] at hU; exact hU
 refine W.region<|L.k rfl<|L.c rfl (c_nat_trim hU) ?_
 rintro v49 w8 ⟨h49,C8⟩
 replace C0:=C0.trans C8;clear C8
 refine L.b rfl<|L.b rfl<|L.z<|W.ret<|X.result2 rfl (.tmp rfl (.tmp rfl .nil))<|⟨_,rfl,?_,C0⟩
 have hc:=val_lt cs hcx
 rw [hcl] at hc
 rw [sub_end hv hbw hc hge] at h49
 exact h49
theorem c_nat_Sub0 {M : List Nat} {w : World} {va vb : Value} {xs ys : List Nat} (h : U32 M w va xs) (k : U32 M w vb ys) (hlt : val xs < val ys) :
    Ret Tryz.prog 114 #[va,vb] w (fun r w'=>r=.tuple #[.slice none 0 0,.bool false]∧Mod [] w w'):=by
 refine Ret.of (vs:=[va,vb]) (n:=50) Tryz.func114 rfl rfl rfl rfl ?_
 have C0:Mod [] w w:=Mod.refl _ _
 refine W.sr<|L.b rfl<|L.b rfl<|L.z<|W.seq<|W.sr<|L.k rfl<|L.k rfl ?_
 refine L.c rfl (c_nat_Cmp (by assumption) (by assumption)) ?_
 rintro _ w1 ⟨rfl,C1⟩
 replace C0:=C0.trans C1;clear C1
 refine L.v ((R1.lt rfl rfl).asB (c:=true) (by rw [cmpI_lt0]; simp; omega)) rfl<|L.z<|W.condT rfl<|W.sr<|L.b rfl<|L.b rfl<|L.z<|W.ret ?_
 refine X.thenRet<|X.result2 rfl (.tmp rfl (.tmp rfl .nil)) ?_
 exact ⟨rfl,C0⟩
theorem c_nat_Mul {M : List Nat} {w : World} {va vb : Value} {xs ys : List Nat} (h : U32 M w va xs) (k : U32 M w vb ys) (hbd : Bd M w) (hl1 : xs.length ≤ 1099511627776) (hl2 : ys.length ≤ 1099511627776) :
    Ret Tryz.prog 112 #[va,vb] w (fun r w'=>U32 M w' r (toL (val xs * val ys))∧Mod [] w w'):=by
 have hbd0:=hbd;have hla:=toL_len_40 h.2 hl1;have hlb:=toL_len_40 k.2 hl2
 refine Ret.of (vs:=[va,vb]) (n:=71) Tryz.func112 rfl rfl rfl rfl ?_
 have C0:Mod [] w w:=Mod.refl _ _
 refine W.sr<|L.b rfl<|L.z<|W.sr<|L.k rfl<|L.c rfl (c_nat_trim (by assumption)) ?_
 rintro v12 w1 ⟨h12,C1⟩
 replace h:=h.gr C1;replace k:=k.gr C1;replace C0:=C0.trans C1;clear C1
 refine L.k rfl<|L.c rfl (c_nat_trim (by assumption)) ?_
 rintro v14 w2 ⟨h14,C2⟩
 replace h:=h.gr C2;replace k:=k.gr C2;replace C0:=C0.trans C2;replace h12:=h12.gr C2;clear C2
 refine L.b rfl<|L.b rfl<|L.z<|W.sr<|L.k rfl<|L.lU rfl (by assumption) Q38<|L.k rfl<|L.lU rfl (by assumption) Q38<|L.v (R1.addI rfl rfl (by omega)) rfl ?_
 refine L.makeSlice (m:=((toL (val xs)).length + (toL (val ys)).length)) rfl rfl rfl rfl Q38 tyZ90 (by omega) (by unfold maxLen; omega) rfl ?_
 intro g20 w3 D20
 replace h:=h.new D20;replace k:=k.new D20;have K20:=New.ge D20 C0.size;replace C0:=C0.tn D20;replace h12:=h12.new D20;replace h14:=h14.new D20;have E20:=D20.blk;clear D20
 rw [uarr_made] at E20
 refine L.b rfl<|L.z<|W.seq<|W.sr<|L.k rfl<|L.lU rfl (by assumption) Q38<|L.k rfl<|L.z ?_
 refine W.block<|W.loop (ι:=Nat × List Nat) (fun (i,cs)=>[(0,v12),(1,v14),(5,.slice (some ⟨g20,0,none⟩) ((toL (val xs)).length + (toL (val ys)).length) ((toL (val xs)).length + (toL (val ys)).length)),(21,v12),(22,.int .i64 ((toL (val xs)).length:Int)),(23,.int .i64 (i:Int))]) (fun (i,cs) w_=>i≤(toL (val xs)).length∧cs.length=(toL (val xs)).length + (toL (val ys)).length∧(∀ x∈cs,x<4294967296)∧val cs=val ((toL (val xs)).take i) * val (toL (val ys))∧(∀ j (hj:j<cs.length),i + (toL (val ys)).length≤j→cs[j]=0)∧Blk w_ g20 90 (uarr cs)∧U32 (g20 :: M) w_ v12 (toL (val xs))∧U32 (g20 :: M) w_ v14 (toL (val ys))∧Mod [] w w_) (fun (i,cs)=>(toL (val xs)).length - i) (0,List.replicate ((toL (val xs)).length + (toL (val ys)).length) 0) ?_ ?_ ?_
 · repeat' constructor
 ·
  exact ⟨Nat.zero_le _,by simp,rep_lt _,by simp [val,val_replicate],by simp,E20,h12,h14,C0⟩
 rintro ⟨i,cs0⟩ w4 ⟨hi,hcl,hcx,hv,hz,E20,h12,h14,C0⟩
 refine W.sr<|L.lt rfl rfl<|L.z<|W.seq<|W.cond rfl ?_ ?_
 ·
  intro J24
  try simp only [bq,ne_eq] at J24
  have hi1:i<(toL (val xs)).length:=by omega
  have hai:=h12.lt hi1
  refine W.skip<|X.seq<|W.seq<|W.block<|W.sr<|L.k rfl<|L.v (R1.atU (j:=i) rfl rfl (by assumption) Q38 rfl (by omega)) rfl<|L.v (R1.ldU rfl (by assumption) tyP90 (by omega) rfl) rfl<|L.b rfl<|L.b rfl ?_
  refine L.z<|W.sr<|L.b rfl<|L.z<|W.seq<|W.sr<|L.k rfl ?_
  refine L.lU rfl (by assumption) Q38<|L.k rfl<|L.z<|W.block<|W.loop (ι:=Nat × Nat × List Nat) (fun (k,cy,cs)=>[(0,v12),(1,v14),(5,.slice (some ⟨g20,0,none⟩) ((toL (val xs)).length + (toL (val ys)).length) ((toL (val xs)).length + (toL (val ys)).length)),(6,.int .i64 (i:Int)),(7,.int .u32 (((toL (val xs))[i]:Nat):Int)),(8,.int .u64 (cy:Int)),(21,v12),(22,.int .i64 ((toL (val xs)).length:Int)),(23,.int .i64 (i:Int)),(28,v14),(29,.int .i64 ((toL (val ys)).length:Int)),(30,.int .i64 (k:Int))]) (fun (k,cy,cs) w_=>k≤(toL (val ys)).length∧cs.length=(toL (val xs)).length + (toL (val ys)).length∧(∀ x∈cs,x<4294967296)∧cy<4294967296∧val cs + 4294967296 ^ i * 4294967296 ^ k * cy=val cs0 + 4294967296 ^ i * ((toL (val xs))[i] * val ((toL (val ys)).take k))∧(∀ j (hj:j<cs.length),i + (toL (val ys)).length≤j→cs[j]=0)∧Blk w_ g20 90 (uarr cs)∧U32 (g20 :: M) w_ v12 (toL (val xs))∧U32 (g20 :: M) w_ v14 (toL (val ys))∧Mod [] w w_) (fun (k,cy,cs)=>(toL (val ys)).length - k) (0,0,cs0) ?_ ?_ ?_
  · repeat' constructor
  ·
   exact ⟨Nat.zero_le _,hcl,hcx,by decide,by simp [val],hz,E20,h12,h14,C0⟩
  rintro ⟨k,cy,cs⟩ w5 ⟨hk,hcl2,hcx2,hcy,hv2,P2,E20,h12,h14,C0⟩
  refine W.sr<|L.lt rfl rfl<|L.z<|W.seq<|W.cond rfl ?_ ?_
  ·
   intro J31
   try simp only [bq,ne_eq] at J31
   have hk1:k<(toL (val ys)).length:=by omega
   have hbk:=h14.lt hk1;have hab:=limb_mul hai hbk;have hck:=hcx2 _ (List.getElem_mem (show i + k<cs.length by omega))
   refine W.skip<|X.seq<|W.seq<|W.block<|W.sr<|L.k rfl<|L.v (R1.atU (j:=k) rfl rfl (by assumption) Q38 rfl (by omega)) rfl<|L.v (R1.ldU rfl (by assumption) tyP90 (by omega) rfl) rfl<|L.b rfl<|L.b rfl ?_
   refine L.z<|W.sr<|L.k rfl<|L.k rfl<|L.v (R1.convWL rfl tyI90 tyI87 (by omega)) rfl<|L.k rfl<|L.v (R1.convWL rfl tyI90 tyI87 (by omega)) rfl<|L.v (R1.mulL rfl rfl (by omega)) rfl<|L.k rfl ?_
   refine L.k rfl<|L.k rfl<|L.v (R1.addI rfl rfl (by omega)) rfl<|L.v (R1.atO (j:=(i + k)) rfl rfl Q38 rfl (by omega)) rfl<|L.v (R1.ldO rfl (by assumption) (by omega) tyP90 rfl) rfl<|L.v (R1.convWL rfl tyI90 tyI87 (by omega)) rfl<|L.v (R1.addL rfl rfl (by omega)) rfl<|L.v (R1.addL rfl rfl (by omega)) rfl<|L.b rfl<|L.z ?_
   refine W.sr<|L.k rfl<|L.k rfl<|L.k rfl<|L.v (R1.addI rfl rfl (by omega)) rfl<|L.k rfl<|L.v (R1.convLW rfl tyI87 tyI90) rfl<|L.v (R1.atO (j:=(i + k)) rfl rfl Q38 rfl (by omega)) rfl<|L.storeU rfl rfl E20 (by omega) tyP90 ?_
   intro w6 E20' C6
   replace h12:=h12.ms C6;replace h14:=h14.ms C6;replace C0:=C0.old1 C6 K20;clear C6;replace E20:=E20'; clear E20'
   refine L.z<|W.region<|L.k rfl<|L.v (R1.shr32 rfl rfl) rfl<|L.b rfl<|L.nil<|X.blockEnd<|X.seq<|W.region<|L.inc rfl rfl (by omega) ?_
   refine L.k rfl<|L.nil<|X.next (k + 1,(cy + ((toL (val xs))[i] * (toL (val ys))[k] + cs[i + k])) / 4294967296,cs.set (i + k) ((cy + ((toL (val xs))[i] * (toL (val ys))[k] + cs[i + k])) % 4294967296)) ?_ ?_ ?_
   · repeat' constructor
   ·
    refine ⟨by omega,by simpa using hcl2,set_lt hcx2 (Nat.mod_lt _ (by decide)),by omega,?_,?_,E20,h12,h14,C0⟩
    · have e1:=val_set (xs:=cs) (j:=i + k) (by omega) ((cy + ((toL (val xs))[i] * (toL (val ys))[k] + cs[i + k])) % 4294967296)
      rw [Nat.pow_add] at e1
      rw [val_take_succ hk1,pow_LB_succ,show 4294967296 ^ i * (4294967296 * 4294967296 ^ k)=4294967296 * (4294967296 ^ i * 4294967296 ^ k) by rw [Nat.mul_left_comm]]
      exact mul_step e1 hv2 rfl
    intro j hj hle
    rw [List.getElem_set_ne (by omega)]
    exact P2 _ (by simpa using hj) (by omega)
   first | omega | (dsimp only; omega)
  intro J31
  try simp only [bq,ne_eq] at J31
  obtain rfl:k=(toL (val ys)).length:=by omega
  rw [List.take_length] at hv2
  refine W.exit<|X.thenExit<|X.nextExit<|X.here<|X.seq ?_
  rw [← Nat.pow_add] at hv2
  refine W.region<|L.k rfl<|L.k rfl<|L.k rfl<|L.lU rfl (by assumption) Q38<|L.v (R1.addI rfl rfl (by omega)) rfl<|L.k rfl<|L.v (R1.convLW rfl tyI87 tyI90) rfl<|L.v (R1.atO (j:=(i + (toL (val ys)).length)) rfl rfl Q38 rfl (by omega)) rfl<|L.storeU rfl rfl E20 (by omega) tyP90 ?_
  intro w7 E20' C7
  replace h12:=h12.ms C7;replace h14:=h14.ms C7;replace C0:=C0.old1 C7 K20;clear C7;replace E20:=E20'; clear E20'
  refine L.nil<|X.blockEnd<|X.seq<|W.region<|L.inc rfl rfl (by omega)<|L.k rfl<|L.nil<|X.next (i + 1,cs.set (i + (toL (val ys)).length) (cy % 4294967296)) ?_ ?_ ?_
  · repeat' constructor
  ·
   refine ⟨by omega,by simpa using hcl2,set_lt hcx2 (Nat.mod_lt _ (by decide)),?_,?_,E20,h12,h14,C0⟩
   · have e1:=val_set (xs:=cs) (j:=i + (toL (val ys)).length) (by omega) (cy % 4294967296)
     rw [P2 _ (by omega) (Nat.le_refl _),Nat.mod_eq_of_lt hcy,Nat.mul_zero,Nat.add_zero] at e1
     rw [Nat.mod_eq_of_lt hcy,val_take_succ hi1]
     exact mul_end e1 hv2 hv
   intro j hj hle
   rw [List.getElem_set_ne (by omega)]
   exact P2 _ (by simpa using hj) (by omega)
  first | omega | (dsimp only; omega)
 intro J24
 try simp only [bq,ne_eq] at J24
 obtain rfl:i=(toL (val xs)).length:=by omega
 rw [List.take_length,val_toL,val_toL] at hv
 refine W.brk<|W.seq ?_
 have hU:U32 M w4 (.slice (some ⟨g20,0,none⟩) ((toL (val xs)).length + (toL (val ys)).length) ((toL (val xs)).length + (toL (val ys)).length)) cs0:=by
     have hU:=U32.of_blk (M:=M) E20 (hbd0.not K20) (by unfold maxLen; omega) hcx
     rw [hcl] at hU; exact hU
 refine W.region<|L.k rfl<|L.c rfl (c_nat_trim hU) ?_
 rintro v70 w8 ⟨h70,C8⟩
 replace C0:=C0.trans C8;clear C8
 refine L.b rfl<|L.z<|W.ret<|X.result1 rfl (.tmp rfl .nil) ?_
 exact ⟨by rw [hv] at h70; exact h70,C0⟩
theorem c_nat_small {M : List Nat} {w : World} {va : Value} {xs : List Nat} {b : Nat} (h : U32 M w va xs) (E0 : 0 < b) (hb : b < 4294967296) (hbd : Bd M w) (hl : xs.length ≤ 1099511627776) :
    Ret Tryz.prog 123 #[va,.int .u32 (b:Int)] w (fun r w'=>∃ v,r=.tuple #[v,.int .u32 ((val xs % b:Nat):Int)]∧U32 M w' v (toL (val xs / b))∧Mod [] w w'):=by
 have hbd0:=hbd
 refine Ret.of (vs:=[va,.int .u32 (b:Int)]) (n:=35) Tryz.func123 rfl rfl rfl rfl ?_
 have C0:Mod [] w w:=Mod.refl _ _
 refine W.sr<|L.b rfl<|L.b rfl<|L.z<|W.sr<|L.k rfl<|L.lU rfl (by assumption) Q38<|L.makeSlice (m:=xs.length) rfl rfl rfl rfl Q38 tyZ90 (by omega) (by unfold maxLen; omega) rfl ?_
 intro g11 w1 D11
 replace h:=h.new D11;have K11:=New.ge D11 C0.size;replace C0:=C0.tn D11;have E11:=D11.blk;clear D11
 rw [uarr_made] at E11
 refine L.b rfl<|L.z<|W.sr<|L.b rfl<|L.z<|W.seq<|W.seq<|W.region ?_
 refine L.k rfl<|L.lU rfl (by assumption) Q38<|L.v ((R1.sub rfl rfl).as (wrap_i64 (by omega) (by omega))) rfl<|L.b rfl<|L.z<|W.block<|W.loop (ι:=Nat × Nat × List Nat) (fun (m,r,q)=>[(0,va),(1,.int .u32 (b:Int)),(6,.slice (some ⟨g11,0,none⟩) xs.length xs.length),(7,.int .u32 (r:Int)),(8,.int .i64 ((m:Int) - 1))]) (fun (m,r,q) w_=>m≤xs.length∧q.length=xs.length∧(∀ x∈q,x<4294967296)∧r<b∧val (xs.drop m)=b * val (q.drop m) + r∧Blk w_ g11 90 (uarr q)∧U32 (g11 :: M) w_ va xs∧Mod [] w w_) (fun (m,r,q)=>m) (xs.length,0,List.replicate xs.length 0) ?_ ?_ ?_
 · repeat' constructor
 ·
  exact ⟨Nat.le_refl _,by simp,rep_lt _,E0,by simp [val],E11,h,C0⟩
 rintro ⟨m,r,q⟩ w2 ⟨hm,hql,hqx,hr,hv,E11,h,C0⟩
 refine W.seq<|W.sr<|L.k rfl<|L.v (R1.ge rfl rfl) rfl<|L.z<|W.cond rfl ?_ ?_
 ·
  intro J16
  try simp only [bq,ne_eq] at J16
  have C1:0<m:=by omega
  have hxm:=h.lt (show m - 1<xs.length by omega)
  have hq:(r * 4294967296 + xs[m - 1]) / b<4294967296:=by rw [Nat.div_lt_iff_lt_mul (by omega)]; omega
  refine W.skip<|X.seq<|W.seq<|W.block<|W.region<|L.k rfl<|L.k rfl<|L.k rfl<|L.k rfl<|L.k rfl<|L.v (R1.atU (j:=(m - 1)) rfl rfl (by assumption) Q38 (by omega) (by omega)) rfl ?_
  refine L.v (R1.ldU rfl (by assumption) tyP90 (by omega) rfl) rfl<|L.k rfl<|L.c rfl (c_Div32 hr (h.lt (show m - 1<xs.length by omega)) hb) ?_
  rintro _ w3 ⟨rfl,C3⟩
  replace E11:=E11.gr C3;replace h:=h.gr C3;replace C0:=C0.trans C3;clear C3
  refine L.k rfl<|L.ex rfl rfl<|L.ex rfl rfl<|L.v (R1.atO (j:=(m - 1)) rfl rfl Q38 (by omega) (by omega)) rfl<|L.storeU rfl rfl E11 (by omega) tyP90 ?_
  intro w4 E11' C4
  replace h:=h.ms C4;replace C0:=C0.old1 C4 K11;clear C4;replace E11:=E11'; clear E11'
  refine L.b rfl<|L.nil<|X.blockEnd<|X.seq<|W.region<|L.k rfl<|L.v ((R1.sub rfl rfl).as (j:=((m - 1:Nat):Int) - 1) (by rw [wrap_i64 (by omega) (by omega)]; omega)) rfl<|L.b rfl<|L.nil<|X.next (m - 1,(r * 4294967296 + xs[m - 1]) % b,q.set (m - 1) ((r * 4294967296 + xs[m - 1]) / b)) ?_ ?_ ?_
  · repeat' constructor
  ·
   refine ⟨by omega,by simpa using hql,set_lt hqx hq,Nat.mod_lt _ E0,?_,E11,h,C0⟩
   rw [val_drop_set (by omega),val_drop_step (by omega),Nat.sub_add_cancel C1]
   exact small_step hv rfl
  first | omega | (dsimp only; omega)
 intro J16
 try simp only [bq,ne_eq] at J16
 obtain rfl:m=0:=by omega
 rw [List.drop_zero,List.drop_zero] at hv
 refine W.brk<|W.seq ?_
 have hU:U32 M w2 (.slice (some ⟨g11,0,none⟩) xs.length xs.length) q:=by
     have hU:=U32.of_blk (M:=M) E11 (hbd0.not K11) (by unfold maxLen; omega) hqx
     rw [hql] at hU; exact hU
 refine W.region<|L.k rfl<|L.c rfl (c_nat_trim hU) ?_
 rintro v33 w5 ⟨h33,C5⟩
 replace C0:=C0.trans C5;clear C5
 refine L.k rfl<|L.b rfl<|L.b rfl<|L.z<|W.ret<|X.result2 rfl (.tmp rfl (.tmp rfl .nil)) ?_
 have e1:val xs / b=val q:=by rw [hv,Nat.mul_add_div E0,Nat.div_eq_of_lt hr,Nat.add_zero]
 have e2:val xs % b=r:=by rw [hv,Nat.mul_add_mod,Nat.mod_eq_of_lt hr]
 rw [e1,e2]
 exact ⟨_,rfl,h33,C0⟩
end Go.Proofs.YthoooolflmbmbaaGreat
end
