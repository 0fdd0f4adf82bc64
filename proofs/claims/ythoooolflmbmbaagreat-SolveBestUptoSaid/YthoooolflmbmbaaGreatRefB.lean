/- Several texts in one. -/
import Derived.Test.YthoooolflmbmbaaGreatNat3
import Derived.Test.YthoooolflmbmbaaGreatNum3
section
namespace Go.Proofs.YthoooolflmbmbaaGreat
open Go.RowKit
set_option linter.unusedVariables false
set_option linter.unusedSimpArgs false
set_option maxRecDepth 10000
theorem U32one {xs:List Nat}:∀ c∈xs.map (fun (x:Nat)=>Value.int .u32 (x:Int)),c.oneCell'=true:=by simp [Value.oneCell']
theorem c_r1_Trim {M N9 : List Nat} {w : World} {v : Value} {xs : List Nat} (h : U32 N9 w v xs) (hbd : Bd M w) (hl : xs.length ≤ 4398046511104) :
    Ret Tryz.prog 88 #[v] w (fun r w'=>U32 M w' r (toL (val xs))∧Mod [] w w'):=by
 have hx:=h.2;have hbd0:=hbd
 refine Ret.of (vs:=[v]) (n:=23) Tryz.func88 rfl rfl rfl rfl ?_
 have C0:Mod [] w w:=Mod.refl _ _
 refine W.sr<|L.b rfl<|L.z<|W.sr<|L.k rfl<|L.lU rfl (by assumption) Q38<|L.b rfl<|L.nil ?_
 refine X.seq<|W.seq<|W.block<|W.loop (ι:=Nat) (fun m=>[(0,v),(3,.int .i64 (m:Int))]) (fun m w_=>m≤xs.length∧val (xs.take m)=val xs∧U32 N9 w_ v xs∧Mod [] w w_) (fun m=>m) xs.length ?_ ?_ ?_
 · exact ⟨rfl,rfl,trivial⟩
 ·
  exact ⟨Nat.le_refl _,by rw [List.take_length],h,C0⟩
 rintro m w1 ⟨hm,hv,h,C0⟩
 refine W.seq<|W.sr<|L.k rfl<|L.v ((R1.gt rfl rfl).asB (c:=decide (0<m)) (by congr 1; apply propext; omega)) rfl<|L.k rfl ?_
 cases W8:decide (0<m)
 ·
  try simp only [bq,ne_eq] at W8
  have C00:m=0:=by omega
  have hres:xs.take m=toL (val xs):=by
      rw [C00] at hv ⊢; exact take_trim0 hv
  refine L.o rfl<|L.o rfl<|L.o rfl<|L.o rfl<|L.o rfl<|L.o rfl<|L.pF rfl rfl<|L.z<|W.condF rfl<|W.exit ?_
  refine X.thenExit<|X.nextExit<|X.here<|X.seq<|W.seq ?_
  obtain ⟨A,cap,rfl⟩:=h.form;have hcap:=h.1.capOf rfl
  refine W.region<|L.buildEmpty Q38 rfl ?_
  intro g18 w2 D18
  replace h:=h.new D18;have K18:=New.ge D18 C0.size;replace C0:=C0.tn D18;have E18:=D18.blk;clear D18
  refine L.k rfl<|L.k rfl ?_
  have hcut:U32 (g18 :: N9) w2 (cutS A cap 0 m 1) (xs.take m):=by
      have h1:=h.1.cutH (k:=m) (by omega) rfl
      refine ⟨h1.congr (by simp; omega) (by simp [List.map_take]),fun x hx9=>hx x (List.mem_of_mem_take hx9)⟩
  refine L.v ((R1.sliceH rfl rfl Q38 (by omega) (by omega)).asV (v:=cutS A cap 0 m 1) (by rw [Int.toNat_natCast])) rfl ?_
  have hlen:(xs.take m).length=m:=by rw [List.length_take]; omega
  have hown18:World.ownsRow w2 w.heap.size 90 1 (.slice (some ⟨g18,0,none⟩) 0 0) 0 []:=⟨rfl,.inr ⟨g18,0,#[],rfl,K18,E18,Nat.le_refl _,by decide,rfl,rfl⟩⟩
  clear E18
  refine L.append rfl rfl hown18 hcut.1 U32one Q38 tyZ90 (by omega) (by unfold maxLen; omega) C0.size rfl ?_
  intro v22 w3 O22' X22
  replace C0:=C0.grew X22 (fun g hg=>(own_ge hown18 g hg).1);clear hown18;have O22:=O22'; clear O22';obtain ⟨A22,c22,rfl⟩:=own_form O22
  refine L.b rfl<|L.z<|W.ret<|X.result1 rfl (.tmp rfl .nil)<|⟨?_,C0⟩
  have hU:U32 M _ _ (xs.take m):=⟨(Sl.of_own (M:=M) O22 (fun g hg=>hbd0.not (own_ge O22 g hg).1)).congr (by omega) (by simp),fun x hx9=>hx x (List.mem_of_mem_take hx9)⟩
  rw [hres] at hU ⊢
  exact hU
 try simp only [bq,ne_eq] at W8
 refine L.p rfl (R1.move rfl)<|L.p rfl (R1.move rfl)<|L.p rfl (R1.subI (b:=1) rfl rfl (by omega) (by omega))<|L.p rfl (R1.atU (j:=(m - 1)) rfl rfl (by assumption) Q38 rfl (by omega))<|L.p rfl (R1.ldU rfl (by assumption) tyP90 (by omega) rfl)<|L.p rfl (R1.eq rfl rfl)<|L.pT rfl rfl<|L.z<|W.cond rfl ?_ ?_
 ·
  intro J15
  try simp only [bq,ne_eq] at J15
  refine W.skip<|X.seq<|W.block<|W.region<|L.k rfl<|L.v (R1.subI (b:=1) rfl rfl (by omega) (by omega)) rfl<|L.b rfl<|L.nil<|X.blockEnd<|X.next (m - 1) ?_ ?_ ?_
  · exact ⟨rfl,rfl,trivial⟩
  ·
   exact ⟨by omega,val_take_zero (by omega) (by omega) (by rw [Nat.sub_add_cancel W8]; exact hv),h,C0⟩
  first | omega | (dsimp only; omega)
 intro J15
 try simp only [bq,ne_eq] at J15
 have hres:=take_trim hx W8 hm hv (by omega)
 refine W.brk<|W.seq ?_
 obtain ⟨A,cap,rfl⟩:=h.form;have hcap:=h.1.capOf rfl
 refine W.region<|L.buildEmpty Q38 rfl ?_
 intro g18 w4 D18
 replace h:=h.new D18;have K18:=New.ge D18 C0.size;replace C0:=C0.tn D18;have E18:=D18.blk;clear D18
 refine L.k rfl<|L.k rfl ?_
 have hcut:U32 (g18 :: N9) w4 (cutS A cap 0 m 1) (xs.take m):=by
     have h1:=h.1.cutH (k:=m) (by omega) rfl
     refine ⟨h1.congr (by simp; omega) (by simp [List.map_take]),fun x hx9=>hx x (List.mem_of_mem_take hx9)⟩
 refine L.v ((R1.sliceH rfl rfl Q38 (by omega) (by omega)).asV (v:=cutS A cap 0 m 1) (by rw [Int.toNat_natCast])) rfl ?_
 have hlen:(xs.take m).length=m:=by rw [List.length_take]; omega
 have hown18:World.ownsRow w4 w.heap.size 90 1 (.slice (some ⟨g18,0,none⟩) 0 0) 0 []:=⟨rfl,.inr ⟨g18,0,#[],rfl,K18,E18,Nat.le_refl _,by decide,rfl,rfl⟩⟩
 clear E18
 refine L.append rfl rfl hown18 hcut.1 U32one Q38 tyZ90 (by omega) (by unfold maxLen; omega) C0.size rfl ?_
 intro v22 w5 O22' X22
 replace C0:=C0.grew X22 (fun g hg=>(own_ge hown18 g hg).1);clear hown18;have O22:=O22'; clear O22';obtain ⟨A22,c22,rfl⟩:=own_form O22
 refine L.b rfl<|L.z<|W.ret<|X.result1 rfl (.tmp rfl .nil)<|⟨?_,C0⟩
 have hU:U32 M _ _ (xs.take m):=⟨(Sl.of_own (M:=M) O22 (fun g hg=>hbd0.not (own_ge O22 g hg).1)).congr (by omega) (by simp),fun x hx9=>hx x (List.mem_of_mem_take hx9)⟩
 rw [hres] at hU ⊢
 exact hU
theorem c_r1_Of {M : List Nat} {w : World} {n : Nat} (hn : n < 18446744073709551616) (hbd : Bd M w) :
    Ret Tryz.prog 57 #[.int .u64 (n:Int)] w (fun r w'=>U32 M w' r (toL n)∧Mod [] w w'):=by
 have hbd0:=hbd
 refine Ret.of (vs:=[.int .u64 (n:Int)]) (n:=10) Tryz.func57 rfl rfl rfl rfl ?_
 have C0:Mod [] w w:=Mod.refl _ _
 refine W.sr<|L.b rfl<|L.z<|W.sr<|L.k rfl<|L.v (R1.convLW rfl tyI87 tyI90) rfl<|L.k rfl<|L.v (R1.shr32 rfl rfl) rfl ?_
 refine L.v (R1.convLW rfl tyI87 tyI90) rfl<|L.buildSlice (cells:=[.int .u32 ((n % 4294967296:Nat):Int),.int .u32 ((n / 4294967296 % 4294967296:Nat):Int)]) rfl Q38 tyZ90 (fill2u _ _) (by decide) (by decide) rfl ?_
 intro g8 w1 D8
 have K8:=New.ge D8 C0.size;replace C0:=C0.tn D8;have E8:=D8.blk;clear D8
 have hU:U32 M w1 (.slice (some ⟨g8,0,none⟩) 2 2) [n % 4294967296,n / 4294967296 % 4294967296]:=U32.of_blk (xs:=[n % 4294967296,n / 4294967296 % 4294967296]) E8 (hbd0.not K8) (by show (2:Nat)≤maxLen; decide) (by simp; omega)
 refine L.c rfl (c_r1_Trim hU (hbd0.gr C0) (by show (2:Nat)≤4398046511104; decide)) ?_
 rintro v9 w2 ⟨h9,C2⟩
 replace C0:=C0.trans C2;clear C2
 refine L.b rfl<|L.z<|W.ret<|X.result1 rfl (.tmp rfl .nil) ?_
 exact ⟨by rw [val_two n hn] at h9; exact h9,C0⟩
theorem c_r1_at {M : List Nat} {w : World} {v : Value} {xs : List Nat} (h : U32 M w v xs) {i : Nat} :
    Ret Tryz.prog 120 #[v,.int .i64 (i:Int)] w (fun r w'=>r=.int .u64 ((xs.getD i 0:Nat):Int)∧Mod [] w w'):=by
 have hx:=h.2
 refine Ret.of (vs:=[v,.int .i64 (i:Int)]) (n:=14) Tryz.func120 rfl rfl rfl rfl ?_
 have C0:Mod [] w w:=Mod.refl _ _
 refine W.sr<|L.b rfl<|L.z<|W.seq<|W.sr<|L.k rfl<|L.k rfl<|L.lU rfl (by assumption) Q38 ?_
 refine L.lt rfl rfl<|L.z<|W.cond rfl ?_ ?_
 ·
  intro J8
  try simp only [bq,ne_eq] at J8
  have hi:i<xs.length:=by omega
  have hxi:=h.lt hi
  refine W.sr<|L.k rfl<|L.k rfl<|L.v (R1.atU (j:=i) rfl rfl (by assumption) Q38 rfl (by omega)) rfl<|L.v (R1.ldU rfl (by assumption) tyP90 (by omega) rfl) rfl<|L.v (R1.convWL rfl tyI90 tyI87 (by omega)) rfl<|L.b rfl<|L.z<|W.ret ?_
  refine X.thenRet<|X.result1 rfl (.tmp rfl .nil) ?_
  exact ⟨by rw [getD_of_lt hi],C0⟩
 intro J8
 try simp only [bq,ne_eq] at J8
 have hi:xs.length≤i:=by omega
 refine W.skip<|X.seq<|W.sr<|L.b rfl<|L.z<|W.ret<|X.result1 rfl (.tmp rfl .nil) ?_
 exact ⟨by rw [getD_of_ge hi]; rfl,C0⟩
theorem c_r1_To1 {M : List Nat} {w : World} {v : Value} {xs : List Nat} (h : U32 M w v xs) (hbd : Bd M w) (hl : xs.length ≤ 4398046511104) (h2 : (toL (val xs)).length ≤ 2) :
    Ret Tryz.prog 117 #[v] w (fun r w'=>r=.tuple #[.int .u64 ((val xs:Nat):Int),.bool true]∧Mod [] w w'):=by
 refine Ret.of (vs:=[v]) (n:=28) Tryz.func117 rfl rfl rfl rfl ?_
 have C0:Mod [] w w:=Mod.refl _ _
 refine W.sr<|L.b rfl<|L.b rfl<|L.z<|W.sr<|L.k rfl<|L.c rfl (c_r1_Trim (by assumption) (by assumption) (by omega)) ?_
 rintro v8 w1 ⟨h8,C1⟩
 replace h:=h.gr C1;replace hbd:=hbd.gr C1;replace C0:=C0.trans C1;clear C1
 refine L.b rfl<|L.z<|W.seq<|W.sr<|L.k rfl<|L.lU rfl (by assumption) Q38<|L.v ((R1.gt rfl rfl).asB (c:=false) (by rw [decide_eq_false_iff_not]; omega)) rfl<|L.z ?_
 refine W.condF rfl<|W.skip<|X.seq<|W.sr<|L.b rfl<|L.z<|W.seq<|W.seq<|W.region ?_
 refine L.k rfl<|L.lU rfl (by assumption) Q38<|L.v ((R1.sub rfl rfl).as (wrap_i64 (by omega) (by omega))) rfl<|L.b rfl<|L.z<|W.block<|W.loop (ι:=Nat) (fun m=>[(4,v8),(5,.int .u64 ((val ((toL (val xs)).drop m):Nat):Int)),(6,.int .i64 ((m:Int) - 1))]) (fun m w_=>m≤(toL (val xs)).length∧U32 M w_ v8 (toL (val xs))∧Mod [] w w_) (fun m=>m) (toL (val xs)).length ?_ ?_ ?_
 · exact ⟨rfl,by rw [List.drop_length]; rfl,rfl,trivial⟩
 ·
  exact ⟨Nat.le_refl _,h8,C0⟩
 rintro m w2 ⟨hm,h8,C0⟩
 refine W.seq<|W.sr<|L.k rfl<|L.v (R1.ge rfl rfl) rfl<|L.z<|W.cond rfl ?_ ?_
 ·
  intro J16
  try simp only [bq,ne_eq] at J16
  have C1:0<m:=by omega
  have hds:=drop_small (m:=m) (toL_lt (val xs)) (by omega);have hxm:=h8.lt (show m - 1<(toL (val xs)).length by omega)
  refine W.skip<|X.seq<|W.seq<|W.block<|W.region<|L.k rfl<|L.v (R1.shl32 rfl rfl hds) rfl<|L.k rfl<|L.k rfl<|L.v (R1.atU (j:=(m - 1)) rfl rfl (by assumption) Q38 (by omega) (by omega)) rfl<|L.v (R1.ldU rfl (by assumption) tyP90 (by omega) rfl) rfl ?_
  refine L.v (R1.convWL rfl tyI90 tyI87 (by omega)) rfl<|L.v ((R1.orL rfl rfl (by omega) (by omega)).as (j:=((val ((toL (val xs)).drop m) * 4294967296 + (toL (val xs))[m - 1]:Nat):Int)) (congrArg (fun n:Nat=>(n:Int)) (or32 hxm))) rfl<|L.b rfl<|L.nil<|X.blockEnd<|X.seq<|W.region<|L.k rfl<|L.v ((R1.sub rfl rfl).as (j:=((m - 1:Nat):Int) - 1) (by rw [wrap_i64 (by omega) (by omega)]; omega)) rfl<|L.b rfl<|L.nil ?_
  refine X.next (m - 1) ?_ ?_ ?_
  · exact ⟨rfl,by rw [to_step C1 hm]; rfl,rfl,trivial⟩
  ·
   exact ⟨by omega,h8,C0⟩
  first | omega | (dsimp only; omega)
 intro J16
 try simp only [bq,ne_eq] at J16
 obtain rfl:m=0:=by omega
 refine W.brk<|W.sr<|L.k rfl<|L.b rfl<|L.b rfl<|L.nil ?_
 refine X.seq<|W.ret<|X.result2 rfl (.tmp rfl (.tmp rfl .nil)) ?_
 exact ⟨by rw [List.drop_zero,val_toL],C0⟩
theorem c_r1_To0 {M : List Nat} {w : World} {v : Value} {xs : List Nat} (h : U32 M w v xs) (hbd : Bd M w) (hl : xs.length ≤ 4398046511104) (h2 : 2 < (toL (val xs)).length) :
    Ret Tryz.prog 117 #[v] w (fun r w'=>r=.tuple #[.int .u64 0,.bool false]∧Mod [] w w'):=by
 refine Ret.of (vs:=[v]) (n:=28) Tryz.func117 rfl rfl rfl rfl ?_
 have C0:Mod [] w w:=Mod.refl _ _
 refine W.sr<|L.b rfl<|L.b rfl<|L.z<|W.sr<|L.k rfl<|L.c rfl (c_r1_Trim (by assumption) (by assumption) (by omega)) ?_
 rintro v8 w1 ⟨h8,C1⟩
 replace h:=h.gr C1;replace hbd:=hbd.gr C1;replace C0:=C0.trans C1;clear C1
 refine L.b rfl<|L.z<|W.seq<|W.sr<|L.k rfl<|L.lU rfl (by assumption) Q38<|L.v ((R1.gt rfl rfl).asB (c:=true) (by rw [decide_eq_true_eq]; omega)) rfl<|L.z ?_
 refine W.condT rfl<|W.sr<|L.b rfl<|L.b rfl<|L.z<|W.ret<|X.thenRet<|X.result2 rfl (.tmp rfl (.tmp rfl .nil)) ?_
 exact ⟨rfl,C0⟩
theorem c_r1_Cmp {M : List Nat} {w : World} {va vb : Value} {xs ys : List Nat} (h : U32 M w va xs) (k : U32 M w vb ys) (hbd : Bd M w) (hl1 : xs.length ≤ 4398046511104) (hl2 : ys.length ≤ 4398046511104) :
    Ret Tryz.prog 95 #[va,vb] w (fun r w'=>r=.int .i64 (cmpI (val xs) (val ys))∧Mod [] w w'):=by
 refine Ret.of (vs:=[va,vb]) (n:=47) Tryz.func95 rfl rfl rfl rfl ?_
 have C0:Mod [] w w:=Mod.refl _ _
 refine W.sr<|L.b rfl<|L.z<|W.sr<|L.k rfl<|L.c rfl (c_r1_Trim (by assumption) (by assumption) (by omega)) ?_
 rintro v9 w1 ⟨h9,C1⟩
 replace h:=h.gr C1;replace k:=k.gr C1;replace hbd:=hbd.gr C1;replace C0:=C0.trans C1;clear C1
 refine L.k rfl<|L.c rfl (c_r1_Trim (by assumption) (by assumption) (by omega)) ?_
 rintro v11 w2 ⟨h11,C2⟩
 replace h:=h.gr C2;replace k:=k.gr C2;replace hbd:=hbd.gr C2;replace C0:=C0.trans C2;replace h9:=h9.gr C2;clear C2
 refine L.b rfl<|L.b rfl<|L.z<|W.seq<|W.seq ?_
 have hma:=h9.1.max; unfold maxLen at hma;have hmb:=h11.1.max; unfold maxLen at hmb
 refine W.region<|L.k rfl<|L.lU rfl (by assumption) Q38<|L.k rfl<|L.lU rfl (by assumption) Q38<|L.v (R1.ne rfl rfl) rfl<|L.z<|W.cond rfl ?_ ?_
 ·
  intro J16
  try simp only [bq,ne_eq] at J16
  refine W.seq<|W.sr<|L.k rfl<|L.lU rfl (by assumption) Q38<|L.k rfl<|L.lU rfl (by assumption) Q38<|L.lt rfl rfl<|L.z<|W.cond rfl ?_ ?_
  ·
   intro J21
   try simp only [bq,ne_eq] at J21
   refine W.sr<|L.b rfl<|L.z<|W.ret<|X.thenRet<|X.thenRet<|X.result1 rfl (.tmp rfl .nil) ?_
   exact ⟨by rw [cmpI_lt (lt_of_toL_len (by omega))],C0⟩
  intro J21
  try simp only [bq,ne_eq] at J21
  refine W.skip<|X.seq<|W.sr<|L.b rfl<|L.z<|W.ret<|X.thenRet<|X.result1 rfl (.tmp rfl .nil) ?_
  exact ⟨by rw [cmpI_gt (lt_of_toL_len (by omega))],C0⟩
 intro J16
 try simp only [bq,ne_eq] at J16
 have hlen:(toL (val xs)).length=(toL (val ys)).length:=by omega
 refine W.skip<|X.seq<|W.seq<|W.sr<|L.k rfl<|L.lU rfl (by assumption) Q38<|L.v ((R1.sub rfl rfl).as (wrap_i64 (by omega) (by omega))) rfl<|L.b rfl<|L.z ?_
 refine W.block<|W.loop (ι:=Nat) (fun m=>[(5,v9),(6,v11),(7,.int .i64 ((m:Int) - 1))]) (fun m w_=>m≤(toL (val xs)).length∧(toL (val xs)).drop m=(toL (val ys)).drop m∧U32 M w_ v9 (toL (val xs))∧U32 M w_ v11 (toL (val ys))∧Mod [] w w_) (fun m=>m) (toL (val xs)).length ?_ ?_ ?_
 · exact ⟨rfl,rfl,rfl,trivial⟩
 ·
  exact ⟨Nat.le_refl _,by rw [List.drop_of_length_le (Nat.le_refl _),List.drop_of_length_le (by omega)],h9,h11,C0⟩
 rintro m w3 ⟨hm,hd,h9,h11,C0⟩
 refine W.seq<|W.sr<|L.k rfl<|L.v (R1.ge rfl rfl) rfl<|L.z<|W.cond rfl ?_ ?_
 ·
  intro J26
  try simp only [bq,ne_eq] at J26
  have C1:0<m:=by omega
  refine W.skip<|X.seq<|W.seq<|W.block<|W.seq<|W.seq<|W.drawW (T:=[]) rfl (by decide +kernel) (NoHang.then (NoHang.then (NoHang.block (NoHang.then (NoHang.next (NoHang.block (NoHang.then NoHang.post))))))) (fun w4 C4=>?_)
  replace h9:=h9.gr C4;replace h11:=h11.gr C4;replace C0:=C0.trans C4
  have G1:Mod [] w4 w4:=Mod.refl _ _
  clear C4
  refine D.z 0 rfl (by kernel_rfl) rfl G1<|D.z 1 rfl (by kernel_rfl) rfl G1<|D.t 2 rfl (by kernel_rfl) (fun _ hS=>R1.atU (j:=(m - 1)) rfl rfl (U32.gr (by assumption) hS) Q38 (by omega) (by omega)) G1<|D.t 3 rfl (by kernel_rfl) (fun _ hS=>R1.ldU rfl (U32.gr (by assumption) hS) tyP90 (by omega) rfl) G1<|D.z 4 rfl (by kernel_rfl) rfl G1<|D.z 5 rfl (by kernel_rfl) rfl G1<|D.t 6 rfl (by kernel_rfl) (fun _ hS=>R1.atU (j:=(m - 1)) rfl rfl (U32.gr (by assumption) hS) Q38 (by omega) (by omega)) G1<|D.t 7 rfl (by kernel_rfl) (fun _ hS=>R1.ldU rfl (U32.gr (by assumption) hS) tyP90 (by omega) rfl) G1<|D.t 8 rfl (by kernel_rfl) (fun _ hS=>R1.lt rfl rfl) G1<|D.done (by decide +kernel) ?_ _
  refine X.seq<|W.cond rfl ?_ ?_
  ·
   intro J37
   try simp only [bq,ne_eq] at J37
   refine W.sr<|L.b rfl<|L.z<|W.ret<|X.thenRet<|X.blockRet<|X.thenRet<|X.nextRet<|X.blockRet ?_
   refine X.thenRet<|X.result1 rfl (.tmp rfl .nil)<|⟨?_,C0⟩
   have hz:=val_lt_of_top (xs:=toL (val xs)) (ys:=toL (val ys)) (j:=m - 1) (toL_lt _) (by omega) (by omega) (by rw [Nat.sub_add_cancel C1]; exact hd) (by omega)
   rw [val_toL,val_toL] at hz
   rw [cmpI_lt hz]
  intro J37
  try simp only [bq,ne_eq] at J37
  refine W.skip<|X.seq<|W.seq<|W.drawW (T:=[]) rfl (by decide +kernel) (NoHang.then (NoHang.block (NoHang.then (NoHang.next (NoHang.block (NoHang.then NoHang.post)))))) (fun w5 C5=>?_)
  replace h9:=h9.gr C5;replace h11:=h11.gr C5;replace C0:=C0.trans C5
  have G2:Mod [] w5 w5:=Mod.refl _ _
  clear C5
  refine D.z 0 rfl (by kernel_rfl) rfl G2<|D.z 1 rfl (by kernel_rfl) rfl G2<|D.t 2 rfl (by kernel_rfl) (fun _ hS=>R1.atU (j:=(m - 1)) rfl rfl (U32.gr (by assumption) hS) Q38 (by omega) (by omega)) G2<|D.t 3 rfl (by kernel_rfl) (fun _ hS=>R1.ldU rfl (U32.gr (by assumption) hS) tyP90 (by omega) rfl) G2<|D.z 4 rfl (by kernel_rfl) rfl G2<|D.z 5 rfl (by kernel_rfl) rfl G2<|D.t 6 rfl (by kernel_rfl) (fun _ hS=>R1.atU (j:=(m - 1)) rfl rfl (U32.gr (by assumption) hS) Q38 (by omega) (by omega)) G2<|D.t 7 rfl (by kernel_rfl) (fun _ hS=>R1.ldU rfl (U32.gr (by assumption) hS) tyP90 (by omega) rfl) G2<|D.t 8 rfl (by kernel_rfl) (fun _ hS=>R1.gt rfl rfl) G2<|D.done (by decide +kernel) ?_ _
  refine X.seq<|W.cond rfl ?_ ?_
  ·
   intro J46
   try simp only [bq,ne_eq] at J46
   refine W.sr<|L.b rfl<|L.z<|W.ret<|X.blockRet<|X.thenRet<|X.nextRet<|X.blockRet<|X.thenRet ?_
   refine X.result1 rfl (.tmp rfl .nil)<|⟨?_,C0⟩
   have hz:=val_lt_of_top (xs:=toL (val ys)) (ys:=toL (val xs)) (j:=m - 1) (toL_lt _) (by omega) (by omega) (by rw [Nat.sub_add_cancel C1]; exact hd.symm) (by omega)
   rw [val_toL,val_toL] at hz
   rw [cmpI_gt hz]
  intro J46
  try simp only [bq,ne_eq] at J46
  refine W.skip<|X.blockEnd<|X.seq<|W.region<|L.k rfl<|L.v ((R1.sub rfl rfl).as (j:=((m - 1:Nat):Int) - 1) (by rw [wrap_i64 (by omega) (by omega)]; omega)) rfl<|L.b rfl<|L.nil<|X.next (m - 1) ?_ ?_ ?_
  · exact ⟨rfl,rfl,rfl,trivial⟩
  ·
   exact ⟨by omega,drop_step (by omega) (by omega) (by omega) hd (by omega),h9,h11,C0⟩
  first | omega | (dsimp only; omega)
 intro J26
 try simp only [bq,ne_eq] at J26
 refine W.brk<|W.sr<|L.b rfl<|L.z<|W.ret ?_
 refine X.result1 rfl (.tmp rfl .nil)<|⟨?_,C0⟩
 have h0:m=0:=by omega
 rw [h0,List.drop_zero,List.drop_zero] at hd
 rw [cmpI_eq (toL_inj hd)]
theorem c_r1_Add {M : List Nat} {w : World} {va vb : Value} {xs ys : List Nat} (h : U32 M w va xs) (k0 : U32 M w vb ys) (hbd : Bd M w) (hl1 : xs.length ≤ 2199023255560) (hl2 : ys.length ≤ 2199023255560) :
    Ret Tryz.prog 94 #[va,vb] w (fun r w'=>U32 M w' r (toL (val xs + val ys))∧Mod [] w w'):=by
 have hbd0:=hbd;have hx:=h.2;have hy:=k0.2
 refine Ret.of (vs:=[va,vb]) (n:=36) Tryz.func94 rfl rfl rfl rfl ?_
 have C0:Mod [] w w:=Mod.refl _ _
 refine W.sr<|L.b rfl<|L.z<|W.sr<|L.b rfl<|L.z<|W.seq ?_
 refine W.region<|L.b rfl<|L.z<|W.seq<|W.sr<|L.b rfl<|L.z<|W.block ?_
 refine W.loop (ι:=Nat × Nat × List Nat × Value) (fun (k,c,cs,u)=>[(0,va),(1,vb),(5,u),(6,.int .u64 (c:Int)),(7,.int .i64 (k:Int))]) (fun (k,c,cs,u) w_=>k≤(max xs.length ys.length) + 1∧c≤1∧cs.length=k∧(∀ x∈cs,x<4294967296)∧val cs + 4294967296 ^ k * c=val (xs.take k) + val (ys.take k)∧World.ownsRow w_ w.heap.size 90 1 u cs.length (cs.map fun (x:Nat)=>Value.int .u32 (x:Int))∧Mod [] w w_) (fun (k,c,cs,u)=>(max xs.length ys.length) + 1 - k) (0,0,[],.slice none 0 0) ?_ ?_ ?_
 · repeat' constructor
 ·
  exact ⟨Nat.zero_le _,by decide,rfl,by simp,by simp [val],own_nil _ _ _ _,C0⟩
 rintro ⟨k,c,cs,u⟩ w1 ⟨hk,hc,hcl,hcx,hv,ho,C0⟩
 have h1:=h.gr C0;have h2:=k0.gr C0;have hxk:=getD_lt hx k;have hyk:=getD_lt hy k
 refine W.seq<|W.sr<|L.k rfl<|L.k rfl<|L.lU rfl h1 Q38<|L.k rfl<|L.lU rfl h2 Q38<|L.v ((R1.maxI rfl rfl).as (j:=(((max xs.length ys.length):Nat):Int)) (by omega)) rfl<|L.inc rfl rfl (by omega)<|L.lt rfl rfl ?_
 refine L.z<|W.cond rfl ?_ ?_
 ·
  intro J15
  try simp only [bq,ne_eq] at J15
  have hk1:k<(max xs.length ys.length) + 1:=by omega
  refine W.skip<|X.seq<|W.seq<|W.block<|W.sr<|L.k rfl<|L.k rfl<|L.k rfl<|L.c rfl (c_r1_at (h.gr C0)) ?_
  rintro _ w2 ⟨rfl,C2⟩
  replace ho:=own_gs ho C2;replace C0:=C0.trans C2;clear C2
  refine L.v (R1.addL rfl rfl (by omega)) rfl<|L.k rfl<|L.k rfl<|L.c rfl (c_r1_at (k0.gr C0)) ?_
  rintro _ w3 ⟨rfl,C3⟩
  replace ho:=own_gs ho C3;replace C0:=C0.trans C3;clear C3
  refine L.v (R1.addL rfl rfl (by omega)) rfl<|L.b rfl<|L.z<|W.sr<|L.k rfl<|L.k rfl<|L.v (R1.convLW rfl tyI87 tyI90) rfl<|L.build1 rfl rfl Q38 tyZ90 rfl ?_
  intro g30 w4 D30
  replace ho:=own_gs ho D30.mod;replace C0:=C0.trans D30.mod
  have hrow:Sl [] w4 1 (.slice (some ⟨g30,0,none⟩) 1 1) 1 [.int .u32 (((c + xs.getD k 0 + ys.getD k 0) % 4294967296:Nat):Int)]:=Sl.row1 D30.blk (by simp)
  clear D30
  refine L.append rfl rfl ho hrow (by simp [Value.oneCell']) Q38 tyZ90 (by omega) (by unfold maxLen; omega) C0.size rfl ?_
  intro v31 w5 O31' X31
  replace C0:=C0.grew X31 (fun g hg=>(own_ge ho g hg).1);clear ho;have O31:=O31'; clear O31';obtain ⟨A31,c31,rfl⟩:=own_form O31
  refine L.b rfl<|L.z<|W.region<|L.k rfl<|L.v (R1.shr32 rfl rfl) rfl<|L.b rfl<|L.nil<|X.blockEnd<|X.seq<|W.region ?_
  refine L.k rfl<|L.inc rfl rfl (by omega)<|L.b rfl<|L.nil<|X.next (k + 1,(c + xs.getD k 0 + ys.getD k 0) / 4294967296,cs ++ [(c + xs.getD k 0 + ys.getD k 0) % 4294967296],.slice A31 (cs.length + 1) c31) ?_ ?_ ?_
  · repeat' constructor
  ·
   refine ⟨by omega,by omega,by simp; omega,snoc_lt hcx (Nat.mod_lt _ (by decide)),?_,by simpa using O31,C0⟩
   rw [val_snoc,hcl,val_take_succD xs,val_take_succD ys,pow_LB_succ]
   have hs:=add_step hv (rfl:(c + xs.getD k 0 + ys.getD k 0)=(c + xs.getD k 0 + ys.getD k 0))
   rw [Nat.mul_comm (4294967296 ^ k) 4294967296] at hs
   omega
  first | omega | (dsimp only; omega)
 intro J15
 try simp only [bq,ne_eq] at J15
 have hk1:k=(max xs.length ys.length) + 1:=by omega
 refine W.brk<|W.seq ?_
 have hU:U32 M w1 _ cs:=⟨Sl.of_own ho (fun g hg=>hbd0.not (own_ge ho g hg).1),hcx⟩
 have hbdw:=hbd0.gr C0
 refine W.region<|L.k rfl<|L.c rfl (c_r1_Trim hU hbdw (by omega)) ?_
 rintro v35 w6 ⟨h35,C6⟩
 replace C0:=C0.trans C6;clear C6
 refine L.b rfl<|L.z<|W.ret<|X.result1 rfl (.tmp rfl .nil)<|⟨?_,C0⟩
 rw [val_take_all (by omega),val_take_all (by omega)] at hv
 have J0:=carry0 hv (by
     have a1:=val_lt xs hx;have a2:=val_lt ys hy;have a3:=Nat.pow_le_pow_right (show 0<4294967296 by decide) (show xs.length≤(max xs.length ys.length) by omega);have a4:=Nat.pow_le_pow_right (show 0<4294967296 by decide) (show ys.length≤(max xs.length ys.length) by omega)
     rw [hk1,pow_LB_succ]; omega)
 rw [J0,Nat.mul_zero,Nat.add_zero] at hv
 rw [hv] at h35
 exact h35
theorem c_r1_Sub {M : List Nat} {w : World} {va vb : Value} {xs ys : List Nat} (h : U32 M w va xs) (k0 : U32 M w vb ys) (hbd : Bd M w) (hl1 : xs.length ≤ 2199023255560) (hl2 : ys.length ≤ 2199023255560) (hge : val ys ≤ val xs) :
    Ret Tryz.prog 96 #[va,vb] w (fun r w'=>∃ v,r=.tuple #[v,.bool true]∧U32 M w' v (toL (val xs - val ys))∧Mod [] w w'):=by
 have hbd0:=hbd;have hx:=h.2;have hy:=k0.2
 refine Ret.of (vs:=[va,vb]) (n:=43) Tryz.func96 rfl rfl rfl rfl ?_
 have C0:Mod [] w w:=Mod.refl _ _
 refine W.sr<|L.b rfl<|L.b rfl<|L.z<|W.seq<|W.sr<|L.k rfl<|L.k rfl ?_
 refine L.c rfl (c_r1_Cmp h k0 hbd (by omega) (by omega)) ?_
 rintro _ w1 ⟨rfl,C1⟩
 replace C0:=C0.trans C1;clear C1
 refine L.v ((R1.lt rfl rfl).asB (c:=false) (by rw [cmpI_lt0]; simp; omega)) rfl<|L.z<|W.condF rfl<|W.skip<|X.seq<|W.sr<|L.b rfl<|L.z ?_
 refine W.sr<|L.b rfl<|L.z<|W.seq<|W.sr<|L.b rfl<|L.z ?_
 refine W.block<|W.loop (ι:=Nat × Nat × List Nat × Value) (fun (k,c,cs,u)=>[(0,va),(1,vb),(6,u),(7,.int .u64 (c:Int)),(8,.int .i64 (k:Int))]) (fun (k,c,cs,u) w_=>k≤xs.length∧c≤1∧cs.length=k∧(∀ x∈cs,x<4294967296)∧val (xs.take k) + 4294967296 ^ k * c=val cs + val (ys.take k)∧World.ownsRow w_ w.heap.size 90 1 u cs.length (cs.map fun (x:Nat)=>Value.int .u32 (x:Int))∧Mod [] w w_) (fun (k,c,cs,u)=>xs.length - k) (0,0,[],.slice none 0 0) ?_ ?_ ?_
 · repeat' constructor
 ·
  exact ⟨Nat.zero_le _,by decide,rfl,by simp,by simp [val],own_nil _ _ _ _,C0⟩
 rintro ⟨k,c,cs,u⟩ w2 ⟨hk,hc,hcl,hcx,hv,ho,C0⟩
 have h1:=h.gr C0;have h2:=k0.gr C0
 refine W.seq<|W.sr<|L.k rfl<|L.k rfl<|L.lU rfl h1 Q38<|L.lt rfl rfl<|L.z<|W.cond rfl ?_ ?_
 ·
  intro J18
  try simp only [bq,ne_eq] at J18
  have hk1:k<xs.length:=by omega
  have hxk:=getD_lt hx k;have hyk:=getD_lt hy k
  refine W.skip<|X.seq<|W.seq<|W.block<|W.sr<|L.k rfl<|L.k rfl<|L.c rfl (c_r1_at (h.gr C0)) ?_
  rintro _ w3 ⟨rfl,C3⟩
  replace ho:=own_gs ho C3;replace C0:=C0.trans C3;clear C3
  refine L.k rfl<|L.k rfl<|L.c rfl (c_r1_at (k0.gr C0)) ?_
  rintro _ w4 ⟨rfl,C4⟩
  replace ho:=own_gs ho C4;replace C0:=C0.trans C4;clear C4
  refine L.k rfl<|L.v (R1.addL rfl rfl (by omega)) rfl<|L.b rfl<|L.b rfl<|L.z<|W.sr<|L.b rfl<|L.z ?_
  refine W.seq<|W.sr<|L.k rfl<|L.k rfl<|L.lt rfl rfl<|L.z<|W.cut (ι:=Nat × Nat) (fun (Z9,C)=>[(0,va),(1,vb),(6,u),(7,.int .u64 (C:Int)),(8,.int .i64 (k:Int)),(9,.int .u64 (Z9:Int)),(10,.int .u64 ((ys.getD k 0 + c:Nat):Int))]) (fun (Z9,C) w_=>Z9=xs.getD k 0 + 4294967296 * C∧C≤1∧ys.getD k 0 + c≤Z9∧Z9<ys.getD k 0 + c + 4294967296∧World.ownsRow w_ w.heap.size 90 1 u cs.length (cs.map fun (x:Nat)=>Value.int .u32 (x:Int))∧Mod [] w w_) ?_ ?_
  ·
   refine W.cond rfl ?_ ?_
   ·
    intro J31
    try simp only [bq,ne_eq] at J31
    refine W.sr<|L.k rfl<|L.v (R1.addL (b:=4294967296) rfl rfl (by omega)) rfl<|L.b rfl<|L.z<|W.region<|L.b rfl<|L.nil<|X.join (xs.getD k 0 + 4294967296,1) ?_ ?_
    · repeat' constructor
    exact ⟨by omega,by omega,by omega,by omega,ho,C0⟩
   intro J31
   try simp only [bq,ne_eq] at J31
   refine W.skip<|X.join (xs.getD k 0,0) ?_ ?_
   · repeat' constructor
   exact ⟨by omega,by omega,by omega,by omega,ho,C0⟩
  rintro ⟨Z9,C⟩ wk ⟨hX,hC,hX1,hX2,ho,C0⟩
  refine X.seq<|W.region<|L.k rfl<|L.k rfl<|L.k rfl<|L.v (R1.subL rfl rfl (by omega) (by omega)) rfl<|L.v ((R1.convLW rfl tyI87 tyI90).as (j:=((Z9 - (ys.getD k 0 + c):Nat):Int)) (by omega)) rfl<|L.build1 rfl rfl Q38 tyZ90 rfl ?_
  intro g39 w5 D39
  replace ho:=own_gs ho D39.mod;replace C0:=C0.trans D39.mod
  have hrow:Sl [] w5 1 (.slice (some ⟨g39,0,none⟩) 1 1) 1 [.int .u32 ((Z9 - (ys.getD k 0 + c):Nat):Int)]:=Sl.row1 D39.blk (by simp)
  clear D39
  refine L.append rfl rfl ho hrow (by simp [Value.oneCell']) Q38 tyZ90 (by omega) (by unfold maxLen; omega) C0.size rfl ?_
  intro v40 w6 O40' X40
  replace C0:=C0.grew X40 (fun g hg=>(own_ge ho g hg).1);clear ho;have O40:=O40'; clear O40';obtain ⟨A40,c40,rfl⟩:=own_form O40
  refine L.b rfl<|L.nil<|X.blockEnd<|X.seq<|W.region<|L.k rfl<|L.inc rfl rfl (by omega)<|L.b rfl<|L.nil<|X.next (k + 1,C,cs ++ [Z9 - (ys.getD k 0 + c)],.slice A40 (cs.length + 1) c40) ?_ ?_ ?_
  · repeat' constructor
  ·
   refine ⟨by omega,hC,by simp; omega,snoc_lt hcx (by omega),?_,by simpa using O40,C0⟩
   rw [val_snoc,hcl,val_take_succD xs,val_take_succD ys,pow_LB_succ]
   exact sub_step hv (show (Z9 - (ys.getD k 0 + c)) + ys.getD k 0 + c=xs.getD k 0 + 4294967296 * C by omega)
  first | omega | (dsimp only; omega)
 intro J18
 try simp only [bq,ne_eq] at J18
 obtain rfl:k=xs.length:=by omega
 refine W.brk<|W.seq ?_
 have hU:U32 M w2 _ cs:=⟨Sl.of_own ho (fun g hg=>hbd0.not (own_ge ho g hg).1),hcx⟩
 have hbdw:=hbd0.gr C0
 refine W.region<|L.k rfl<|L.c rfl (c_r1_Trim hU hbdw (by omega)) ?_
 rintro v42 w7 ⟨h42,C7⟩
 replace C0:=C0.trans C7;clear C7
 refine L.b rfl<|L.b rfl<|L.z<|W.ret<|X.result2 rfl (.tmp rfl (.tmp rfl .nil))<|⟨_,rfl,?_,C0⟩
 rw [List.take_length,val_take_eq (Nat.lt_of_le_of_lt hge (val_lt xs hx))] at hv
 have hz:=sub_end hv hc (val_lt_len hcx hcl) hge
 rw [hz] at h42
 exact h42
end Go.Proofs.YthoooolflmbmbaaGreat
end
section
namespace Go.Proofs.YthoooolflmbmbaaGreat
open Go.RowKit
set_option linter.unusedVariables false
set_option linter.unusedSimpArgs false
set_option maxRecDepth 10000
theorem c_r1_Mul {M : List Nat} {w : World} {va vb : Value} {xs ys : List Nat} (h : U32 M w va xs) (k0 : U32 M w vb ys) (hbd : Bd M w) (hl1 : xs.length ≤ 1099511627776) (hl2 : ys.length ≤ 1099511627776) :
    Ret Tryz.prog 93 #[va,vb] w (fun r w'=>U32 M w' r (toL (val xs * val ys))∧Mod [] w w'):=by
 have hbd0:=hbd;have hx:=h.2;have hy:=k0.2
 refine Ret.of (vs:=[va,vb]) (n:=67) Tryz.func93 rfl rfl rfl rfl ?_
 have C0:Mod [] w w:=Mod.refl _ _
 refine W.sr<|L.b rfl<|L.z<|W.sr<|L.k rfl<|L.lU rfl h Q38<|L.k rfl<|L.lU rfl k0 Q38 ?_
 refine L.v (R1.addI rfl rfl (by omega)) rfl<|L.makeSlice (m:=(xs.length + ys.length)) rfl rfl rfl rfl Q38 tyZ90 (by omega) (by unfold maxLen; omega) rfl ?_
 intro g14 w1 D14
 replace h:=h.new D14;replace k0:=k0.new D14;have K14:=New.ge D14 C0.size;replace C0:=C0.tn D14;have E14:=D14.blk;clear D14
 rw [uarr_made] at E14
 refine L.b rfl<|L.z<|W.seq<|W.sr<|L.b rfl<|L.z<|W.block<|W.loop (ι:=Nat × List Nat) (fun (i,cs)=>[(0,va),(1,vb),(5,.slice (some ⟨g14,0,none⟩) (xs.length + ys.length) (xs.length + ys.length)),(6,.int .i64 (i:Int))]) (fun (i,cs) w_=>i≤xs.length∧cs.length=xs.length + ys.length∧(∀ x∈cs,x<4294967296)∧val cs=val (xs.take i) * val ys∧Blk w_ g14 90 (uarr cs)∧U32 (g14 :: M) w_ va xs∧U32 (g14 :: M) w_ vb ys∧Mod [] w w_) (fun (i,cs)=>xs.length - i) (0,List.replicate (xs.length + ys.length) 0) ?_ ?_ ?_
 · repeat' constructor
 ·
  exact ⟨Nat.zero_le _,by simp,rep_lt _,by simp [val,val_replicate],E14,h,k0,C0⟩
 rintro ⟨i,cs0⟩ w2 ⟨hi,hcl,hcx,hv,E14,h,k0,C0⟩
 refine W.seq<|W.sr<|L.k rfl<|L.k rfl<|L.lU rfl h Q38<|L.lt rfl rfl<|L.z<|W.cond rfl ?_ ?_
 ·
  intro J18
  try simp only [bq,ne_eq] at J18
  have hi1:i<xs.length:=by omega
  have hai:=h.lt hi1
  refine W.skip<|X.seq<|W.seq<|W.block<|W.sr<|L.b rfl<|L.z<|W.seq<|W.region ?_
  refine L.b rfl<|L.z<|W.block<|W.loop (ι:=Nat × Nat × List Nat) (fun (k,cy,cs)=>[(0,va),(1,vb),(5,.slice (some ⟨g14,0,none⟩) (xs.length + ys.length) (xs.length + ys.length)),(6,.int .i64 (i:Int)),(7,.int .u64 (cy:Int)),(8,.int .i64 (k:Int))]) (fun (k,cy,cs) w_=>k≤xs.length + ys.length∧cs.length=xs.length + ys.length∧(∀ x∈cs,x<4294967296)∧cy<4294967296∧val cs + 4294967296 ^ i * 4294967296 ^ k * cy=val cs0 + 4294967296 ^ i * (xs[i] * val (ys.take k))∧Blk w_ g14 90 (uarr cs)∧U32 (g14 :: M) w_ va xs∧U32 (g14 :: M) w_ vb ys∧Mod [] w w_) (fun (k,cy,cs)=>xs.length + ys.length + 1 - k) (0,0,cs0) ?_ ?_ ?_
  · repeat' constructor
  ·
   exact ⟨Nat.zero_le _,hcl,hcx,by decide,by simp [val],E14,h,k0,C0⟩
  rintro ⟨k,cy,cs⟩ w3 ⟨hk,hcl2,hcx2,hcy,hv2,E14,h,k0,C0⟩
  refine W.seq<|W.sr<|L.k rfl<|L.k rfl<|L.lU rfl k0 Q38<|L.v ((R1.lt rfl rfl).asB (c:=decide (k<ys.length)) (by congr 1; apply propext; omega)) rfl<|L.k rfl ?_
  cases W25:decide (k<ys.length)
  ·
   try simp only [bq,ne_eq] at W25
   refine L.p rfl (R1.move rfl)<|L.p rfl (R1.gt rfl rfl)<|L.pF rfl rfl<|L.z<|W.cond rfl ?_ ?_
   ·
    intro J28
    try simp only [bq,ne_eq] at J28
    refine W.skip<|X.seq<|W.seq<|W.block<|W.seq<|W.sr<|L.k rfl<|L.k rfl<|L.v (R1.addI rfl rfl (by omega)) rfl<|L.k rfl ?_
    refine L.v (R1.len rfl Q38) rfl<|L.v (R1.ge rfl rfl) rfl<|L.z<|W.cond rfl ?_ ?_
    ·
     intro J36
     try simp only [bq,ne_eq] at J36
     rw [val_take_all (by omega)] at hv2
     have hcy0:=r1mul_brk hx hy hi1 (by omega) hv2 hv
     refine W.exit<|X.thenExit<|X.past rfl<|X.thenExit<|X.nextExit<|X.here<|X.blockEnd<|X.seq<|W.region<|L.k rfl<|L.inc rfl rfl (by omega) ?_
     refine L.b rfl<|L.nil<|X.next (i + 1,cs) ?_ ?_ ?_
     · repeat' constructor
     ·
      refine ⟨by omega,hcl2,hcx2,?_,E14,h,k0,C0⟩
      rw [val_take_succ hi1]
      exact r1mul_end hv2 hv hcy0
     first | omega | (dsimp only; omega)
    intro J36
    try simp only [bq,ne_eq] at J36
    have hik:i + k<cs.length:=by omega
    have hbk:=getD_lt hy k;have hab:=limb_mul hai hbk;have hck:=hcx2 _ (List.getElem_mem hik)
    refine W.skip<|X.seq<|W.seq<|W.drawW (T:=[]) rfl (by decide +kernel) (NoHang.then (NoHang.block (NoHang.then (NoHang.next (NoHang.block (NoHang.block (NoHang.then (NoHang.next (NoHang.block (NoHang.then NoHang.post)))))))))) (fun w4 C4=>?_)
    replace E14:=E14.gr C4;replace h:=h.gr C4;replace k0:=k0.gr C4;replace C0:=C0.trans C4
    have G1:Mod [] w4 w4:=Mod.refl _ _
    clear C4;have hb14_s:=E14
    refine D.z 0 rfl (by kernel_rfl) rfl G1<|D.z 1 rfl (by kernel_rfl) rfl G1<|D.z 2 rfl (by kernel_rfl) rfl G1<|D.t 3 rfl (by kernel_rfl) (fun _ hS=>R1.atU (j:=i) rfl rfl (U32.gr (by assumption) hS) Q38 rfl (by omega)) G1<|D.t 4 rfl (by kernel_rfl) (fun _ hS=>R1.ldU rfl (U32.gr h hS) tyP90 hi1 rfl) G1<|D.t 5 rfl (by kernel_rfl) (fun _ hS=>R1.convWL rfl tyI90 tyI87 (by omega)) G1<|D.z 6 rfl (by kernel_rfl) rfl G1<|D.z 7 rfl (by kernel_rfl) rfl G1<|D.z 11 rfl (by kernel_rfl) rfl G1<|D.z 12 rfl (by kernel_rfl) rfl G1<|D.z 13 rfl (by kernel_rfl) rfl G1 ?_
    refine D.t 14 rfl (by kernel_rfl) (fun _ hS=>R1.addI rfl rfl (by omega)) G1<|D.t 15 rfl (by kernel_rfl) (fun _ hS=>R1.atO (j:=(i + k)) rfl rfl Q38 rfl (by omega)) G1<|D.t 16 rfl (by kernel_rfl) (fun _ hS=>R1.ldO rfl (Blk.gr (by assumption) hS) (by omega) tyP90 rfl) G1<|D.t 17 rfl (by kernel_rfl) (fun _ hS=>R1.convWL rfl tyI90 tyI87 (by omega)) G1<|D.one 8 rfl (by kernel_rfl) (fun hX=>?_)
    refine L.c rfl (c_r1_at k0) ?_
    rintro _ w5 ⟨rfl,C5⟩
    replace E14:=E14.gr C5;replace h:=h.gr C5;replace k0:=k0.gr C5;replace C0:=C0.trans C5;replace G1:=G1.trans C5;clear C5
    refine L.nil (hX _ _ ⟨.inr G1,?_⟩)
    refine D.t 9 rfl (by kernel_rfl) (fun _ hS=>R1.mulL rfl rfl (by omega)) G1<|D.t 10 rfl (by kernel_rfl) (fun _ hS=>R1.addL rfl rfl (by omega)) G1<|D.t 18 rfl (by kernel_rfl) (fun _ hS=>R1.addL rfl rfl (by omega)) G1<|D.t 19 rfl (by kernel_rfl) (fun _ hS=>R1.assign rfl) G1<|D.done (by decide +kernel) ?_ _
    refine X.seq<|W.sr<|L.k rfl<|L.k rfl<|L.k rfl<|L.v (R1.addI rfl rfl (by omega)) rfl<|L.k rfl<|L.v (R1.convLW rfl tyI87 tyI90) rfl<|L.v (R1.atO (j:=(i + k)) rfl rfl Q38 rfl (by omega)) rfl<|L.storeU rfl rfl E14 (by omega) tyP90 ?_
    intro w6 E14' C6
    replace h:=h.ms C6;replace k0:=k0.ms C6;replace C0:=C0.old1 C6 K14;clear C6;replace E14:=E14'; clear E14'
    refine L.z<|W.region<|L.k rfl<|L.v (R1.shr32 rfl rfl) rfl<|L.b rfl<|L.nil<|X.blockEnd<|X.seq<|W.region<|L.k rfl ?_
    refine L.inc rfl rfl (by omega)<|L.b rfl<|L.nil<|X.next (k + 1,(cy + xs[i] * ys.getD k 0 + cs[i + k]) / 4294967296,cs.set (i + k) ((cy + xs[i] * ys.getD k 0 + cs[i + k]) % 4294967296)) ?_ ?_ ?_
    · repeat' constructor
    ·
     refine ⟨by omega,by simpa using hcl2,set_lt hcx2 (Nat.mod_lt _ (by decide)),by omega,?_,E14,h,k0,C0⟩
     have e1:=val_set (xs:=cs) (j:=i + k) hik ((cy + xs[i] * ys.getD k 0 + cs[i + k]) % 4294967296)
     rw [Nat.pow_add] at e1
     rw [val_take_succD,pow_LB_succ,show 4294967296 ^ i * (4294967296 * 4294967296 ^ k)=4294967296 * (4294967296 ^ i * 4294967296 ^ k) by rw [Nat.mul_left_comm]]
     exact mul_step e1 hv2 (Nat.add_assoc _ _ _)
    first | omega | (dsimp only; omega)
   intro J28
   try simp only [bq,ne_eq] at J28
   have hcy0:cy=0:=by omega
   rw [val_take_all (by omega)] at hv2
   refine W.exit<|X.thenExit<|X.nextExit<|X.here<|X.blockEnd<|X.seq<|W.region<|L.k rfl<|L.inc rfl rfl (by omega)<|L.b rfl<|L.nil ?_
   refine X.next (i + 1,cs) ?_ ?_ ?_
   · repeat' constructor
   ·
    refine ⟨by omega,hcl2,hcx2,?_,E14,h,k0,C0⟩
    rw [val_take_succ hi1]
    exact r1mul_end hv2 hv hcy0
   first | omega | (dsimp only; omega)
  try simp only [bq,ne_eq] at W25
  refine L.o rfl<|L.o rfl<|L.pT rfl rfl<|L.z<|W.condT rfl<|W.skip<|X.seq<|W.seq<|W.block<|W.seq ?_
  refine W.sr<|L.k rfl<|L.k rfl<|L.v (R1.addI rfl rfl (by omega)) rfl<|L.k rfl<|L.v (R1.len rfl Q38) rfl<|L.v (R1.ge rfl rfl) rfl<|L.z<|W.cond rfl ?_ ?_
  ·
   intro J36
   try simp only [bq,ne_eq] at J36
   rw [val_take_all (by omega)] at hv2
   have hcy0:=r1mul_brk hx hy hi1 (by omega) hv2 hv
   refine W.exit<|X.thenExit<|X.past rfl<|X.thenExit<|X.nextExit<|X.here<|X.blockEnd<|X.seq<|W.region<|L.k rfl<|L.inc rfl rfl (by omega) ?_
   refine L.b rfl<|L.nil<|X.next (i + 1,cs) ?_ ?_ ?_
   · repeat' constructor
   ·
    refine ⟨by omega,hcl2,hcx2,?_,E14,h,k0,C0⟩
    rw [val_take_succ hi1]
    exact r1mul_end hv2 hv hcy0
   first | omega | (dsimp only; omega)
  intro J36
  try simp only [bq,ne_eq] at J36
  have hik:i + k<cs.length:=by omega
  have hbk:=getD_lt hy k;have hab:=limb_mul hai hbk;have hck:=hcx2 _ (List.getElem_mem hik)
  refine W.skip<|X.seq<|W.seq<|W.drawW (T:=[]) rfl (by decide +kernel) (NoHang.then (NoHang.block (NoHang.then (NoHang.next (NoHang.block (NoHang.block (NoHang.then (NoHang.next (NoHang.block (NoHang.then NoHang.post)))))))))) (fun w7 C7=>?_)
  replace E14:=E14.gr C7;replace h:=h.gr C7;replace k0:=k0.gr C7;replace C0:=C0.trans C7
  have G2:Mod [] w7 w7:=Mod.refl _ _
  clear C7;have hb14_s:=E14
  refine D.z 0 rfl (by kernel_rfl) rfl G2<|D.z 1 rfl (by kernel_rfl) rfl G2<|D.z 2 rfl (by kernel_rfl) rfl G2<|D.t 3 rfl (by kernel_rfl) (fun _ hS=>R1.atU (j:=i) rfl rfl (U32.gr (by assumption) hS) Q38 rfl (by omega)) G2<|D.t 4 rfl (by kernel_rfl) (fun _ hS=>R1.ldU rfl (U32.gr h hS) tyP90 hi1 rfl) G2<|D.t 5 rfl (by kernel_rfl) (fun _ hS=>R1.convWL rfl tyI90 tyI87 (by omega)) G2<|D.z 6 rfl (by kernel_rfl) rfl G2<|D.z 7 rfl (by kernel_rfl) rfl G2<|D.z 11 rfl (by kernel_rfl) rfl G2<|D.z 12 rfl (by kernel_rfl) rfl G2<|D.z 13 rfl (by kernel_rfl) rfl G2 ?_
  refine D.t 14 rfl (by kernel_rfl) (fun _ hS=>R1.addI rfl rfl (by omega)) G2<|D.t 15 rfl (by kernel_rfl) (fun _ hS=>R1.atO (j:=(i + k)) rfl rfl Q38 rfl (by omega)) G2<|D.t 16 rfl (by kernel_rfl) (fun _ hS=>R1.ldO rfl (Blk.gr (by assumption) hS) (by omega) tyP90 rfl) G2<|D.t 17 rfl (by kernel_rfl) (fun _ hS=>R1.convWL rfl tyI90 tyI87 (by omega)) G2<|D.one 8 rfl (by kernel_rfl) (fun hX=>?_)
  refine L.c rfl (c_r1_at k0) ?_
  rintro _ w8 ⟨rfl,C8⟩
  replace E14:=E14.gr C8;replace h:=h.gr C8;replace k0:=k0.gr C8;replace C0:=C0.trans C8;replace G2:=G2.trans C8;clear C8
  refine L.nil (hX _ _ ⟨.inr G2,?_⟩)
  refine D.t 9 rfl (by kernel_rfl) (fun _ hS=>R1.mulL rfl rfl (by omega)) G2<|D.t 10 rfl (by kernel_rfl) (fun _ hS=>R1.addL rfl rfl (by omega)) G2<|D.t 18 rfl (by kernel_rfl) (fun _ hS=>R1.addL rfl rfl (by omega)) G2<|D.t 19 rfl (by kernel_rfl) (fun _ hS=>R1.assign rfl) G2<|D.done (by decide +kernel) ?_ _
  refine X.seq<|W.sr<|L.k rfl<|L.k rfl<|L.k rfl<|L.v (R1.addI rfl rfl (by omega)) rfl<|L.k rfl<|L.v (R1.convLW rfl tyI87 tyI90) rfl<|L.v (R1.atO (j:=(i + k)) rfl rfl Q38 rfl (by omega)) rfl<|L.storeU rfl rfl E14 (by omega) tyP90 ?_
  intro w9 E14' C9
  replace h:=h.ms C9;replace k0:=k0.ms C9;replace C0:=C0.old1 C9 K14;clear C9;replace E14:=E14'; clear E14'
  refine L.z<|W.region<|L.k rfl<|L.v (R1.shr32 rfl rfl) rfl<|L.b rfl<|L.nil<|X.blockEnd<|X.seq<|W.region<|L.k rfl ?_
  refine L.inc rfl rfl (by omega)<|L.b rfl<|L.nil<|X.next (k + 1,(cy + xs[i] * ys.getD k 0 + cs[i + k]) / 4294967296,cs.set (i + k) ((cy + xs[i] * ys.getD k 0 + cs[i + k]) % 4294967296)) ?_ ?_ ?_
  · repeat' constructor
  ·
   refine ⟨by omega,by simpa using hcl2,set_lt hcx2 (Nat.mod_lt _ (by decide)),by omega,?_,E14,h,k0,C0⟩
   have e1:=val_set (xs:=cs) (j:=i + k) hik ((cy + xs[i] * ys.getD k 0 + cs[i + k]) % 4294967296)
   rw [Nat.pow_add] at e1
   rw [val_take_succD,pow_LB_succ,show 4294967296 ^ i * (4294967296 * 4294967296 ^ k)=4294967296 * (4294967296 ^ i * 4294967296 ^ k) by rw [Nat.mul_left_comm]]
   exact mul_step e1 hv2 (Nat.add_assoc _ _ _)
  first | omega | (dsimp only; omega)
 intro J18
 try simp only [bq,ne_eq] at J18
 obtain rfl:i=xs.length:=by omega
 rw [List.take_length] at hv
 refine W.brk<|W.seq ?_
 have hU:U32 M w2 (.slice (some ⟨g14,0,none⟩) (xs.length + ys.length) (xs.length + ys.length)) cs0:=by
     have hU:=U32.of_blk (M:=M) E14 (hbd0.not K14) (by unfold maxLen; omega) hcx
     rw [hcl] at hU; exact hU
 have hbdw:=hbd0.gr C0
 refine W.region<|L.k rfl<|L.c rfl (c_r1_Trim hU hbdw (by omega)) ?_
 rintro v66 w10 ⟨h66,C10⟩
 replace C0:=C0.trans C10;clear C10
 refine L.b rfl<|L.z<|W.ret<|X.result1 rfl (.tmp rfl .nil) ?_
 exact ⟨by rw [hv] at h66; exact h66,C0⟩
theorem c_r1_Shift1 {M : List Nat} {w : World} {v : Value} {xs : List Nat} (h : U32 M w v xs) (hbd : Bd M w) (hl : xs.length ≤ 2199023255560) :
    Ret Tryz.prog 119 #[v,.int .i64 1] w (fun r w'=>U32 M w' r (toL (2 * val xs))∧Mod [] w w'):=by
 have hbd0:=hbd;have hlt:=toL_length_val xs h.2
 refine Ret.of (vs:=[v,.int .i64 1]) (n:=88) Tryz.func119 rfl rfl rfl rfl ?_
 have C0:Mod [] w w:=Mod.refl _ _
 refine W.sr<|L.b rfl<|L.z<|W.sr<|L.k rfl<|L.v ((R1.maxI rfl rfl).as (j:=((1:Nat):Int)) (by decide)) rfl<|L.v ((R1.minI rfl rfl).as (j:=((1:Nat):Int)) (by decide)) rfl<|L.b rfl ?_
 refine L.z<|W.sr<|L.k rfl<|L.c rfl (c_r1_Trim (by assumption) (by assumption) (by omega)) ?_
 rintro v19 w1 ⟨h19,C1⟩
 replace h:=h.gr C1;replace hbd:=hbd.gr C1;replace C0:=C0.trans C1;clear C1
 refine L.b rfl<|L.z<|W.seq<|W.sr<|L.k rfl<|L.v ((R1.lt rfl rfl).asB (c:=false) (by simp)) rfl<|L.z<|W.condF rfl ?_
 refine W.skip<|X.seq<|W.sr<|L.k rfl<|L.v ((R1.quoI (b:=32) rfl rfl (by omega) (by omega)).as (j:=((0:Nat):Int)) (by decide)) rfl<|L.makeSlice (m:=0) rfl rfl rfl rfl Q38 tyZ90 (by omega) (by unfold maxLen; omega) rfl ?_
 intro g61 w2 D61
 replace h:=h.new D61;replace hbd:=hbd.new D61;have K61:=New.ge D61 C0.size;replace C0:=C0.tn D61;replace h19:=h19.new D61;have E61:=D61.blk;clear D61
 rw [uarr_made] at E61
 have ho:World.ownsRow w2 w.heap.size 90 1 (.slice (some ⟨g61,0,none⟩) 0 0) 0 []:=⟨rfl,.inr ⟨g61,0,#[],rfl,K61,E61,Nat.le_refl _,by decide,rfl,rfl⟩⟩
 clear E61
 refine L.b rfl<|L.z<|W.sr<|L.k rfl<|L.v ((R1.remI (b:=32) rfl rfl (by omega)).as (j:=((1:Nat):Int)) (by decide)) rfl<|L.v (R1.convIL rfl tyI3 tyI117 (by omega)) rfl<|L.b rfl<|L.z ?_
 refine W.sr<|L.b rfl<|L.z<|W.seq<|W.sr<|L.b rfl<|L.z ?_
 refine W.block<|W.loop (ι:=Nat × Nat × List Nat × Value) (fun (k,lo,cs,u)=>[(5,v19),(10,u),(11,.int .u64 1),(12,.int .u64 (lo:Int)),(13,.int .i64 (k:Int))]) (fun (k,lo,cs,u) w_=>k≤(toL (val xs)).length + 1∧lo≤1∧cs.length=k∧(∀ x∈cs,x<4294967296)∧val cs + 4294967296 ^ k * lo=2 * val ((toL (val xs)).take k)∧World.ownsRow w_ w.heap.size 90 1 u cs.length (cs.map fun (x:Nat)=>Value.int .u32 (x:Int))∧U32 (ownL u ++ M) w_ v19 (toL (val xs))∧Mod [] w w_) (fun (k,lo,cs,u)=>(toL (val xs)).length + 1 - k) (0,0,[],.slice (some ⟨g61,0,none⟩) 0 0) ?_ ?_ ?_
 · repeat' constructor
 ·
  exact ⟨Nat.zero_le _,by decide,rfl,by simp,by simp [val],ho,h19,C0⟩
 rintro ⟨k,lo,cs,u⟩ w3 ⟨hk,hlo,hcl,hcx,hv,ho,h19,C0⟩
 refine W.seq<|W.sr<|L.k rfl<|L.k rfl<|L.lU rfl (by assumption) Q38<|L.inc rfl rfl (by omega)<|L.lt rfl rfl<|L.z<|W.cond rfl ?_ ?_
 ·
  intro J69
  try simp only [bq,ne_eq] at J69
  have hk1:k<(toL (val xs)).length + 1:=by omega
  have hxk:=getD_lt (toL_lt (val xs)) k
  refine W.skip<|X.seq<|W.seq<|W.block<|W.sr<|L.k rfl<|L.k rfl<|L.c rfl (c_r1_at h19) ?_
  rintro _ w4 ⟨rfl,C4⟩
  replace ho:=own_gs ho C4;replace h19:=h19.gr C4;replace C0:=C0.trans C4;clear C4
  refine L.k rfl<|L.v ((R1.shlL (b:=1) rfl rfl (by decide)).as (j:=((2 * (toL (val xs)).getD k 0:Nat):Int)) (by rw [Nat.pow_one,Nat.mod_eq_of_lt (by omega),Nat.mul_comm])) rfl<|L.b rfl<|L.z<|W.sr<|L.k rfl<|L.k rfl<|L.k rfl<|L.v ((R1.orL rfl rfl (by omega) (by omega)).as (j:=(((2 * (toL (val xs)).getD k 0 + lo):Nat):Int)) (congrArg (fun n:Nat=>(n:Int)) (by have:=or_add (k:=1) (a:=(toL (val xs)).getD k 0) (b:=lo) (by omega); rw [Nat.pow_one,Nat.mul_comm] at this; exact this))) rfl ?_
  refine L.v (R1.convLW rfl tyI87 tyI90) rfl<|L.build1 rfl rfl Q38 tyZ90 rfl ?_
  intro g82 w5 D82
  replace ho:=own_gs ho D82.mod;replace h19:=h19.gr D82.mod;replace C0:=C0.trans D82.mod
  have hrow:Sl [] w5 1 (.slice (some ⟨g82,0,none⟩) 1 1) 1 [.int .u32 (((2 * (toL (val xs)).getD k 0 + lo) % 4294967296:Nat):Int)]:=Sl.row1 D82.blk (by simp)
  clear D82
  refine L.append rfl rfl ho hrow (by simp [Value.oneCell']) Q38 tyZ90 (by omega) (by unfold maxLen; omega) C0.size rfl ?_
  intro v83 w6 O83' X83
  replace h19:=h19.grew X83;replace C0:=C0.grew X83 (fun g hg=>(own_ge ho g hg).1);clear ho;have O83:=O83'; clear O83';obtain ⟨A83,c83,rfl⟩:=own_form O83
  refine L.b rfl<|L.z<|W.region<|L.k rfl<|L.v (R1.shr32 rfl rfl) rfl<|L.b rfl<|L.nil<|X.blockEnd<|X.seq<|W.region ?_
  refine L.k rfl<|L.inc rfl rfl (by omega)<|L.b rfl<|L.nil<|X.next (k + 1,2 * (toL (val xs)).getD k 0 / 4294967296,cs ++ [(2 * (toL (val xs)).getD k 0 + lo) % 4294967296],.slice A83 (cs.length + 1) c83) ?_ ?_ ?_
  · repeat' constructor
  ·
   refine ⟨by omega,by omega,by simp; omega,snoc_lt hcx (Nat.mod_lt _ (by decide)),?_,by simpa using O83,h19,C0⟩
   rw [val_snoc,hcl,val_take_succD,pow_LB_succ]
   exact shl1_step hv (by omega)
  first | omega | (dsimp only; omega)
 intro J69
 try simp only [bq,ne_eq] at J69
 have hk1:k=(toL (val xs)).length + 1:=by omega
 refine W.brk<|W.seq ?_
 have hU:U32 M w3 _ cs:=⟨Sl.of_own ho (fun g hg=>hbd0.not (own_ge ho g hg).1),hcx⟩
 have hbdw:=hbd0.gr C0
 refine W.region<|L.k rfl<|L.c rfl (c_r1_Trim hU hbdw (by omega)) ?_
 rintro v87 w7 ⟨h87,C7⟩
 replace C0:=C0.trans C7;clear C7
 refine L.b rfl<|L.z<|W.ret<|X.result1 rfl (.tmp rfl .nil)<|⟨?_,C0⟩
 rw [val_take_all (by omega)] at hv
 have J0:=carry0 hv (by rw [hk1]; exact two_val (toL_lt _))
 rw [J0,Nat.mul_zero,Nat.add_zero,val_toL] at hv
 rw [hv] at h87
 exact h87
theorem c_r1_small {M : List Nat} {w : World} {va : Value} {xs : List Nat} {b : Nat} (h : U32 M w va xs) (E0 : 0 < b) (hb : b < 4294967296) (hbd : Bd M w) (hl : xs.length ≤ 2199023255560) :
    Ret Tryz.prog 118 #[va,.int .u64 (b:Int)] w (fun r w'=>∃ v,r=.tuple #[v,.int .u64 ((val xs % b:Nat):Int)]∧U32 M w' v (toL (val xs / b))∧Mod [] w w'):=by
 have hbd0:=hbd
 refine Ret.of (vs:=[va,.int .u64 (b:Int)]) (n:=40) Tryz.func118 rfl rfl rfl rfl ?_
 have C0:Mod [] w w:=Mod.refl _ _
 refine W.sr<|L.b rfl<|L.b rfl<|L.z<|W.sr<|L.k rfl<|L.lU rfl (by assumption) Q38<|L.makeSlice (m:=xs.length) rfl rfl rfl rfl Q38 tyZ90 (by omega) (by unfold maxLen; omega) rfl ?_
 intro g11 w1 D11
 replace h:=h.new D11;have K11:=New.ge D11 C0.size;replace C0:=C0.tn D11;have E11:=D11.blk;clear D11
 rw [uarr_made] at E11
 refine L.b rfl<|L.z<|W.sr<|L.b rfl<|L.z<|W.seq<|W.seq<|W.region ?_
 refine L.k rfl<|L.lU rfl (by assumption) Q38<|L.v ((R1.sub rfl rfl).as (wrap_i64 (by omega) (by omega))) rfl<|L.b rfl<|L.z<|W.block<|W.loop (ι:=Nat × Nat × List Nat) (fun (m,r,q)=>[(0,va),(1,.int .u64 (b:Int)),(6,.slice (some ⟨g11,0,none⟩) xs.length xs.length),(7,.int .u64 (r:Int)),(8,.int .i64 ((m:Int) - 1))]) (fun (m,r,q) w_=>m≤xs.length∧q.length=xs.length∧(∀ x∈q,x<4294967296)∧r<b∧val (xs.drop m)=b * val (q.drop m) + r∧Blk w_ g11 90 (uarr q)∧U32 (g11 :: M) w_ va xs∧Mod [] w w_) (fun (m,r,q)=>m) (xs.length,0,List.replicate xs.length 0) ?_ ?_ ?_
 · repeat' constructor
 ·
  exact ⟨Nat.le_refl _,by simp,rep_lt _,E0,by simp [val],E11,h,C0⟩
 rintro ⟨m,r,q⟩ w2 ⟨hm,hql,hqx,hr,hv,E11,h,C0⟩
 refine W.seq<|W.sr<|L.k rfl<|L.v (R1.ge rfl rfl) rfl<|L.z<|W.cond rfl ?_ ?_
 ·
  intro J16
  try simp only [bq,ne_eq] at J16
  have C1:0<m:=by omega
  have hxm:=h.lt (show m - 1<xs.length by omega)
  have hq:(r * 4294967296 + xs[m - 1]) / b<4294967296:=by rw [Nat.div_lt_iff_lt_mul (by omega)]; omega
  refine W.skip<|X.seq<|W.seq<|W.block<|W.sr<|L.k rfl<|L.v (R1.shl32 rfl rfl (by omega)) rfl<|L.k rfl<|L.k rfl<|L.v (R1.atU (j:=(m - 1)) rfl rfl (by assumption) Q38 (by omega) (by omega)) rfl ?_
  refine L.v (R1.ldU rfl (by assumption) tyP90 (by omega) rfl) rfl<|L.v (R1.convWL rfl tyI90 tyI87 (by omega)) rfl<|L.v ((R1.orL rfl rfl (by omega) (by omega)).as (j:=(((r * 4294967296 + xs[m - 1]):Nat):Int)) (congrArg (fun n:Nat=>(n:Int)) (or32 hxm))) rfl<|L.b rfl<|L.z<|W.sr<|L.k rfl<|L.k rfl<|L.k rfl ?_
  refine L.k rfl<|L.v (R1.quoL rfl rfl (by omega) (by omega)) rfl<|L.v ((R1.convLW rfl tyI87 tyI90).as (j:=(((r * 4294967296 + xs[m - 1]) / b:Nat):Int)) (by rw [Nat.mod_eq_of_lt hq])) rfl<|L.v (R1.atO (j:=(m - 1)) rfl rfl Q38 (by omega) (by omega)) rfl<|L.storeU rfl rfl E11 (by omega) tyP90 ?_
  intro w3 E11' C3
  replace h:=h.ms C3;replace C0:=C0.old1 C3 K11;clear C3;replace E11:=E11'; clear E11'
  refine L.z<|W.region<|L.k rfl<|L.k rfl<|L.v (R1.remL rfl rfl (by omega)) rfl<|L.b rfl<|L.nil<|X.blockEnd<|X.seq<|W.region ?_
  refine L.k rfl<|L.v ((R1.sub rfl rfl).as (j:=((m - 1:Nat):Int) - 1) (by rw [wrap_i64 (by omega) (by omega)]; omega)) rfl<|L.b rfl<|L.nil<|X.next (m - 1,(r * 4294967296 + xs[m - 1]) % b,q.set (m - 1) ((r * 4294967296 + xs[m - 1]) / b)) ?_ ?_ ?_
  · repeat' constructor
  ·
   refine ⟨by omega,by simpa using hql,set_lt hqx hq,Nat.mod_lt _ E0,?_,E11,h,C0⟩
   rw [val_drop_set (by omega),val_drop_step (by omega),Nat.sub_add_cancel C1]
   exact small_step hv rfl
  first | omega | (dsimp only; omega)
 intro J16
 try simp only [bq,ne_eq] at J16
 obtain rfl:m=0:=by omega
 rw [List.drop_zero,List.drop_zero] at hv
 refine W.brk<|W.seq ?_
 have hU:U32 M w2 (.slice (some ⟨g11,0,none⟩) xs.length xs.length) q:=by
     have hU:=U32.of_blk (M:=M) E11 (hbd0.not K11) (by unfold maxLen; omega) hqx
     rw [hql] at hU; exact hU
 have hbdw:=hbd0.gr C0
 refine W.region<|L.k rfl<|L.c rfl (c_r1_Trim hU hbdw (by omega)) ?_
 rintro v38 w4 ⟨h38,C4⟩
 replace C0:=C0.trans C4;clear C4
 refine L.k rfl<|L.b rfl<|L.b rfl<|L.z<|W.ret<|X.result2 rfl (.tmp rfl (.tmp rfl .nil)) ?_
 have e1:val xs / b=val q:=by rw [hv,Nat.mul_add_div E0,Nat.div_eq_of_lt hr,Nat.add_zero]
 have e2:val xs % b=r:=by rw [hv,Nat.mul_add_mod,Nat.mod_eq_of_lt hr]
 rw [e1,e2]
 exact ⟨_,rfl,h38,C0⟩
end Go.Proofs.YthoooolflmbmbaaGreat
end
