/- Several texts in one. -/
import Derived.Test.YtedokfpoajfflaaGreatTy
import Derived.Test.YtedokfpoajfflaaGreatMath
import Derived.Test.YtedokfpoajfflaaGreatOwn
import Derived.Test.YtedokfpoajfflaaGreatMore
import Derived.Test.YtedokfpoajfflaaGreatNum
section
namespace Go.Proofs.YtedokfpoajfflaaGreat
open Go.RowKit
set_option linter.unusedVariables false
set_option linter.unusedSimpArgs false
set_option maxRecDepth 10000
theorem trimmed_snoc {xs:List Nat} (h:xs.length≠0):trimmedB xs=decide (xs[xs.length - 1]'(by omega)≠0):=by
  unfold trimmedB
  rw [List.getLast?_eq_getElem?,List.getElem?_eq_getElem (by omega)]
  rw [Bool.eq_iff_iff]; simp
theorem c_nat_Is {M : List Nat} {w : World} {v : Value} {xs : List Nat} (h : U32 M w v xs) :
    Ret Tryz.prog 63 #[v] w (fun r w'=>r=.bool (trimmedB xs)∧Mod [] w w'):=by
 have hmax:=h.1.max; unfold maxLen at hmax
 refine Ret.of (vs:=[v]) (n:=15) Tryz.func63 rfl rfl rfl rfl ?_
 have hm0:Mod [] w w:=Mod.refl _ _
 refine W.seq<|W.region<|L.a rfl rfl<|L.nil<|X.seq<|W.seq<|W.region<|L.m rfl rfl<|L.v (R1.lenU rfl (by assumption) tyS24) rfl<|L.v ((R1.eq rfl rfl).asB (c:=decide (xs.length=0)) (by simp)) rfl<|L.m rfl rfl ?_
 cases hgd6:decide (xs.length=0)
 ·
  try simp only [bq,ne_eq] at hgd6
  refine L.on rfl rfl rfl (R1.move rfl) rfl<|L.on rfl rfl rfl (R1.move rfl) rfl<|L.on rfl rfl rfl (R1.lenU rfl (by assumption) tyS24) rfl<|L.on rfl rfl rfl (R1.subI (b:=1) rfl rfl (by omega) (by omega)) rfl<|L.on rfl rfl rfl (R1.atU (j:=xs.length - 1) rfl rfl (by assumption) tyS24 rfl (by omega)) rfl<|L.on rfl rfl rfl (R1.ldU rfl (by assumption) tyP67 (by omega) rfl) rfl<|L.on rfl rfl rfl ((R1.ne rfl rfl).asB (c:=trimmedB xs) (by rw [trimmed_snoc (by omega)]; simp)) rfl<|L.v (R1.pickF rfl rfl) rfl<|L.a rfl rfl<|L.nil<|X.seq ?_
  refine W.ret<|X.result1 rfl (.tmp rfl .nil) ?_
  first
    | exact ⟨rfl,hm0⟩
    | exact ⟨by (obtain rfl:xs=[]:=List.eq_nil_of_length_eq_zero hgd6); rfl,hm0⟩
 try simp only [bq,ne_eq] at hgd6
 refine L.off rfl rfl rfl rfl rfl<|L.off rfl rfl rfl rfl rfl<|L.off rfl rfl rfl rfl rfl<|L.off rfl rfl rfl rfl rfl<|L.off rfl rfl rfl rfl rfl<|L.off rfl rfl rfl rfl rfl<|L.off rfl rfl rfl rfl rfl<|L.v (R1.pickT rfl rfl) rfl<|L.a rfl rfl<|L.nil<|X.seq ?_
 refine W.ret<|X.result1 rfl (.tmp rfl .nil) ?_
 first
   | exact ⟨rfl,hm0⟩
   | exact ⟨by (obtain rfl:xs=[]:=List.eq_nil_of_length_eq_zero hgd6); rfl,hm0⟩
theorem c_nat_trim {M : List Nat} {w : World} {v : Value} {xs : List Nat} (h : U32 M w v xs) :
    Ret Tryz.prog 94 #[v] w (fun r w'=>U32 M w' r (toL (val xs))∧Mod [] w w'):=by
 have hlt:=h.2
 refine Ret.of (vs:=[v]) (n:=12) Tryz.func94 rfl rfl rfl rfl ?_
 have hm0:Mod [] w w:=Mod.refl _ _
 refine W.seq<|W.region<|L.a rfl rfl<|L.nil<|X.seq<|W.seq<|W.block<|W.loop (ι:=Nat × Value) (fun (m,u)=>[(0,u)]) (fun (m,u) w_=>m≤xs.length∧U32 M w_ u (xs.take m)∧val (xs.take m)=val xs∧Mod [] w w_) (fun (m,u)=>m) (xs.length,v) ?_ ?_ ?_
 · exact ⟨rfl,trivial⟩
 ·
  exact ⟨Nat.le_refl _,by rw [List.take_length]; exact h,by rw [List.take_length],hm0⟩
 rintro ⟨m,u⟩ w1 ⟨hm,h,hv,hm0⟩
 have hlen:(xs.take m).length=m:=by rw [List.length_take]; omega
 have hmax:=h.1.max; unfold maxLen at hmax
 refine W.seq<|W.seq<|W.region<|L.m rfl rfl<|L.call rfl (c_nat_Is (by assumption)) rfl ?_
 rintro _ w2 ⟨rfl,hm2⟩
 replace h:=h.gr hm2;replace hm0:=hm0.trans hm2;clear hm2
 refine L.v (R1.not rfl) rfl<|L.nil<|X.seq<|W.cond rfl ?_ ?_
 ·
  intro hc5
  simp only [Bool.not_eq_true',Bool.not_eq_false'] at hc5
  have hm1:0<m:=Nat.pos_of_ne_zero fun h0=>by subst h0; simp [trimmedB] at hc5
  have hlast:xs[m - 1]'(by omega)=0:=by
      have h1:=trimmed_snoc (xs:=xs.take m) (by omega)
      rw [hc5] at h1
      simpa [hlen] using h1
  have hval:val (xs.take (m - 1))=val xs:=val_take_zero (by omega) hlast (by rw [Nat.sub_add_cancel hm1]; exact hv)
  refine W.skip<|X.seq<|W.block ?_
  obtain ⟨A,cap,rfl⟩:=h.form
  have hcut:U32 M w2 (cutS A cap 0 (m - 1) 1) (xs.take (m - 1)):=by
      have h1:=h.1.cutH (k:=m - 1) (by omega) rfl
      refine ⟨?_,fun x hx=>hlt x (List.mem_of_mem_take hx)⟩
      have e1:(xs.take (m - 1)).length=m - 1:=by rw [List.length_take]; omega
      rw [e1]
      have e2:((xs.take m).map fun (x:Nat)=>Value.int .u32 (x:Int)).take ((m - 1) * 1)=(xs.take (m - 1)).map fun (x:Nat)=>Value.int .u32 (x:Int):=by
        rw [← List.map_take,List.take_take]; congr 2; omega
      rw [← e2]; exact h1
  have hcap:=h.1.capOf rfl
  rw [hlen] at hcap
  refine W.region<|L.m rfl rfl<|L.m rfl rfl<|L.v (R1.len rfl tyS24) rfl<|L.v ((R1.sub rfl rfl).as (j:=((m - 1:Nat):Int)) (by rw [wrap_i64 (by omega) (by omega)]; omega)) rfl<|L.v ((R1.sliceH rfl rfl tyS24 (by omega) (by omega)).asV (v:=cutS A cap 0 (m - 1) 1) (by rw [Int.toNat_natCast])) rfl<|L.a rfl rfl<|L.nil<|X.blockEnd<|X.next (m - 1,cutS A cap 0 (m - 1) 1) ?_ ?_ ?_
  · exact ⟨rfl,trivial⟩
  ·
   refine ⟨by omega,?_,?_,hm0⟩
   · exact hcut
   exact hval
  first | omega | (dsimp only; omega)
 intro hc5
 simp only [Bool.not_eq_true',Bool.not_eq_false'] at hc5
 have hres:xs.take m=toL (val xs):=by
     have h1:=toL_val (xs.take m) (fun x hx=>hlt x (List.mem_of_mem_take hx)) hc5
     rw [hv] at h1; exact h1.symm
 refine W.exit<|X.thenExit<|X.nextExit<|X.here<|X.seq<|W.seq<|W.region<|L.m rfl rfl<|L.a rfl rfl<|L.nil<|X.seq ?_
 refine W.ret<|X.result1 rfl (.tmp rfl .nil) ?_
 exact ⟨by rw [← hres]; exact h,hm0⟩
theorem c_CloneU {M N9 : List Nat} {w : World} {v : Value} {xs : List Nat} (h : U32 N9 w v xs) (hbd : Bd M w) (hl : xs.length ≤ 1099511627776) :
    Ret Tryz.prog 113 #[v] w (fun r w'=>U32 M w' r xs∧Mod [] w w'):=by
 obtain ⟨A,c,rfl⟩:=h.form;have hx:=h.2;have hbd0:=hbd
 refine Ret.of (vs:=[.slice A xs.length c]) (n:=8) Tryz.func113 rfl rfl rfl rfl ?_
 have hm0:Mod [] w w:=Mod.refl _ _
 refine W.seq<|W.region<|L.a rfl rfl<|L.nil<|X.seq<|W.seq<|W.seq<|W.region<|L.m rfl rfl<|L.v (R1.nilSl rfl tyS24) rfl<|L.nil ?_
 refine X.seq<|W.cond rfl ?_ ?_
 ·
  intro hc4
  simp only [Option.isNone_iff_eq_none,Option.isNone_eq_false_iff] at hc4
  subst hc4
  have h0:xs=[]:=by
      obtain ⟨A,cap,e1,e2,_,_,e5,_⟩:=h.1
      injection e1 with e1 _ e3
      have:=e5 e1.symm
      exact List.eq_nil_of_length_eq_zero (by omega)
  subst h0
  refine W.seq<|W.region<|L.a rfl rfl<|L.nil<|X.seq<|W.ret<|X.thenRet<|X.result1 rfl (.tmp rfl .nil) ?_
  exact ⟨U32.nil,hm0⟩
 intro hc4
 simp only [Option.isNone_iff_eq_none,Option.isNone_eq_false_iff] at hc4
 refine W.skip<|X.seq<|W.seq<|W.region<|L.buildEmpty tyS24 rfl ?_
 intro g5 w1 hN5
 replace h:=h.new hN5;have hge_g5:=New.ge hN5 hm0.size;replace hm0:=hm0.trans (hN5.mod.mono (by simp));have hb5:=hN5.blk;clear hN5
 have hown:World.ownsRow w1 w.heap.size 67 1 (.slice (some ⟨g5,0,none⟩) 0 0) 0 []:=⟨rfl,.inr ⟨g5,0,#[],rfl,hge_g5,hb5,Nat.le_refl _,by decide,rfl,rfl⟩⟩
 clear hb5
 refine L.m rfl rfl<|L.append rfl rfl hown h.1 (by simp [Value.oneCell']) tyS24 tyZ67 (by omega) (by unfold maxLen; omega) hm0.size rfl ?_
 intro v7 w2 ho7' hG7
 replace hm0:=hm0.grew hG7 (fun g hg=>(own_ge hown g hg).1);clear hown;have ho7:=ho7'; clear ho7';obtain ⟨A7,c7,rfl⟩:=own_form ho7
 refine L.a rfl rfl<|L.nil<|X.seq<|W.ret<|X.result1 rfl (.tmp rfl .nil)<|⟨⟨(Sl.of_own ho7 (fun g hg=>hbd0.not (own_ge ho7 g hg).1)).congr (by simp) (by simp),hx⟩,hm0⟩
theorem c_nat_Trim {M N9 : List Nat} {w : World} {v : Value} {xs : List Nat} (h : U32 N9 w v xs) (hbd : Bd M w) (hl : xs.length ≤ 1099511627776) :
    Ret Tryz.prog 95 #[v] w (fun r w'=>U32 M w' r (toL (val xs))∧Mod [] w w'):=by
 have hle:=toL_length_val xs h.2
 refine Ret.of (vs:=[v]) (n:=6) Tryz.func95 rfl rfl rfl rfl ?_
 have hm0:Mod [] w w:=Mod.refl _ _
 refine W.seq<|W.region<|L.a rfl rfl<|L.nil<|X.seq<|W.seq<|W.region<|L.m rfl rfl<|L.call rfl (c_nat_trim (by assumption)) rfl ?_
 rintro v4 w1 ⟨h4,hm1⟩
 replace h:=h.gr hm1;replace hbd:=hbd.gr hm1;replace hm0:=hm0.trans hm1;clear hm1
 refine L.call rfl (c_CloneU (by assumption) (by assumption) (by omega)) rfl ?_
 rintro v5 w2 ⟨h5,hm2⟩
 replace hm0:=hm0.trans hm2;clear hm2
 refine L.a rfl rfl<|L.nil<|X.seq<|W.ret<|X.result1 rfl (.tmp rfl .nil) ?_
 exact ⟨h5,hm0⟩
end Go.Proofs.YtedokfpoajfflaaGreat
end
section
namespace Go.Proofs.YtedokfpoajfflaaGreat
open Go.RowKit
set_option linter.unusedVariables false
set_option linter.unusedSimpArgs false
set_option maxRecDepth 10000
theorem fill2u (a b:Int):Instr.fill (fun i=>some (i * 1,1)) ((Array.range (2 * 1)).map ((Value.int .u32 0).cells[· % (Value.int .u32 0).cells.size]!)) [(0,.int .u32 a),(1,.int .u32 b)]=some #[.int .u32 a,.int .u32 b]:=by kernel_rfl
theorem c_nat_Of {M : List Nat} {w : World} {n : Nat} (hn : n < 18446744073709551616) (hbd : Bd M w) :
    Ret Tryz.prog 66 #[.int .u64 (n:Int)] w (fun r w'=>U32 M w' r (toL n)∧Mod [] w w'):=by
 have hbd0:=hbd
 refine Ret.of (vs:=[.int .u64 (n:Int)]) (n:=10) Tryz.func66 rfl rfl rfl rfl ?_
 have hm0:Mod [] w w:=Mod.refl _ _
 refine W.seq<|W.region<|L.a rfl rfl<|L.nil<|X.seq<|W.seq<|W.region<|L.m rfl rfl<|L.v (R1.convLW rfl tyI64 tyI67) rfl<|L.m rfl rfl<|L.v (R1.shr32 rfl rfl) rfl ?_
 refine L.v (R1.convLW rfl tyI64 tyI67) rfl<|L.buildSlice (cells:=[.int .u32 ((n % 4294967296:Nat):Int),.int .u32 ((n / 4294967296 % 4294967296:Nat):Int)]) rfl tyS24 tyZ67 (fill2u _ _) (by decide) (by decide) rfl ?_
 intro g8 w1 hN8
 have hge_g8:=New.ge hN8 hm0.size;replace hm0:=hm0.trans (hN8.mod.mono (by simp));have hb8:=hN8.blk;clear hN8
 have hU:U32 M w1 (.slice (some ⟨g8,0,none⟩) 2 2) [n % 4294967296,n / 4294967296 % 4294967296]:=U32.of_blk (xs:=[n % 4294967296,n / 4294967296 % 4294967296]) hb8 (hbd0.not hge_g8) (by show (2:Nat)≤maxLen; decide) (by simp; omega)
 refine L.call rfl (c_nat_trim (by assumption)) rfl ?_
 rintro v9 w2 ⟨h9,hm2⟩
 replace hm0:=hm0.trans hm2;clear hm2
 refine L.a rfl rfl<|L.nil<|X.seq<|W.ret<|X.result1 rfl (.tmp rfl .nil) ?_
 exact ⟨by rw [val_two n hn] at h9; exact h9,hm0⟩
theorem c_nat_Cmp {M : List Nat} {w : World} {va vb : Value} {xs ys : List Nat} (h : U32 M w va xs) (k : U32 M w vb ys) :
    Ret Tryz.prog 64 #[va,vb] w (fun r w'=>r=.int .i64 (cmpI (val xs) (val ys))∧Mod [] w w'):=by
 refine Ret.of (vs:=[va,vb]) (n:=45) Tryz.func64 rfl rfl rfl rfl ?_
 have hm0:Mod [] w w:=Mod.refl _ _
 refine W.seq<|W.region<|L.a rfl rfl<|L.nil<|X.seq<|W.seq<|W.region<|L.m rfl rfl<|L.call rfl (c_nat_trim (by assumption)) rfl ?_
 rintro v7 w1 ⟨h7,hm1⟩
 replace h:=h.gr hm1;replace k:=k.gr hm1;replace hm0:=hm0.trans hm1;clear hm1
 refine L.m rfl rfl<|L.call rfl (c_nat_trim (by assumption)) rfl ?_
 rintro v9 w2 ⟨h9,hm2⟩
 replace h:=h.gr hm2;replace k:=k.gr hm2;replace hm0:=hm0.trans hm2;replace h7:=h7.gr hm2;clear hm2
 refine L.a rfl rfl<|L.a rfl rfl<|L.nil<|X.seq<|W.seq<|W.seq ?_
 have hma:=h7.1.max; unfold maxLen at hma;have hmb:=h9.1.max; unfold maxLen at hmb
 refine W.region<|L.m rfl rfl<|L.v (R1.lenU rfl (by assumption) tyS24) rfl<|L.m rfl rfl<|L.v (R1.lenU rfl (by assumption) tyS24) rfl<|L.v (R1.ne rfl rfl) rfl<|L.nil<|X.seq<|W.cond rfl ?_ ?_
 ·
  intro hc14
  try simp only [bq,ne_eq] at hc14
  refine W.seq<|W.seq<|W.region<|L.m rfl rfl<|L.v (R1.lenU rfl (by assumption) tyS24) rfl<|L.m rfl rfl<|L.v (R1.lenU rfl (by assumption) tyS24) rfl<|L.v (R1.lt rfl rfl) rfl<|L.nil<|X.seq<|W.cond rfl ?_ ?_
  ·
   intro hc19
   try simp only [bq,ne_eq] at hc19
   refine W.seq<|W.region<|L.a rfl rfl<|L.nil<|X.seq<|W.ret<|X.thenRet<|X.thenRet<|X.result1 rfl (.tmp rfl .nil) ?_
   exact ⟨by rw [cmpI_lt (lt_of_toL_len (by omega))],hm0⟩
  intro hc19
  try simp only [bq,ne_eq] at hc19
  refine W.skip<|X.seq<|W.seq<|W.region<|L.a rfl rfl<|L.nil<|X.seq<|W.ret<|X.thenRet<|X.result1 rfl (.tmp rfl .nil) ?_
  exact ⟨by rw [cmpI_gt (lt_of_toL_len (by omega))],hm0⟩
 intro hc14
 try simp only [bq,ne_eq] at hc14
 have hlen:(toL (val xs)).length=(toL (val ys)).length:=by omega
 refine W.skip<|X.seq<|W.seq<|W.seq<|W.region<|L.m rfl rfl<|L.v (R1.lenU rfl (by assumption) tyS24) rfl<|L.v ((R1.sub rfl rfl).as (wrap_i64 (by omega) (by omega))) rfl<|L.a rfl rfl<|L.nil<|X.seq ?_
 refine W.block<|W.loop (ι:=Nat) (fun m=>[(0,v7),(1,v9),(5,.int .i64 ((m:Int) - 1))]) (fun m w_=>m≤(toL (val xs)).length∧(toL (val xs)).drop m=(toL (val ys)).drop m∧U32 M w_ v7 (toL (val xs))∧U32 M w_ v9 (toL (val ys))∧Mod [] w w_) (fun m=>m) (toL (val xs)).length ?_ ?_ ?_
 · exact ⟨rfl,rfl,rfl,trivial⟩
 ·
  exact ⟨Nat.le_refl _,by rw [List.drop_of_length_le (Nat.le_refl _),List.drop_of_length_le (by omega)],h7,h9,hm0⟩
 rintro m w3 ⟨hm,hd,h7,h9,hm0⟩
 refine W.seq<|W.seq<|W.region<|L.m rfl rfl<|L.v (R1.ge rfl rfl) rfl<|L.nil<|X.seq<|W.cond rfl ?_ ?_
 ·
  intro hc24
  try simp only [bq,ne_eq] at hc24
  have hm1:0<m:=by omega
  refine W.skip<|X.seq<|W.seq<|W.block<|W.seq<|W.drawW (T:=[]) rfl (by decide +kernel) (NoHang.then (NoHang.block (NoHang.then (NoHang.next (NoHang.block (NoHang.then NoHang.post)))))) (fun w4 hm4=>?_)
  replace h7:=h7.gr hm4;replace h9:=h9.gr hm4;replace hm0:=hm0.trans hm4
  have hS1:Mod [] w4 w4:=Mod.refl _ _
  clear hm4
  refine D.m 0 rfl (by kernel_rfl) rfl hS1 rfl<|D.m 1 rfl (by kernel_rfl) rfl hS1 rfl<|D.take 2 rfl (by kernel_rfl) (fun w_ hS=>(R1.atU (j:=(m - 1)) rfl rfl (U32.gr (by assumption) hS) tyS24 (by omega) (by omega))) hS1 rfl<|D.take 3 rfl (by kernel_rfl) (fun w_ hS=>(R1.ldU rfl (U32.gr (by assumption) hS) tyP67 (by omega) rfl)) hS1 rfl<|D.m 4 rfl (by kernel_rfl) rfl hS1 rfl<|D.m 5 rfl (by kernel_rfl) rfl hS1 rfl<|D.take 6 rfl (by kernel_rfl) (fun w_ hS=>(R1.atU (j:=(m - 1)) rfl rfl (U32.gr (by assumption) hS) tyS24 (by omega) (by omega))) hS1 rfl<|D.take 7 rfl (by kernel_rfl) (fun w_ hS=>(R1.ldU rfl (U32.gr (by assumption) hS) tyP67 (by omega) rfl)) hS1 rfl<|D.take 8 rfl (by kernel_rfl) (fun w_ hS=>(R1.ne rfl rfl)) hS1 rfl<|D.done (by decide +kernel) ?_ _
  refine X.seq<|W.cond rfl ?_ ?_
  ·
   intro hc35
   try simp only [bq,ne_eq] at hc35
   refine W.seq<|W.seq<|W.drawW (T:=[]) rfl (by decide +kernel) (NoHang.then (NoHang.then (NoHang.block (NoHang.then (NoHang.next (NoHang.block (NoHang.then NoHang.post))))))) (fun w5 hm5=>?_)
   replace h7:=h7.gr hm5;replace h9:=h9.gr hm5;replace hm0:=hm0.trans hm5
   have hS2:Mod [] w5 w5:=Mod.refl _ _
   clear hm5
   refine D.m 0 rfl (by kernel_rfl) rfl hS2 rfl<|D.m 1 rfl (by kernel_rfl) rfl hS2 rfl<|D.take 2 rfl (by kernel_rfl) (fun w_ hS=>(R1.atU (j:=(m - 1)) rfl rfl (U32.gr (by assumption) hS) tyS24 (by omega) (by omega))) hS2 rfl<|D.take 3 rfl (by kernel_rfl) (fun w_ hS=>(R1.ldU rfl (U32.gr (by assumption) hS) tyP67 (by omega) rfl)) hS2 rfl<|D.m 4 rfl (by kernel_rfl) rfl hS2 rfl<|D.m 5 rfl (by kernel_rfl) rfl hS2 rfl<|D.take 6 rfl (by kernel_rfl) (fun w_ hS=>(R1.atU (j:=(m - 1)) rfl rfl (U32.gr (by assumption) hS) tyS24 (by omega) (by omega))) hS2 rfl<|D.take 7 rfl (by kernel_rfl) (fun w_ hS=>(R1.ldU rfl (U32.gr (by assumption) hS) tyP67 (by omega) rfl)) hS2 rfl<|D.take 8 rfl (by kernel_rfl) (fun w_ hS=>(R1.lt rfl rfl)) hS2 rfl<|D.done (by decide +kernel) ?_ _
   refine X.seq<|W.cond rfl ?_ ?_
   ·
    intro hc44
    try simp only [bq,ne_eq] at hc44
    refine W.seq<|W.region<|L.a rfl rfl<|L.nil<|X.seq<|W.ret<|X.thenRet<|X.blockRet<|X.thenRet<|X.nextRet<|X.blockRet ?_
    refine X.thenRet<|X.result1 rfl (.tmp rfl .nil)<|⟨?_,hm0⟩
    have hz:=val_lt_of_top (xs:=toL (val xs)) (ys:=toL (val ys)) (j:=m - 1) (toL_lt _) (by omega) (by omega) (by rw [Nat.sub_add_cancel hm1]; exact hd) (by omega)
    rw [val_toL,val_toL] at hz
    rw [cmpI_lt hz]
   intro hc44
   try simp only [bq,ne_eq] at hc44
   refine W.skip<|X.seq<|W.seq<|W.region<|L.a rfl rfl<|L.nil<|X.seq<|W.ret<|X.blockRet<|X.thenRet<|X.nextRet ?_
   refine X.blockRet<|X.thenRet<|X.result1 rfl (.tmp rfl .nil)<|⟨?_,hm0⟩
   have hz:=val_lt_of_top (xs:=toL (val ys)) (ys:=toL (val xs)) (j:=m - 1) (toL_lt _) (by omega) (by omega) (by rw [Nat.sub_add_cancel hm1]; exact hd.symm) (by omega)
   rw [val_toL,val_toL] at hz
   rw [cmpI_gt hz]
  intro hc35
  try simp only [bq,ne_eq] at hc35
  refine W.skip<|X.blockEnd<|X.seq<|W.region<|L.m rfl rfl<|L.v ((R1.sub rfl rfl).as (j:=((m - 1:Nat):Int) - 1) (by rw [wrap_i64 (by omega) (by omega)]; omega)) rfl<|L.a rfl rfl<|L.nil<|X.next (m - 1) ?_ ?_ ?_
  · exact ⟨rfl,rfl,rfl,trivial⟩
  ·
   exact ⟨by omega,drop_step (by omega) (by omega) (by omega) hd (by omega),h7,h9,hm0⟩
  first | omega | (dsimp only; omega)
 intro hc24
 try simp only [bq,ne_eq] at hc24
 refine W.exit<|X.thenExit<|X.nextExit<|X.here<|X.seq<|W.seq<|W.region<|L.a rfl rfl<|L.nil<|X.seq<|W.ret ?_
 refine X.result1 rfl (.tmp rfl .nil)<|⟨?_,hm0⟩
 have h0:m=0:=by omega
 rw [h0,List.drop_zero,List.drop_zero] at hd
 rw [cmpI_eq (toL_inj hd)]
theorem c_nat_Add {M : List Nat} {w : World} {va vb : Value} {xs ys : List Nat} (h : U32 M w va xs) (k : U32 M w vb ys) (hbd : Bd M w) (hl1 : xs.length ≤ 1099511627776) (hl2 : ys.length ≤ 1099511627776) :
    Ret Tryz.prog 106 #[va,vb] w (fun r w'=>U32 M w' r (toL (val xs + val ys))∧Mod [] w w'):=by
 have hbd0:=hbd;have hla:=toL_len_40 h.2 hl1;have hlb:=toL_len_40 k.2 hl2
 refine Ret.of (vs:=[va,vb]) (n:=62) Tryz.func106 rfl rfl rfl rfl ?_
 have hm0:Mod [] w w:=Mod.refl _ _
 refine W.seq<|W.region<|L.a rfl rfl<|L.nil<|X.seq<|W.seq<|W.region<|L.m rfl rfl<|L.call rfl (c_nat_trim (by assumption)) rfl ?_
 rintro v10 w1 ⟨h10,hm1⟩
 replace h:=h.gr hm1;replace k:=k.gr hm1;replace hm0:=hm0.trans hm1;clear hm1
 refine L.m rfl rfl<|L.call rfl (c_nat_trim (by assumption)) rfl ?_
 rintro v12 w2 ⟨h12,hm2⟩
 replace h:=h.gr hm2;replace k:=k.gr hm2;replace hm0:=hm0.trans hm2;replace h10:=h10.gr hm2;clear hm2
 refine L.a rfl rfl<|L.a rfl rfl<|L.nil<|X.seq<|W.seq<|W.seq<|W.region<|L.m rfl rfl<|L.v (R1.lenU rfl (by assumption) tyS24) rfl<|L.m rfl rfl<|L.v (R1.lenU rfl (by assumption) tyS24) rfl ?_
 refine L.v (R1.lt rfl rfl) rfl<|L.nil<|X.seq<|W.cut (ι:=List Nat × List Nat × Value × Value) (fun (es,bs,u1,u2)=>[(0,u1),(1,u2)]) (fun (es,bs,u1,u2) w_=>U32 M w_ u1 es∧U32 M w_ u2 bs∧bs.length≤es.length∧val es + val bs=val xs + val ys∧es.length≤1099511627776∧Mod [] w w_) ?_ ?_
 ·
  refine W.cond rfl ?_ ?_
  ·
   intro hc17
   try simp only [bq,ne_eq] at hc17
   refine W.region<|L.m rfl rfl<|L.m rfl rfl<|L.a rfl rfl<|L.a rfl rfl<|L.nil<|X.join (toL (val ys),toL (val xs),v12,v10) ?_ ?_
   · exact ⟨rfl,rfl,trivial⟩
   exact ⟨h12,h10,by omega,by rw [val_toL,val_toL,Nat.add_comm],hlb,hm0⟩
  intro hc17
  try simp only [bq,ne_eq] at hc17
  refine W.skip<|X.join (toL (val xs),toL (val ys),v10,v12) ?_ ?_
  · exact ⟨rfl,rfl,trivial⟩
  exact ⟨h10,h12,by omega,by rw [val_toL,val_toL],hla,hm0⟩
 rintro ⟨es,bs,u1,u2⟩ wj ⟨h,k2,hle,hv,hla,hm0⟩
 refine X.seq<|W.seq<|W.region<|L.m rfl rfl<|L.v (R1.lenU rfl (by assumption) tyS24) rfl<|L.v (R1.addI (b:=1) rfl rfl (by omega)) rfl<|L.makeSlice (m:=(es.length + 1)) rfl rfl rfl rfl tyS24 tyZ67 (by omega) (by unfold maxLen; omega) rfl ?_
 intro g23 w3 hN23
 replace h:=h.new hN23;replace k2:=k2.new hN23;have hge_g23:=New.ge hN23 hm0.size;replace hm0:=hm0.trans (hN23.mod.mono (by simp));have hb23:=hN23.blk;clear hN23
 rw [uarr_made] at hb23
 refine L.a rfl rfl<|L.nil<|X.seq<|W.seq<|W.region<|L.a rfl rfl<|L.nil<|X.seq<|W.seq<|W.seq<|W.region ?_
 refine L.m rfl rfl<|L.v (R1.lenU rfl (by assumption) tyS24) rfl<|L.m rfl rfl<|L.nil<|X.seq<|W.block<|W.loop (ι:=Nat × Nat × List Nat) (fun (k,cy,cs)=>[(0,u1),(1,u2),(5,.slice (some ⟨g23,0,none⟩) (es.length + 1) (es.length + 1)),(6,.int .u64 (cy:Int)),(24,u1),(25,.int .i64 (es.length:Int)),(26,.int .i64 (k:Int))]) (fun (k,cy,cs) w_=>k≤es.length∧cs.length=es.length + 1∧(∀ x∈cs,x<4294967296)∧cy≤1∧val (cs.take k) + 4294967296 ^ k * cy=val (es.take k) + val (bs.take k)∧Blk w_ g23 67 (uarr cs)∧U32 (g23 :: M) w_ u1 es∧U32 (g23 :: M) w_ u2 bs∧Mod [] w w_) (fun (k,cy,cs)=>es.length - k) (0,0,List.replicate (es.length + 1) 0) ?_ ?_ ?_
 · exact ⟨rfl,rfl,rfl,rfl,rfl,rfl,rfl,trivial⟩
 ·
  exact ⟨Nat.zero_le _,by simp,rep_lt _,by omega,by simp [val],hb23,h,k2,hm0⟩
 rintro ⟨k,cy,cs⟩ w4 ⟨hk,hcl,hcx,hcy,hv2,hb23,h,k2,hm0⟩
 refine W.seq<|W.region<|L.v (R1.lt rfl rfl) rfl<|L.nil<|X.seq<|W.seq<|W.cond rfl ?_ ?_
 ·
  intro hc27
  try simp only [bq,ne_eq] at hc27
  have hk1:k<es.length:=by omega
  have hak:=h.lt hk1
  refine W.skip<|X.seq<|W.seq<|W.block<|W.seq<|W.region<|L.m rfl rfl<|L.v (R1.atU (j:=k) rfl rfl (by assumption) tyS24 rfl (by omega)) rfl<|L.v (R1.ldU rfl (by assumption) tyP67 (by omega) rfl) rfl<|L.a rfl rfl<|L.a rfl rfl ?_
  refine L.nil<|X.seq<|W.seq<|W.region<|L.m rfl rfl<|L.m rfl rfl<|L.v (R1.convWL rfl tyI67 tyI64 (by omega)) rfl<|L.v (R1.addL rfl rfl (by omega)) rfl<|L.a rfl rfl<|L.nil<|X.seq ?_
  refine W.seq<|W.seq<|W.region<|L.m rfl rfl<|L.m rfl rfl<|L.v (R1.lenU rfl (by assumption) tyS24) rfl<|L.v (R1.lt rfl rfl) rfl<|L.nil<|X.seq<|W.cut (ι:=Nat) (fun t=>[(0,u1),(1,u2),(5,.slice (some ⟨g23,0,none⟩) (es.length + 1) (es.length + 1)),(6,.int .u64 (t:Int)),(7,.int .i64 (k:Int)),(24,u1),(25,.int .i64 (es.length:Int)),(26,.int .i64 (k:Int))]) (fun t w_=>t=cy + es[k] + bs.getD k 0∧Blk w_ g23 67 (uarr cs)∧U32 (g23 :: M) w_ u1 es∧U32 (g23 :: M) w_ u2 bs∧Mod [] w w_) ?_ ?_
  ·
   refine W.cond rfl ?_ ?_
   ·
    intro hc38
    try simp only [bq,ne_eq] at hc38
    have hk2:k<bs.length:=by omega
    have hbk:=k2.lt hk2
    refine W.region<|L.m rfl rfl<|L.m rfl rfl<|L.m rfl rfl<|L.v (R1.atU (j:=k) rfl rfl (by assumption) tyS24 rfl (by omega)) rfl<|L.v (R1.ldU rfl (by assumption) tyP67 (by omega) rfl) rfl<|L.v (R1.convWL rfl tyI67 tyI64 (by omega)) rfl<|L.v (R1.addL rfl rfl (by omega)) rfl<|L.a rfl rfl<|L.nil<|X.join (cy + es[k] + bs[k]) ?_ ?_
    · exact ⟨rfl,rfl,rfl,rfl,rfl,rfl,rfl,rfl,trivial⟩
    exact ⟨by simp [hk2],hb23,h,k2,hm0⟩
   intro hc38
   try simp only [bq,ne_eq] at hc38
   refine W.skip<|X.join (cy + es[k]) ?_ ?_
   · exact ⟨rfl,rfl,rfl,rfl,rfl,rfl,rfl,rfl,trivial⟩
   exact ⟨by simp [List.getD_eq_getElem?_getD,List.getElem?_eq_none (show bs.length≤k by omega)],hb23,h,k2,hm0⟩
  rintro t wk ⟨ht,hb23,h,k2,hm0⟩
  have hbk:bs.getD k 0<4294967296:=by
      rcases Nat.lt_or_ge k bs.length with h1 | h1
      · simp only [List.getD_eq_getElem?_getD,List.getElem?_eq_getElem h1,Option.getD_some]; exact k2.lt h1
      simp [h1]
  refine X.seq<|W.seq<|W.region<|L.m rfl rfl<|L.m rfl rfl<|L.m rfl rfl<|L.v (R1.convLW rfl tyI64 tyI67) rfl<|L.v (R1.atO (j:=k) rfl rfl tyS24 rfl (by omega)) rfl<|L.storeU rfl rfl hb23 (by omega) tyP67 ?_
  intro w5 hb23' hm5
  replace h:=h.mod hm5 (by simp);replace k2:=k2.mod hm5 (by simp);replace hm0:=hm0.old1 hm5 hge_g23;clear hm5;replace hb23:=hb23'; clear hb23'
  refine L.nil<|X.seq<|W.region<|L.m rfl rfl<|L.v (R1.shr32 rfl rfl) rfl<|L.a rfl rfl<|L.nil<|X.blockEnd<|X.seq<|W.region<|L.v (R1.addI (b:=1) rfl rfl (by omega)) rfl ?_
  refine L.m rfl rfl<|L.nil<|X.next (k + 1,t / 4294967296,cs.set k (t % 4294967296)) ?_ ?_ ?_
  · exact ⟨rfl,rfl,rfl,rfl,rfl,rfl,rfl,trivial⟩
  ·
   refine ⟨by omega,by simpa using hcl,set_lt hcx (Nat.mod_lt _ (by decide)),by omega,?_,hb23,h,k2,hm0⟩
   rw [val_take_set (by omega),val_take_succ hk1,val_take_succD bs,pow_LB_succ]
   have hs:=add_step hv2 ht
   rw [Nat.mul_comm (4294967296 ^ k) 4294967296] at hs
   omega
  first | omega | (dsimp only; omega)
 intro hc27
 try simp only [bq,ne_eq] at hc27
 obtain rfl:k=es.length:=by omega
 rw [List.take_length] at hv2
 rw [val_take_all hle] at hv2
 refine W.exit<|X.thenExit<|X.nextExit<|X.here<|X.seq<|W.seq<|W.region<|L.m rfl rfl<|L.m rfl rfl<|L.v (R1.lenU rfl (by assumption) tyS24) rfl<|L.m rfl rfl ?_
 refine L.v (R1.convLW rfl tyI64 tyI67) rfl<|L.v (R1.atO (j:=es.length) rfl rfl tyS24 rfl (by omega)) rfl<|L.storeU rfl rfl hb23 (by omega) tyP67 ?_
 intro w6 hb23' hm6
 replace hm0:=hm0.old1 hm6 hge_g23;clear hm6;replace hb23:=hb23'; clear hb23'
 refine L.nil<|X.seq<|W.seq ?_
 have hU:U32 M w6 (.slice (some ⟨g23,0,none⟩) (es.length + 1) (es.length + 1)) (cs.set es.length (cy % 4294967296)):=by
     have hU:=U32.of_blk (M:=M) hb23 (hbd0.not hge_g23) (by simp; unfold maxLen; omega) (set_lt hcx (Nat.mod_lt _ (by decide)))
     rw [List.length_set,hcl] at hU; exact hU
 refine W.region<|L.m rfl rfl<|L.call rfl (c_nat_trim hU) rfl ?_
 rintro v61 w7 ⟨h61,hm7⟩
 replace hm0:=hm0.trans hm7;clear hm7
 refine L.a rfl rfl<|L.nil<|X.seq<|W.ret<|X.result1 rfl (.tmp rfl .nil)<|⟨?_,hm0⟩
 have e1:=val_take_set (xs:=cs) (k:=es.length) (by omega) (cy % 4294967296)
 rw [val_take_all (by simp; omega),Nat.mod_eq_of_lt (show cy<4294967296 by omega)] at e1
 rw [Nat.mod_eq_of_lt (show cy<4294967296 by omega),e1,hv2,hv] at h61
 exact h61
end Go.Proofs.YtedokfpoajfflaaGreat
end
section
namespace Go.Proofs.YtedokfpoajfflaaGreat
open Go.RowKit
set_option linter.unusedVariables false
set_option linter.unusedSimpArgs false
set_option maxRecDepth 10000
theorem c_Sub32 {w : World} {x y b : Nat} (hx : x < 4294967296) (hy : y < 4294967296) (hb : b ≤ 1) :
    Ret Tryz.prog 119 #[.int .u32 (x:Int),.int .u32 (y:Int),.int .u32 (b:Int)] w (fun r w'=>r=.tuple #[.int .u32 ((subW x y b:Nat):Int),.int .u32 ((subB x y b:Nat):Int)]∧Mod [] w w'):=by
 have hd:=subW_lt x y b
 have hxy:x ^^^ y<4294967296:=Nat.xor_lt_two_pow (n:=32) hx hy
 have hA:(4294967295 - x) &&& y<2 ^ 32:=Nat.lt_of_le_of_lt Nat.and_le_right hy
 have hB:(4294967295 - (x ^^^ y)) &&& subW x y b<2 ^ 32:=Nat.lt_of_le_of_lt Nat.and_le_right hd
 refine Ret.of (vs:=[.int .u32 (x:Int),.int .u32 (y:Int),.int .u32 (b:Int)]) (n:=25) Tryz.func119 rfl rfl rfl rfl ?_
 have hm0:Mod [] w w:=Mod.refl _ _
 refine W.seq<|W.region<|L.a rfl rfl<|L.a rfl rfl<|L.nil<|X.seq<|W.seq<|W.region<|L.m rfl rfl<|L.m rfl rfl<|L.v (R1.subW rfl rfl (by omega)) rfl ?_
 refine L.m rfl rfl<|L.v ((R1.subW rfl rfl (by omega)).as (j:=((subW x y b:Nat):Int)) (by unfold subW; omega)) rfl<|L.a rfl rfl<|L.nil<|X.seq<|W.seq<|W.region<|L.m rfl rfl<|L.v (R1.compl rfl (by omega)) rfl<|L.m rfl rfl<|L.v (R1.andW rfl rfl (by omega) hy) rfl ?_
 refine L.m rfl rfl<|L.m rfl rfl<|L.v (R1.xorW rfl rfl hx hy) rfl<|L.v (R1.compl rfl (by omega)) rfl<|L.m rfl rfl<|L.v (R1.andW rfl rfl (by omega) hd) rfl<|L.v (R1.orW rfl rfl hA hB) rfl<|L.v ((R1.shrW (b:=31) rfl rfl (by omega)).as (j:=((subB x y b:Nat):Int)) (congrArg (fun n:Nat=>(n:Int)) (sub_bits hx hy hb))) rfl<|L.a rfl rfl<|L.nil<|X.seq ?_
 refine W.ret<|X.result2 rfl (.tmp rfl (.tmp rfl .nil)) ?_
 exact ⟨rfl,hm0⟩
theorem c_Add32 {w : World} {x y b : Nat} (hx : x < 4294967296) (hy : y < 4294967296) (hb : b ≤ 1) :
    Ret Tryz.prog 128 #[.int .u32 (x:Int),.int .u32 (y:Int),.int .u32 (b:Int)] w (fun r w'=>r=.tuple #[.int .u32 (((x + y + b) % 4294967296:Nat):Int),.int .u32 (((x + y + b) / 4294967296:Nat):Int)]∧Mod [] w w'):=by
 refine Ret.of (vs:=[.int .u32 (x:Int),.int .u32 (y:Int),.int .u32 (b:Int)]) (n:=22) Tryz.func128 rfl rfl rfl rfl ?_
 have hm0:Mod [] w w:=Mod.refl _ _
 refine W.seq<|W.region<|L.a rfl rfl<|L.a rfl rfl<|L.nil<|X.seq<|W.seq<|W.region<|L.m rfl rfl<|L.v (R1.convWL rfl tyI67 tyI64 (by omega)) rfl<|L.m rfl rfl ?_
 refine L.v (R1.convWL rfl tyI67 tyI64 (by omega)) rfl<|L.v (R1.addL rfl rfl (by omega)) rfl<|L.m rfl rfl<|L.v (R1.convWL rfl tyI67 tyI64 (by omega)) rfl<|L.v (R1.addL rfl rfl (by omega)) rfl<|L.a rfl rfl<|L.nil<|X.seq<|W.seq<|W.region<|L.m rfl rfl ?_
 refine L.v (R1.convLW rfl tyI64 tyI67) rfl<|L.a rfl rfl<|L.nil<|X.seq<|W.seq<|W.region<|L.m rfl rfl<|L.v (R1.shr32 rfl rfl) rfl<|L.v ((R1.convLW rfl tyI64 tyI67).as (j:=(((x + y + b) / 4294967296:Nat):Int)) (by omega)) rfl<|L.a rfl rfl<|L.nil ?_
 refine X.seq<|W.ret<|X.result2 rfl (.tmp rfl (.tmp rfl .nil)) ?_
 exact ⟨rfl,hm0⟩
theorem c_Div32 {w : World} {a c y : Nat} (ha : a < y) (hc : c < 4294967296) (hy : y < 4294967296) :
    Ret Tryz.prog 120 #[.int .u32 (a:Int),.int .u32 (c:Int),.int .u32 (y:Int)] w (fun r w'=>r=.tuple #[.int .u32 (((a * 4294967296 + c) / y:Nat):Int),.int .u32 (((a * 4294967296 + c) % y:Nat):Int)]∧Mod [] w w'):=by
 have hq:(a * 4294967296 + c) / y<4294967296:=by rw [Nat.div_lt_iff_lt_mul (by omega)]; omega
 have hr:(a * 4294967296 + c) % y<y:=Nat.mod_lt _ (by omega)
 refine Ret.of (vs:=[.int .u32 (a:Int),.int .u32 (c:Int),.int .u32 (y:Int)]) (n:=33) Tryz.func120 rfl rfl rfl rfl ?_
 have hm0:Mod [] w w:=Mod.refl _ _
 refine W.seq<|W.region<|L.a rfl rfl<|L.a rfl rfl<|L.nil<|X.seq<|W.seq<|W.seq<|W.region<|L.m rfl rfl<|L.v ((R1.ne rfl rfl).asB (c:=true) (by simp; omega)) rfl ?_
 refine L.m rfl rfl<|L.on rfl rfl rfl (R1.move rfl) rfl<|L.on rfl rfl rfl (R1.move rfl) rfl<|L.on rfl rfl rfl ((R1.le rfl rfl).asB (c:=false) (by simp; omega)) rfl<|L.v (R1.pickT rfl rfl) rfl<|L.nil<|X.seq<|W.condF rfl<|W.skip<|X.seq<|W.seq ?_
 refine W.region<|L.m rfl rfl<|L.v (R1.convWL rfl tyI67 tyI64 (by omega)) rfl<|L.v (R1.shl32 rfl rfl (by omega)) rfl<|L.m rfl rfl<|L.v (R1.convWL rfl tyI67 tyI64 (by omega)) rfl<|L.v ((R1.orL rfl rfl (by omega) (by omega)).as (j:=(((a * 4294967296 + c):Nat):Int)) (congrArg (fun n:Nat=>(n:Int)) (or32 hc))) rfl<|L.a rfl rfl<|L.nil<|X.seq<|W.seq ?_
 refine W.drawW (T:=[]) rfl (by decide +kernel) (NoHang.then NoHang.post) (fun w1 hm1=>?_)
 replace hm0:=hm0.trans hm1
 have hS1:Mod [] w1 w1:=Mod.refl _ _
 clear hm1
 refine D.m 0 rfl (by kernel_rfl) rfl hS1 rfl<|D.m 1 rfl (by kernel_rfl) rfl hS1 rfl<|D.take 2 rfl (by kernel_rfl) (fun w_ hS=>(R1.convWL rfl tyI67 tyI64 (by omega))) hS1 rfl<|D.take 3 rfl (by kernel_rfl) (fun w_ hS=>(R1.quoL rfl rfl (by omega) (by omega))) hS1 rfl<|D.take 4 rfl (by kernel_rfl) (fun w_ hS=>((R1.convLW rfl tyI64 tyI67).as (j:=(((a * 4294967296 + c) / y:Nat):Int)) (by rw [Nat.mod_eq_of_lt hq]))) hS1 rfl<|D.m 5 rfl (by kernel_rfl) rfl hS1 rfl<|D.m 6 rfl (by kernel_rfl) rfl hS1 rfl<|D.take 7 rfl (by kernel_rfl) (fun w_ hS=>(R1.convWL rfl tyI67 tyI64 (by omega))) hS1 rfl<|D.take 8 rfl (by kernel_rfl) (fun w_ hS=>(R1.remL rfl rfl (by omega))) hS1 rfl<|D.take 9 rfl (by kernel_rfl) (fun w_ hS=>((R1.convLW rfl tyI64 tyI67).as (j:=(((a * 4294967296 + c) % y:Nat):Int)) (by rw [Nat.mod_eq_of_lt (show (a * 4294967296 + c) % y<4294967296 by omega)]))) hS1 rfl<|D.take 10 rfl (by kernel_rfl) (fun w_ hS=>(R1.assign rfl)) hS1 rfl ?_
 refine D.take 11 rfl (by kernel_rfl) (fun w_ hS=>(R1.assign rfl)) hS1 rfl<|D.done (by decide +kernel) ?_ _
 refine X.seq<|W.ret<|X.result2 rfl (.tmp rfl (.tmp rfl .nil)) ?_
 exact ⟨rfl,hm0⟩
theorem c_nat_Sub {M : List Nat} {w : World} {va vb : Value} {xs ys : List Nat} (h : U32 M w va xs) (k : U32 M w vb ys) (hbd : Bd M w) (hl1 : xs.length ≤ 1099511627776) (hl2 : ys.length ≤ 1099511627776) (hge : val ys ≤ val xs) :
    Ret Tryz.prog 107 #[va,vb] w (fun r w'=>∃ v,r=.tuple #[v,.bool true]∧U32 M w' v (toL (val xs - val ys))∧Mod [] w w'):=by
 have hbd0:=hbd;have hla:=toL_len_40 h.2 hl1;have hlb:=toL_len_mono hge
 refine Ret.of (vs:=[va,vb]) (n:=50) Tryz.func107 rfl rfl rfl rfl ?_
 have hm0:Mod [] w w:=Mod.refl _ _
 refine W.seq<|W.region<|L.a rfl rfl<|L.a rfl rfl<|L.nil<|X.seq<|W.seq<|W.seq<|W.region<|L.m rfl rfl<|L.m rfl rfl ?_
 refine L.call rfl (c_nat_Cmp (by assumption) (by assumption)) rfl ?_
 rintro _ w1 ⟨rfl,hm1⟩
 replace h:=h.gr hm1;replace k:=k.gr hm1;replace hm0:=hm0.trans hm1;clear hm1
 refine L.v ((R1.lt rfl rfl).asB (c:=false) (by rw [cmpI_lt0]; simp; omega)) rfl<|L.nil<|X.seq<|W.condF rfl<|W.skip<|X.seq<|W.seq<|W.region<|L.m rfl rfl<|L.call rfl (c_nat_trim (by assumption)) rfl ?_
 rintro v16 w2 ⟨h16,hm2⟩
 replace h:=h.gr hm2;replace k:=k.gr hm2;replace hm0:=hm0.trans hm2;clear hm2
 refine L.m rfl rfl<|L.call rfl (c_nat_trim (by assumption)) rfl ?_
 rintro v18 w3 ⟨h18,hm3⟩
 replace h:=h.gr hm3;replace k:=k.gr hm3;replace hm0:=hm0.trans hm3;replace h16:=h16.gr hm3;clear hm3
 refine L.a rfl rfl<|L.a rfl rfl<|L.nil<|X.seq<|W.seq<|W.region<|L.m rfl rfl<|L.v (R1.lenU rfl (by assumption) tyS24) rfl<|L.makeSlice (m:=(toL (val xs)).length) rfl rfl rfl rfl tyS24 tyZ67 (by omega) (by unfold maxLen; omega) rfl ?_
 intro g21 w4 hN21
 replace h:=h.new hN21;replace k:=k.new hN21;have hge_g21:=New.ge hN21 hm0.size;replace hm0:=hm0.trans (hN21.mod.mono (by simp));replace h16:=h16.new hN21;replace h18:=h18.new hN21;have hb21:=hN21.blk;clear hN21
 rw [uarr_made] at hb21
 refine L.a rfl rfl<|L.nil<|X.seq<|W.seq<|W.region<|L.a rfl rfl<|L.nil<|X.seq<|W.seq<|W.seq<|W.region ?_
 refine L.m rfl rfl<|L.v (R1.lenU rfl (by assumption) tyS24) rfl<|L.m rfl rfl<|L.nil<|X.seq<|W.block<|W.loop (ι:=Nat × Nat × List Nat) (fun (k,bw,cs)=>[(0,v16),(1,v18),(6,.slice (some ⟨g21,0,none⟩) (toL (val xs)).length (toL (val xs)).length),(7,.int .u32 (bw:Int)),(22,v16),(23,.int .i64 ((toL (val xs)).length:Int)),(24,.int .i64 (k:Int))]) (fun (k,bw,cs) w_=>k≤(toL (val xs)).length∧cs.length=(toL (val xs)).length∧(∀ x∈cs,x<4294967296)∧bw≤1∧val ((toL (val xs)).take k) + 4294967296 ^ k * bw=val (cs.take k) + val ((toL (val ys)).take k)∧Blk w_ g21 67 (uarr cs)∧U32 (g21 :: M) w_ v16 (toL (val xs))∧U32 (g21 :: M) w_ v18 (toL (val ys))∧Mod [] w w_) (fun (k,bw,cs)=>(toL (val xs)).length - k) (0,0,List.replicate (toL (val xs)).length 0) ?_ ?_ ?_
 · exact ⟨rfl,rfl,rfl,rfl,rfl,rfl,rfl,trivial⟩
 ·
  exact ⟨Nat.zero_le _,by simp,rep_lt _,by omega,by simp [val],hb21,h16,h18,hm0⟩
 rintro ⟨k,bw,cs⟩ w5 ⟨hk,hcl,hcx,hbw,hv,hb21,h16,h18,hm0⟩
 refine W.seq<|W.region<|L.v (R1.lt rfl rfl) rfl<|L.nil<|X.seq<|W.seq<|W.cond rfl ?_ ?_
 ·
  intro hc25
  try simp only [bq,ne_eq] at hc25
  have hk1:k<(toL (val xs)).length:=by omega
  have hak:=h16.lt hk1
  refine W.skip<|X.seq<|W.seq<|W.block<|W.seq<|W.region<|L.m rfl rfl<|L.v (R1.atU (j:=k) rfl rfl (by assumption) tyS24 rfl (by omega)) rfl<|L.v (R1.ldU rfl (by assumption) tyP67 (by omega) rfl) rfl<|L.a rfl rfl<|L.a rfl rfl ?_
  refine L.nil<|X.seq<|W.seq<|W.region<|L.a rfl rfl<|L.nil<|X.seq<|W.seq<|W.seq<|W.region<|L.m rfl rfl ?_
  refine L.m rfl rfl<|L.v (R1.lenU rfl (by assumption) tyS24) rfl<|L.v (R1.lt rfl rfl) rfl<|L.nil<|X.seq<|W.cut (ι:=Nat) (fun y=>[(0,v16),(1,v18),(6,.slice (some ⟨g21,0,none⟩) (toL (val xs)).length (toL (val xs)).length),(7,.int .u32 (bw:Int)),(8,.int .i64 (k:Int)),(9,.int .u32 (((toL (val xs))[k]:Nat):Int)),(10,.int .u32 (y:Int)),(22,v16),(23,.int .i64 ((toL (val xs)).length:Int)),(24,.int .i64 (k:Int))]) (fun y w_=>y<4294967296∧y=(toL (val ys)).getD k 0∧Blk w_ g21 67 (uarr cs)∧U32 (g21 :: M) w_ v16 (toL (val xs))∧U32 (g21 :: M) w_ v18 (toL (val ys))∧Mod [] w w_) ?_ ?_
  ·
   refine W.cond rfl ?_ ?_
   ·
    intro hc32
    try simp only [bq,ne_eq] at hc32
    have hk2:k<(toL (val ys)).length:=by omega
    refine W.region<|L.m rfl rfl<|L.m rfl rfl<|L.v (R1.atU (j:=k) rfl rfl (by assumption) tyS24 rfl (by omega)) rfl<|L.v (R1.ldU rfl (by assumption) tyP67 (by omega) rfl) rfl<|L.a rfl rfl<|L.nil<|X.join (toL (val ys))[k] ?_ ?_
    · exact ⟨rfl,rfl,rfl,rfl,rfl,rfl,rfl,rfl,rfl,rfl,trivial⟩
    exact ⟨h18.lt hk2,by simp [hk2],hb21,h16,h18,hm0⟩
   intro hc32
   try simp only [bq,ne_eq] at hc32
   refine W.skip<|X.join 0 ?_ ?_
   · exact ⟨rfl,rfl,rfl,rfl,rfl,rfl,rfl,rfl,rfl,rfl,trivial⟩
   exact ⟨by decide,by simp [List.getD_eq_getElem?_getD,List.getElem?_eq_none (show (toL (val ys)).length≤k by omega)],hb21,h16,h18,hm0⟩
  rintro y wk ⟨hyk,hy,hb21,h16,h18,hm0⟩
  refine X.seq<|W.region<|L.m rfl rfl<|L.m rfl rfl<|L.m rfl rfl<|L.m rfl rfl<|L.m rfl rfl<|L.call rfl (c_Sub32 hak hyk hbw) rfl ?_
  rintro _ w6 ⟨rfl,hm6⟩
  replace hb21:=Blk.gr hb21 hm6;replace h16:=h16.gr hm6;replace h18:=h18.gr hm6;replace hm0:=hm0.trans hm6;clear hm6
  refine L.m rfl rfl<|L.v (R1.extract rfl rfl) rfl<|L.v (R1.extract rfl rfl) rfl<|L.v (R1.atO (j:=k) rfl rfl tyS24 rfl (by omega)) rfl<|L.storeU rfl rfl hb21 (by omega) tyP67 ?_
  intro w7 hb21' hm7
  replace h16:=h16.mod hm7 (by simp);replace h18:=h18.mod hm7 (by simp);replace hm0:=hm0.old1 hm7 hge_g21;clear hm7;replace hb21:=hb21'; clear hb21'
  refine L.a rfl rfl<|L.nil<|X.blockEnd<|X.seq<|W.region<|L.v (R1.addI (b:=1) rfl rfl (by omega)) rfl<|L.m rfl rfl<|L.nil<|X.next (k + 1,subB (toL (val xs))[k] y bw,cs.set k (subW (toL (val xs))[k] y bw)) ?_ ?_ ?_
  · exact ⟨rfl,rfl,rfl,rfl,rfl,rfl,rfl,trivial⟩
  ·
   refine ⟨by omega,by simpa using hcl,set_lt hcx (subW_lt _ _ _),subB_le _ _ _,?_,hb21,h16,h18,hm0⟩
   rw [val_take_set (by omega),val_take_succ hk1,val_take_succD (toL (val ys)),pow_LB_succ,← hy]
   exact sub_step hv (subW_eq hak hyk hbw)
  first | omega | (dsimp only; omega)
 intro hc25
 try simp only [bq,ne_eq] at hc25
 obtain rfl:k=(toL (val xs)).length:=by omega
 rw [List.take_length,val_take_all hlb,val_take_all (by omega),val_toL,val_toL] at hv
 refine W.exit<|X.thenExit<|X.nextExit<|X.here<|X.seq<|W.seq ?_
 have hU:U32 M w5 (.slice (some ⟨g21,0,none⟩) (toL (val xs)).length (toL (val xs)).length) cs:=by
     have hU:=U32.of_blk (M:=M) hb21 (hbd0.not hge_g21) (by unfold maxLen; omega) hcx
     rw [hcl] at hU; exact hU
 refine W.region<|L.m rfl rfl<|L.call rfl (c_nat_trim hU) rfl ?_
 rintro v49 w8 ⟨h49,hm8⟩
 replace hm0:=hm0.trans hm8;clear hm8
 refine L.a rfl rfl<|L.a rfl rfl<|L.nil<|X.seq<|W.ret<|X.result2 rfl (.tmp rfl (.tmp rfl .nil))<|⟨_,rfl,?_,hm0⟩
 have hc:=val_lt cs hcx
 rw [hcl] at hc
 rw [sub_end hv hbw hc hge] at h49
 exact h49
theorem c_nat_Sub0 {M : List Nat} {w : World} {va vb : Value} {xs ys : List Nat} (h : U32 M w va xs) (k : U32 M w vb ys) (hlt : val xs < val ys) :
    Ret Tryz.prog 107 #[va,vb] w (fun r w'=>r=.tuple #[.slice none 0 0,.bool false]∧Mod [] w w'):=by
 refine Ret.of (vs:=[va,vb]) (n:=50) Tryz.func107 rfl rfl rfl rfl ?_
 have hm0:Mod [] w w:=Mod.refl _ _
 refine W.seq<|W.region<|L.a rfl rfl<|L.a rfl rfl<|L.nil<|X.seq<|W.seq<|W.seq<|W.region<|L.m rfl rfl<|L.m rfl rfl ?_
 refine L.call rfl (c_nat_Cmp (by assumption) (by assumption)) rfl ?_
 rintro _ w1 ⟨rfl,hm1⟩
 replace hm0:=hm0.trans hm1;clear hm1
 refine L.v ((R1.lt rfl rfl).asB (c:=true) (by rw [cmpI_lt0]; simp; omega)) rfl<|L.nil<|X.seq<|W.condT rfl<|W.seq<|W.region<|L.a rfl rfl<|L.a rfl rfl<|L.nil<|X.seq<|W.ret ?_
 refine X.thenRet<|X.result2 rfl (.tmp rfl (.tmp rfl .nil)) ?_
 exact ⟨rfl,hm0⟩
theorem c_nat_Mul {M : List Nat} {w : World} {va vb : Value} {xs ys : List Nat} (h : U32 M w va xs) (k : U32 M w vb ys) (hbd : Bd M w) (hl1 : xs.length ≤ 1099511627776) (hl2 : ys.length ≤ 1099511627776) :
    Ret Tryz.prog 105 #[va,vb] w (fun r w'=>U32 M w' r (toL (val xs * val ys))∧Mod [] w w'):=by
 have hbd0:=hbd;have hla:=toL_len_40 h.2 hl1;have hlb:=toL_len_40 k.2 hl2
 refine Ret.of (vs:=[va,vb]) (n:=71) Tryz.func105 rfl rfl rfl rfl ?_
 have hm0:Mod [] w w:=Mod.refl _ _
 refine W.seq<|W.region<|L.a rfl rfl<|L.nil<|X.seq<|W.seq<|W.region<|L.m rfl rfl<|L.call rfl (c_nat_trim (by assumption)) rfl ?_
 rintro v12 w1 ⟨h12,hm1⟩
 replace h:=h.gr hm1;replace k:=k.gr hm1;replace hm0:=hm0.trans hm1;clear hm1
 refine L.m rfl rfl<|L.call rfl (c_nat_trim (by assumption)) rfl ?_
 rintro v14 w2 ⟨h14,hm2⟩
 replace h:=h.gr hm2;replace k:=k.gr hm2;replace hm0:=hm0.trans hm2;replace h12:=h12.gr hm2;clear hm2
 refine L.a rfl rfl<|L.a rfl rfl<|L.nil<|X.seq<|W.seq<|W.region<|L.m rfl rfl<|L.v (R1.lenU rfl (by assumption) tyS24) rfl<|L.m rfl rfl<|L.v (R1.lenU rfl (by assumption) tyS24) rfl<|L.v (R1.addI rfl rfl (by omega)) rfl ?_
 refine L.makeSlice (m:=((toL (val xs)).length + (toL (val ys)).length)) rfl rfl rfl rfl tyS24 tyZ67 (by omega) (by unfold maxLen; omega) rfl ?_
 intro g20 w3 hN20
 replace h:=h.new hN20;replace k:=k.new hN20;have hge_g20:=New.ge hN20 hm0.size;replace hm0:=hm0.trans (hN20.mod.mono (by simp));replace h12:=h12.new hN20;replace h14:=h14.new hN20;have hb20:=hN20.blk;clear hN20
 rw [uarr_made] at hb20
 refine L.a rfl rfl<|L.nil<|X.seq<|W.seq<|W.seq<|W.region<|L.m rfl rfl<|L.v (R1.lenU rfl (by assumption) tyS24) rfl<|L.m rfl rfl<|L.nil<|X.seq ?_
 refine W.block<|W.loop (ι:=Nat × List Nat) (fun (i,cs)=>[(0,v12),(1,v14),(5,.slice (some ⟨g20,0,none⟩) ((toL (val xs)).length + (toL (val ys)).length) ((toL (val xs)).length + (toL (val ys)).length)),(21,v12),(22,.int .i64 ((toL (val xs)).length:Int)),(23,.int .i64 (i:Int))]) (fun (i,cs) w_=>i≤(toL (val xs)).length∧cs.length=(toL (val xs)).length + (toL (val ys)).length∧(∀ x∈cs,x<4294967296)∧val cs=val ((toL (val xs)).take i) * val (toL (val ys))∧(∀ j (hj:j<cs.length),i + (toL (val ys)).length≤j→cs[j]=0)∧Blk w_ g20 67 (uarr cs)∧U32 (g20 :: M) w_ v12 (toL (val xs))∧U32 (g20 :: M) w_ v14 (toL (val ys))∧Mod [] w w_) (fun (i,cs)=>(toL (val xs)).length - i) (0,List.replicate ((toL (val xs)).length + (toL (val ys)).length) 0) ?_ ?_ ?_
 · exact ⟨rfl,rfl,rfl,rfl,rfl,rfl,trivial⟩
 ·
  exact ⟨Nat.zero_le _,by simp,rep_lt _,by simp [val,val_replicate],by simp,hb20,h12,h14,hm0⟩
 rintro ⟨i,cs0⟩ w4 ⟨hi,hcl,hcx,hv,hz,hb20,h12,h14,hm0⟩
 refine W.seq<|W.region<|L.v (R1.lt rfl rfl) rfl<|L.nil<|X.seq<|W.seq<|W.cond rfl ?_ ?_
 ·
  intro hc24
  try simp only [bq,ne_eq] at hc24
  have hi1:i<(toL (val xs)).length:=by omega
  have hai:=h12.lt hi1
  refine W.skip<|X.seq<|W.seq<|W.block<|W.seq<|W.region<|L.m rfl rfl<|L.v (R1.atU (j:=i) rfl rfl (by assumption) tyS24 rfl (by omega)) rfl<|L.v (R1.ldU rfl (by assumption) tyP67 (by omega) rfl) rfl<|L.a rfl rfl<|L.a rfl rfl ?_
  refine L.nil<|X.seq<|W.seq<|W.region<|L.a rfl rfl<|L.nil<|X.seq<|W.seq<|W.seq<|W.region<|L.m rfl rfl ?_
  refine L.v (R1.lenU rfl (by assumption) tyS24) rfl<|L.m rfl rfl<|L.nil<|X.seq<|W.block<|W.loop (ι:=Nat × Nat × List Nat) (fun (k,cy,cs)=>[(0,v12),(1,v14),(5,.slice (some ⟨g20,0,none⟩) ((toL (val xs)).length + (toL (val ys)).length) ((toL (val xs)).length + (toL (val ys)).length)),(6,.int .i64 (i:Int)),(7,.int .u32 (((toL (val xs))[i]:Nat):Int)),(8,.int .u64 (cy:Int)),(21,v12),(22,.int .i64 ((toL (val xs)).length:Int)),(23,.int .i64 (i:Int)),(28,v14),(29,.int .i64 ((toL (val ys)).length:Int)),(30,.int .i64 (k:Int))]) (fun (k,cy,cs) w_=>k≤(toL (val ys)).length∧cs.length=(toL (val xs)).length + (toL (val ys)).length∧(∀ x∈cs,x<4294967296)∧cy<4294967296∧val cs + 4294967296 ^ i * 4294967296 ^ k * cy=val cs0 + 4294967296 ^ i * ((toL (val xs))[i] * val ((toL (val ys)).take k))∧(∀ j (hj:j<cs.length),i + (toL (val ys)).length≤j→cs[j]=0)∧Blk w_ g20 67 (uarr cs)∧U32 (g20 :: M) w_ v12 (toL (val xs))∧U32 (g20 :: M) w_ v14 (toL (val ys))∧Mod [] w w_) (fun (k,cy,cs)=>(toL (val ys)).length - k) (0,0,cs0) ?_ ?_ ?_
  · exact ⟨rfl,rfl,rfl,rfl,rfl,rfl,rfl,rfl,rfl,rfl,rfl,rfl,trivial⟩
  ·
   exact ⟨Nat.zero_le _,hcl,hcx,by decide,by simp [val],hz,hb20,h12,h14,hm0⟩
  rintro ⟨k,cy,cs⟩ w5 ⟨hk,hcl2,hcx2,hcy,hv2,hz2,hb20,h12,h14,hm0⟩
  refine W.seq<|W.region<|L.v (R1.lt rfl rfl) rfl<|L.nil<|X.seq<|W.seq<|W.cond rfl ?_ ?_
  ·
   intro hc31
   try simp only [bq,ne_eq] at hc31
   have hk1:k<(toL (val ys)).length:=by omega
   have hbk:=h14.lt hk1;have hab:=limb_mul hai hbk;have hck:=hcx2 _ (List.getElem_mem (show i + k<cs.length by omega))
   refine W.skip<|X.seq<|W.seq<|W.block<|W.seq<|W.region<|L.m rfl rfl<|L.v (R1.atU (j:=k) rfl rfl (by assumption) tyS24 rfl (by omega)) rfl<|L.v (R1.ldU rfl (by assumption) tyP67 (by omega) rfl) rfl<|L.a rfl rfl<|L.a rfl rfl ?_
   refine L.nil<|X.seq<|W.seq<|W.region<|L.m rfl rfl<|L.m rfl rfl<|L.v (R1.convWL rfl tyI67 tyI64 (by omega)) rfl<|L.m rfl rfl<|L.v (R1.convWL rfl tyI67 tyI64 (by omega)) rfl<|L.v (R1.mulL rfl rfl (by omega)) rfl<|L.m rfl rfl ?_
   refine L.m rfl rfl<|L.m rfl rfl<|L.v (R1.addI rfl rfl (by omega)) rfl<|L.v (R1.atO (j:=(i + k)) rfl rfl tyS24 rfl (by omega)) rfl<|L.v (R1.ldO rfl (by assumption) (by omega) tyP67 rfl) rfl<|L.v (R1.convWL rfl tyI67 tyI64 (by omega)) rfl<|L.v (R1.addL rfl rfl (by omega)) rfl<|L.v (R1.addL rfl rfl (by omega)) rfl<|L.a rfl rfl<|L.nil<|X.seq ?_
   refine W.seq<|W.region<|L.m rfl rfl<|L.m rfl rfl<|L.m rfl rfl<|L.v (R1.addI rfl rfl (by omega)) rfl<|L.m rfl rfl<|L.v (R1.convLW rfl tyI64 tyI67) rfl<|L.v (R1.atO (j:=(i + k)) rfl rfl tyS24 rfl (by omega)) rfl<|L.storeU rfl rfl hb20 (by omega) tyP67 ?_
   intro w6 hb20' hm6
   replace h12:=h12.mod hm6 (by simp);replace h14:=h14.mod hm6 (by simp);replace hm0:=hm0.old1 hm6 hge_g20;clear hm6;replace hb20:=hb20'; clear hb20'
   refine L.nil<|X.seq<|W.region<|L.m rfl rfl<|L.v (R1.shr32 rfl rfl) rfl<|L.a rfl rfl<|L.nil<|X.blockEnd<|X.seq<|W.region<|L.v (R1.addI (b:=1) rfl rfl (by omega)) rfl ?_
   refine L.m rfl rfl<|L.nil<|X.next (k + 1,(cy + ((toL (val xs))[i] * (toL (val ys))[k] + cs[i + k])) / 4294967296,cs.set (i + k) ((cy + ((toL (val xs))[i] * (toL (val ys))[k] + cs[i + k])) % 4294967296)) ?_ ?_ ?_
   · exact ⟨rfl,rfl,rfl,rfl,rfl,rfl,rfl,rfl,rfl,rfl,rfl,rfl,trivial⟩
   ·
    refine ⟨by omega,by simpa using hcl2,set_lt hcx2 (Nat.mod_lt _ (by decide)),by omega,?_,?_,hb20,h12,h14,hm0⟩
    · have e1:=val_set (xs:=cs) (j:=i + k) (by omega) ((cy + ((toL (val xs))[i] * (toL (val ys))[k] + cs[i + k])) % 4294967296)
      rw [Nat.pow_add] at e1
      rw [val_take_succ hk1,pow_LB_succ,show 4294967296 ^ i * (4294967296 * 4294967296 ^ k)=4294967296 * (4294967296 ^ i * 4294967296 ^ k) by rw [Nat.mul_left_comm]]
      exact mul_step e1 hv2 rfl
    intro j hj hle
    rw [List.getElem_set_ne (by omega)]
    exact hz2 _ (by simpa using hj) (by omega)
   first | omega | (dsimp only; omega)
  intro hc31
  try simp only [bq,ne_eq] at hc31
  obtain rfl:k=(toL (val ys)).length:=by omega
  rw [List.take_length] at hv2
  refine W.exit<|X.thenExit<|X.nextExit<|X.here<|X.seq ?_
  rw [← Nat.pow_add] at hv2
  refine W.region<|L.m rfl rfl<|L.m rfl rfl<|L.m rfl rfl<|L.v (R1.lenU rfl (by assumption) tyS24) rfl<|L.v (R1.addI rfl rfl (by omega)) rfl<|L.m rfl rfl<|L.v (R1.convLW rfl tyI64 tyI67) rfl<|L.v (R1.atO (j:=(i + (toL (val ys)).length)) rfl rfl tyS24 rfl (by omega)) rfl<|L.storeU rfl rfl hb20 (by omega) tyP67 ?_
  intro w7 hb20' hm7
  replace h12:=h12.mod hm7 (by simp);replace h14:=h14.mod hm7 (by simp);replace hm0:=hm0.old1 hm7 hge_g20;clear hm7;replace hb20:=hb20'; clear hb20'
  refine L.nil<|X.blockEnd<|X.seq<|W.region<|L.v (R1.addI (b:=1) rfl rfl (by omega)) rfl<|L.m rfl rfl<|L.nil<|X.next (i + 1,cs.set (i + (toL (val ys)).length) (cy % 4294967296)) ?_ ?_ ?_
  · exact ⟨rfl,rfl,rfl,rfl,rfl,rfl,trivial⟩
  ·
   refine ⟨by omega,by simpa using hcl2,set_lt hcx2 (Nat.mod_lt _ (by decide)),?_,?_,hb20,h12,h14,hm0⟩
   · have e1:=val_set (xs:=cs) (j:=i + (toL (val ys)).length) (by omega) (cy % 4294967296)
     rw [hz2 _ (by omega) (Nat.le_refl _),Nat.mod_eq_of_lt hcy,Nat.mul_zero,Nat.add_zero] at e1
     rw [Nat.mod_eq_of_lt hcy,val_take_succ hi1]
     exact mul_end e1 hv2 hv
   intro j hj hle
   rw [List.getElem_set_ne (by omega)]
   exact hz2 _ (by simpa using hj) (by omega)
  first | omega | (dsimp only; omega)
 intro hc24
 try simp only [bq,ne_eq] at hc24
 obtain rfl:i=(toL (val xs)).length:=by omega
 rw [List.take_length,val_toL,val_toL] at hv
 refine W.exit<|X.thenExit<|X.nextExit<|X.here<|X.seq<|W.seq ?_
 have hU:U32 M w4 (.slice (some ⟨g20,0,none⟩) ((toL (val xs)).length + (toL (val ys)).length) ((toL (val xs)).length + (toL (val ys)).length)) cs0:=by
     have hU:=U32.of_blk (M:=M) hb20 (hbd0.not hge_g20) (by unfold maxLen; omega) hcx
     rw [hcl] at hU; exact hU
 refine W.region<|L.m rfl rfl<|L.call rfl (c_nat_trim hU) rfl ?_
 rintro v70 w8 ⟨h70,hm8⟩
 replace hm0:=hm0.trans hm8;clear hm8
 refine L.a rfl rfl<|L.nil<|X.seq<|W.ret<|X.result1 rfl (.tmp rfl .nil) ?_
 exact ⟨by rw [hv] at h70; exact h70,hm0⟩
theorem c_nat_small {M : List Nat} {w : World} {va : Value} {xs : List Nat} {b : Nat} (h : U32 M w va xs) (hb0 : 0 < b) (hb : b < 4294967296) (hbd : Bd M w) (hl : xs.length ≤ 1099511627776) :
    Ret Tryz.prog 114 #[va,.int .u32 (b:Int)] w (fun r w'=>∃ v,r=.tuple #[v,.int .u32 ((val xs % b:Nat):Int)]∧U32 M w' v (toL (val xs / b))∧Mod [] w w'):=by
 have hbd0:=hbd
 refine Ret.of (vs:=[va,.int .u32 (b:Int)]) (n:=35) Tryz.func114 rfl rfl rfl rfl ?_
 have hm0:Mod [] w w:=Mod.refl _ _
 refine W.seq<|W.region<|L.a rfl rfl<|L.a rfl rfl<|L.nil<|X.seq<|W.seq<|W.region<|L.m rfl rfl<|L.v (R1.lenU rfl (by assumption) tyS24) rfl<|L.makeSlice (m:=xs.length) rfl rfl rfl rfl tyS24 tyZ67 (by omega) (by unfold maxLen; omega) rfl ?_
 intro g11 w1 hN11
 replace h:=h.new hN11;have hge_g11:=New.ge hN11 hm0.size;replace hm0:=hm0.trans (hN11.mod.mono (by simp));have hb11:=hN11.blk;clear hN11
 rw [uarr_made] at hb11
 refine L.a rfl rfl<|L.nil<|X.seq<|W.seq<|W.region<|L.a rfl rfl<|L.nil<|X.seq<|W.seq<|W.seq<|W.region ?_
 refine L.m rfl rfl<|L.v (R1.lenU rfl (by assumption) tyS24) rfl<|L.v ((R1.sub rfl rfl).as (wrap_i64 (by omega) (by omega))) rfl<|L.a rfl rfl<|L.nil<|X.seq<|W.block<|W.loop (ι:=Nat × Nat × List Nat) (fun (m,r,q)=>[(0,va),(1,.int .u32 (b:Int)),(6,.slice (some ⟨g11,0,none⟩) xs.length xs.length),(7,.int .u32 (r:Int)),(8,.int .i64 ((m:Int) - 1))]) (fun (m,r,q) w_=>m≤xs.length∧q.length=xs.length∧(∀ x∈q,x<4294967296)∧r<b∧val (xs.drop m)=b * val (q.drop m) + r∧Blk w_ g11 67 (uarr q)∧U32 (g11 :: M) w_ va xs∧Mod [] w w_) (fun (m,r,q)=>m) (xs.length,0,List.replicate xs.length 0) ?_ ?_ ?_
 · exact ⟨rfl,rfl,rfl,rfl,rfl,trivial⟩
 ·
  exact ⟨Nat.le_refl _,by simp,rep_lt _,hb0,by simp [val],hb11,h,hm0⟩
 rintro ⟨m,r,q⟩ w2 ⟨hm,hql,hqx,hr,hv,hb11,h,hm0⟩
 refine W.seq<|W.seq<|W.region<|L.m rfl rfl<|L.v (R1.ge rfl rfl) rfl<|L.nil<|X.seq<|W.cond rfl ?_ ?_
 ·
  intro hc16
  try simp only [bq,ne_eq] at hc16
  have hm1:0<m:=by omega
  have hxm:=h.lt (show m - 1<xs.length by omega)
  have hq:(r * 4294967296 + xs[m - 1]) / b<4294967296:=by rw [Nat.div_lt_iff_lt_mul (by omega)]; omega
  refine W.skip<|X.seq<|W.seq<|W.block<|W.region<|L.m rfl rfl<|L.m rfl rfl<|L.m rfl rfl<|L.m rfl rfl<|L.m rfl rfl<|L.v (R1.atU (j:=(m - 1)) rfl rfl (by assumption) tyS24 (by omega) (by omega)) rfl ?_
  refine L.v (R1.ldU rfl (by assumption) tyP67 (by omega) rfl) rfl<|L.m rfl rfl<|L.call rfl (c_Div32 hr (h.lt (show m - 1<xs.length by omega)) hb) rfl ?_
  rintro _ w3 ⟨rfl,hm3⟩
  replace hb11:=Blk.gr hb11 hm3;replace h:=h.gr hm3;replace hm0:=hm0.trans hm3;clear hm3
  refine L.m rfl rfl<|L.v (R1.extract rfl rfl) rfl<|L.v (R1.extract rfl rfl) rfl<|L.v (R1.atO (j:=(m - 1)) rfl rfl tyS24 (by omega) (by omega)) rfl<|L.storeU rfl rfl hb11 (by omega) tyP67 ?_
  intro w4 hb11' hm4
  replace h:=h.mod hm4 (by simp);replace hm0:=hm0.old1 hm4 hge_g11;clear hm4;replace hb11:=hb11'; clear hb11'
  refine L.a rfl rfl<|L.nil<|X.blockEnd<|X.seq<|W.region<|L.m rfl rfl<|L.v ((R1.sub rfl rfl).as (j:=((m - 1:Nat):Int) - 1) (by rw [wrap_i64 (by omega) (by omega)]; omega)) rfl<|L.a rfl rfl<|L.nil<|X.next (m - 1,(r * 4294967296 + xs[m - 1]) % b,q.set (m - 1) ((r * 4294967296 + xs[m - 1]) / b)) ?_ ?_ ?_
  · exact ⟨rfl,rfl,rfl,rfl,rfl,trivial⟩
  ·
   refine ⟨by omega,by simpa using hql,set_lt hqx hq,Nat.mod_lt _ hb0,?_,hb11,h,hm0⟩
   rw [val_drop_set (by omega),val_drop_step (by omega),Nat.sub_add_cancel hm1]
   exact small_step hv rfl
  first | omega | (dsimp only; omega)
 intro hc16
 try simp only [bq,ne_eq] at hc16
 obtain rfl:m=0:=by omega
 rw [List.drop_zero,List.drop_zero] at hv
 refine W.exit<|X.thenExit<|X.nextExit<|X.here<|X.seq<|W.seq ?_
 have hU:U32 M w2 (.slice (some ⟨g11,0,none⟩) xs.length xs.length) q:=by
     have hU:=U32.of_blk (M:=M) hb11 (hbd0.not hge_g11) (by unfold maxLen; omega) hqx
     rw [hql] at hU; exact hU
 refine W.region<|L.m rfl rfl<|L.call rfl (c_nat_trim hU) rfl ?_
 rintro v33 w5 ⟨h33,hm5⟩
 replace hm0:=hm0.trans hm5;clear hm5
 refine L.m rfl rfl<|L.a rfl rfl<|L.a rfl rfl<|L.nil<|X.seq<|W.ret<|X.result2 rfl (.tmp rfl (.tmp rfl .nil)) ?_
 have e1:val xs / b=val q:=by rw [hv,Nat.mul_add_div hb0,Nat.div_eq_of_lt hr,Nat.add_zero]
 have e2:val xs % b=r:=by rw [hv,Nat.mul_add_mod,Nat.mod_eq_of_lt hr]
 rw [e1,e2]
 exact ⟨_,rfl,h33,hm0⟩
end Go.Proofs.YtedokfpoajfflaaGreat
end
