/- Walks: what the functions compute. -/
import Derived.Test.YtedokfpoajfflaaGreatNat3
import Derived.Test.YtedokfpoajfflaaGreatNum3
namespace Go.Proofs.YtedokfpoajfflaaGreat
open Go.RowKit
set_option linter.unusedVariables false
set_option linter.unusedSimpArgs false
set_option maxRecDepth 10000
theorem U32one {xs:List Nat}:∀ c∈xs.map (fun (x:Nat)=>Value.int .u32 (x:Int)),c.oneCell'=true:=by simp [Value.oneCell']
theorem c_r1_Trim {M N9 : List Nat} {w : World} {v : Value} {xs : List Nat} (h : U32 N9 w v xs) (hbd : Bd M w) (hl : xs.length ≤ 4398046511104) :
    Ret Tryz.prog 60 #[v] w (fun r w'=>U32 M w' r (toL (val xs))∧Mod [] w w'):=by
 have hx:=h.2;have hbd0:=hbd
 refine Ret.of (vs:=[v]) (n:=23) Tryz.func60 rfl rfl rfl rfl ?_
 have hm0:Mod [] w w:=Mod.refl _ _
 refine W.seq<|W.region<|L.a rfl rfl<|L.nil<|X.seq<|W.seq<|W.region<|L.m rfl rfl<|L.v (R1.lenU rfl (by assumption) tyS24) rfl<|L.a rfl rfl<|L.nil ?_
 refine X.seq<|W.seq<|W.block<|W.loop (ι:=Nat) (fun m=>[(0,v),(3,.int .i64 (m:Int))]) (fun m w_=>m≤xs.length∧val (xs.take m)=val xs∧U32 N9 w_ v xs∧Mod [] w w_) (fun m=>m) xs.length ?_ ?_ ?_
 · exact ⟨rfl,rfl,trivial⟩
 ·
  exact ⟨Nat.le_refl _,by rw [List.take_length],h,hm0⟩
 rintro m w1 ⟨hm,hv,h,hm0⟩
 refine W.seq<|W.seq<|W.region<|L.m rfl rfl<|L.v ((R1.gt rfl rfl).asB (c:=decide (0<m)) (by congr 1; apply propext; omega)) rfl<|L.m rfl rfl ?_
 cases hgd8:decide (0<m)
 ·
  try simp only [bq,ne_eq] at hgd8
  have hm00:m=0:=by omega
  have hres:xs.take m=toL (val xs):=by
      rw [hm00] at hv ⊢; exact take_trim0 hv
  refine L.off rfl rfl rfl rfl rfl<|L.off rfl rfl rfl rfl rfl<|L.off rfl rfl rfl rfl rfl<|L.off rfl rfl rfl rfl rfl<|L.off rfl rfl rfl rfl rfl<|L.off rfl rfl rfl rfl rfl<|L.v (R1.pickF rfl rfl) rfl<|L.nil<|X.seq<|W.condF rfl<|W.exit ?_
  refine X.thenExit<|X.nextExit<|X.here<|X.seq<|W.seq ?_
  obtain ⟨A,cap,rfl⟩:=h.form;have hcap:=h.1.capOf rfl
  refine W.region<|L.buildEmpty tyS24 rfl ?_
  intro g18 w2 hN18
  replace h:=h.new hN18;have hge_g18:=New.ge hN18 hm0.size;replace hm0:=hm0.trans (hN18.mod.mono (by simp));have hb18:=hN18.blk;clear hN18
  refine L.m rfl rfl<|L.m rfl rfl ?_
  have hcut:U32 (g18 :: N9) w2 (cutS A cap 0 m 1) (xs.take m):=by
      have h1:=h.1.cutH (k:=m) (by omega) rfl
      refine ⟨h1.congr (by simp; omega) (by simp [List.map_take]),fun x hx9=>hx x (List.mem_of_mem_take hx9)⟩
  refine L.v ((R1.sliceH rfl rfl tyS24 (by omega) (by omega)).asV (v:=cutS A cap 0 m 1) (by rw [Int.toNat_natCast])) rfl ?_
  have hlen:(xs.take m).length=m:=by rw [List.length_take]; omega
  have hown18:World.ownsRow w2 w.heap.size 67 1 (.slice (some ⟨g18,0,none⟩) 0 0) 0 []:=⟨rfl,.inr ⟨g18,0,#[],rfl,hge_g18,hb18,Nat.le_refl _,by decide,rfl,rfl⟩⟩
  clear hb18
  refine L.append rfl rfl hown18 hcut.1 U32one tyS24 tyZ67 (by omega) (by unfold maxLen; omega) hm0.size rfl ?_
  intro v22 w3 ho22' hG22
  replace hm0:=hm0.grew hG22 (fun g hg=>(own_ge hown18 g hg).1);clear hown18;have ho22:=ho22'; clear ho22';obtain ⟨A22,c22,rfl⟩:=own_form ho22
  refine L.a rfl rfl<|L.nil<|X.seq<|W.ret<|X.result1 rfl (.tmp rfl .nil)<|⟨?_,hm0⟩
  have hU:U32 M _ _ (xs.take m):=⟨(Sl.of_own (M:=M) ho22 (fun g hg=>hbd0.not (own_ge ho22 g hg).1)).congr (by omega) (by simp),fun x hx9=>hx x (List.mem_of_mem_take hx9)⟩
  rw [hres] at hU ⊢
  exact hU
 try simp only [bq,ne_eq] at hgd8
 refine L.on rfl rfl rfl (R1.move rfl) rfl<|L.on rfl rfl rfl (R1.move rfl) rfl<|L.on rfl rfl rfl (R1.subI (b:=1) rfl rfl (by omega) (by omega)) rfl<|L.on rfl rfl rfl (R1.atU (j:=(m - 1)) rfl rfl (by assumption) tyS24 rfl (by omega)) rfl<|L.on rfl rfl rfl (R1.ldU rfl (by assumption) tyP67 (by omega) rfl) rfl<|L.on rfl rfl rfl (R1.eq rfl rfl) rfl<|L.v (R1.pickT rfl rfl) rfl<|L.nil<|X.seq<|W.cond rfl ?_ ?_
 ·
  intro hc15
  try simp only [bq,ne_eq] at hc15
  refine W.skip<|X.seq<|W.block<|W.region<|L.m rfl rfl<|L.v (R1.subI (b:=1) rfl rfl (by omega) (by omega)) rfl<|L.a rfl rfl<|L.nil<|X.blockEnd<|X.next (m - 1) ?_ ?_ ?_
  · exact ⟨rfl,rfl,trivial⟩
  ·
   exact ⟨by omega,val_take_zero (by omega) (by omega) (by rw [Nat.sub_add_cancel hgd8]; exact hv),h,hm0⟩
  first | omega | (dsimp only; omega)
 intro hc15
 try simp only [bq,ne_eq] at hc15
 have hres:=take_trim hx hgd8 hm hv (by omega)
 refine W.exit<|X.thenExit<|X.nextExit<|X.here<|X.seq<|W.seq ?_
 obtain ⟨A,cap,rfl⟩:=h.form;have hcap:=h.1.capOf rfl
 refine W.region<|L.buildEmpty tyS24 rfl ?_
 intro g18 w4 hN18
 replace h:=h.new hN18;have hge_g18:=New.ge hN18 hm0.size;replace hm0:=hm0.trans (hN18.mod.mono (by simp));have hb18:=hN18.blk;clear hN18
 refine L.m rfl rfl<|L.m rfl rfl ?_
 have hcut:U32 (g18 :: N9) w4 (cutS A cap 0 m 1) (xs.take m):=by
     have h1:=h.1.cutH (k:=m) (by omega) rfl
     refine ⟨h1.congr (by simp; omega) (by simp [List.map_take]),fun x hx9=>hx x (List.mem_of_mem_take hx9)⟩
 refine L.v ((R1.sliceH rfl rfl tyS24 (by omega) (by omega)).asV (v:=cutS A cap 0 m 1) (by rw [Int.toNat_natCast])) rfl ?_
 have hlen:(xs.take m).length=m:=by rw [List.length_take]; omega
 have hown18:World.ownsRow w4 w.heap.size 67 1 (.slice (some ⟨g18,0,none⟩) 0 0) 0 []:=⟨rfl,.inr ⟨g18,0,#[],rfl,hge_g18,hb18,Nat.le_refl _,by decide,rfl,rfl⟩⟩
 clear hb18
 refine L.append rfl rfl hown18 hcut.1 U32one tyS24 tyZ67 (by omega) (by unfold maxLen; omega) hm0.size rfl ?_
 intro v22 w5 ho22' hG22
 replace hm0:=hm0.grew hG22 (fun g hg=>(own_ge hown18 g hg).1);clear hown18;have ho22:=ho22'; clear ho22';obtain ⟨A22,c22,rfl⟩:=own_form ho22
 refine L.a rfl rfl<|L.nil<|X.seq<|W.ret<|X.result1 rfl (.tmp rfl .nil)<|⟨?_,hm0⟩
 have hU:U32 M _ _ (xs.take m):=⟨(Sl.of_own (M:=M) ho22 (fun g hg=>hbd0.not (own_ge ho22 g hg).1)).congr (by omega) (by simp),fun x hx9=>hx x (List.mem_of_mem_take hx9)⟩
 rw [hres] at hU ⊢
 exact hU
theorem c_r1_Of {M : List Nat} {w : World} {n : Nat} (hn : n < 18446744073709551616) (hbd : Bd M w) :
    Ret Tryz.prog 30 #[.int .u64 (n:Int)] w (fun r w'=>U32 M w' r (toL n)∧Mod [] w w'):=by
 have hbd0:=hbd
 refine Ret.of (vs:=[.int .u64 (n:Int)]) (n:=10) Tryz.func30 rfl rfl rfl rfl ?_
 have hm0:Mod [] w w:=Mod.refl _ _
 refine W.seq<|W.region<|L.a rfl rfl<|L.nil<|X.seq<|W.seq<|W.region<|L.m rfl rfl<|L.v (R1.convLW rfl tyI64 tyI67) rfl<|L.m rfl rfl<|L.v (R1.shr32 rfl rfl) rfl ?_
 refine L.v (R1.convLW rfl tyI64 tyI67) rfl<|L.buildSlice (cells:=[.int .u32 ((n % 4294967296:Nat):Int),.int .u32 ((n / 4294967296 % 4294967296:Nat):Int)]) rfl tyS24 tyZ67 (fill2u _ _) (by decide) (by decide) rfl ?_
 intro g8 w1 hN8
 have hge_g8:=New.ge hN8 hm0.size;replace hm0:=hm0.trans (hN8.mod.mono (by simp));have hb8:=hN8.blk;clear hN8
 have hU:U32 M w1 (.slice (some ⟨g8,0,none⟩) 2 2) [n % 4294967296,n / 4294967296 % 4294967296]:=U32.of_blk (xs:=[n % 4294967296,n / 4294967296 % 4294967296]) hb8 (hbd0.not hge_g8) (by show (2:Nat)≤maxLen; decide) (by simp; omega)
 refine L.call rfl (c_r1_Trim hU (hbd0.gr hm0) (by show (2:Nat)≤4398046511104; decide)) rfl ?_
 rintro v9 w2 ⟨h9,hm2⟩
 replace hm0:=hm0.trans hm2;clear hm2
 refine L.a rfl rfl<|L.nil<|X.seq<|W.ret<|X.result1 rfl (.tmp rfl .nil) ?_
 exact ⟨by rw [val_two n hn] at h9; exact h9,hm0⟩
theorem c_r1_at {M : List Nat} {w : World} {v : Value} {xs : List Nat} (h : U32 M w v xs) {i : Nat} :
    Ret Tryz.prog 112 #[v,.int .i64 (i:Int)] w (fun r w'=>r=.int .u64 ((xs.getD i 0:Nat):Int)∧Mod [] w w'):=by
 have hx:=h.2
 refine Ret.of (vs:=[v,.int .i64 (i:Int)]) (n:=14) Tryz.func112 rfl rfl rfl rfl ?_
 have hm0:Mod [] w w:=Mod.refl _ _
 refine W.seq<|W.region<|L.a rfl rfl<|L.nil<|X.seq<|W.seq<|W.seq<|W.region<|L.m rfl rfl<|L.m rfl rfl<|L.v (R1.lenU rfl (by assumption) tyS24) rfl ?_
 refine L.v (R1.lt rfl rfl) rfl<|L.nil<|X.seq<|W.cond rfl ?_ ?_
 ·
  intro hc8
  try simp only [bq,ne_eq] at hc8
  have hi:i<xs.length:=by omega
  have hxi:=h.lt hi
  refine W.seq<|W.region<|L.m rfl rfl<|L.m rfl rfl<|L.v (R1.atU (j:=i) rfl rfl (by assumption) tyS24 rfl (by omega)) rfl<|L.v (R1.ldU rfl (by assumption) tyP67 (by omega) rfl) rfl<|L.v (R1.convWL rfl tyI67 tyI64 (by omega)) rfl<|L.a rfl rfl<|L.nil<|X.seq<|W.ret ?_
  refine X.thenRet<|X.result1 rfl (.tmp rfl .nil) ?_
  exact ⟨by rw [getD_of_lt hi],hm0⟩
 intro hc8
 try simp only [bq,ne_eq] at hc8
 have hi:xs.length≤i:=by omega
 refine W.skip<|X.seq<|W.seq<|W.region<|L.a rfl rfl<|L.nil<|X.seq<|W.ret<|X.result1 rfl (.tmp rfl .nil) ?_
 exact ⟨by rw [getD_of_ge hi]; rfl,hm0⟩
theorem c_r1_To1 {M : List Nat} {w : World} {v : Value} {xs : List Nat} (h : U32 M w v xs) (hbd : Bd M w) (hl : xs.length ≤ 4398046511104) (h2 : (toL (val xs)).length ≤ 2) :
    Ret Tryz.prog 88 #[v] w (fun r w'=>r=.tuple #[.int .u64 ((val xs:Nat):Int),.bool true]∧Mod [] w w'):=by
 refine Ret.of (vs:=[v]) (n:=28) Tryz.func88 rfl rfl rfl rfl ?_
 have hm0:Mod [] w w:=Mod.refl _ _
 refine W.seq<|W.region<|L.a rfl rfl<|L.a rfl rfl<|L.nil<|X.seq<|W.seq<|W.region<|L.m rfl rfl<|L.call rfl (c_r1_Trim (by assumption) (by assumption) (by omega)) rfl ?_
 rintro v8 w1 ⟨h8,hm1⟩
 replace h:=h.gr hm1;replace hbd:=hbd.gr hm1;replace hm0:=hm0.trans hm1;clear hm1
 refine L.a rfl rfl<|L.nil<|X.seq<|W.seq<|W.seq<|W.region<|L.m rfl rfl<|L.v (R1.lenU rfl (by assumption) tyS24) rfl<|L.v ((R1.gt rfl rfl).asB (c:=false) (by rw [decide_eq_false_iff_not]; omega)) rfl<|L.nil<|X.seq ?_
 refine W.condF rfl<|W.skip<|X.seq<|W.seq<|W.region<|L.a rfl rfl<|L.nil<|X.seq<|W.seq<|W.seq<|W.region ?_
 refine L.m rfl rfl<|L.v (R1.lenU rfl (by assumption) tyS24) rfl<|L.v ((R1.sub rfl rfl).as (wrap_i64 (by omega) (by omega))) rfl<|L.a rfl rfl<|L.nil<|X.seq<|W.block<|W.loop (ι:=Nat) (fun m=>[(4,v8),(5,.int .u64 ((val ((toL (val xs)).drop m):Nat):Int)),(6,.int .i64 ((m:Int) - 1))]) (fun m w_=>m≤(toL (val xs)).length∧U32 M w_ v8 (toL (val xs))∧Mod [] w w_) (fun m=>m) (toL (val xs)).length ?_ ?_ ?_
 · exact ⟨rfl,by rw [List.drop_length]; rfl,rfl,trivial⟩
 ·
  exact ⟨Nat.le_refl _,h8,hm0⟩
 rintro m w2 ⟨hm,h8,hm0⟩
 refine W.seq<|W.seq<|W.region<|L.m rfl rfl<|L.v (R1.ge rfl rfl) rfl<|L.nil<|X.seq<|W.cond rfl ?_ ?_
 ·
  intro hc16
  try simp only [bq,ne_eq] at hc16
  have hm1:0<m:=by omega
  have hds:=drop_small (m:=m) (toL_lt (val xs)) (by omega);have hxm:=h8.lt (show m - 1<(toL (val xs)).length by omega)
  refine W.skip<|X.seq<|W.seq<|W.block<|W.region<|L.m rfl rfl<|L.v (R1.shl32 rfl rfl hds) rfl<|L.m rfl rfl<|L.m rfl rfl<|L.v (R1.atU (j:=(m - 1)) rfl rfl (by assumption) tyS24 (by omega) (by omega)) rfl<|L.v (R1.ldU rfl (by assumption) tyP67 (by omega) rfl) rfl ?_
  refine L.v (R1.convWL rfl tyI67 tyI64 (by omega)) rfl<|L.v ((R1.orL rfl rfl (by omega) (by omega)).as (j:=((val ((toL (val xs)).drop m) * 4294967296 + (toL (val xs))[m - 1]:Nat):Int)) (congrArg (fun n:Nat=>(n:Int)) (or32 hxm))) rfl<|L.a rfl rfl<|L.nil<|X.blockEnd<|X.seq<|W.region<|L.m rfl rfl<|L.v ((R1.sub rfl rfl).as (j:=((m - 1:Nat):Int) - 1) (by rw [wrap_i64 (by omega) (by omega)]; omega)) rfl<|L.a rfl rfl<|L.nil ?_
  refine X.next (m - 1) ?_ ?_ ?_
  · exact ⟨rfl,by rw [to_step hm1 hm]; rfl,rfl,trivial⟩
  ·
   exact ⟨by omega,h8,hm0⟩
  first | omega | (dsimp only; omega)
 intro hc16
 try simp only [bq,ne_eq] at hc16
 obtain rfl:m=0:=by omega
 refine W.exit<|X.thenExit<|X.nextExit<|X.here<|X.seq<|W.seq<|W.region<|L.m rfl rfl<|L.a rfl rfl<|L.a rfl rfl<|L.nil ?_
 refine X.seq<|W.ret<|X.result2 rfl (.tmp rfl (.tmp rfl .nil)) ?_
 exact ⟨by rw [List.drop_zero,val_toL],hm0⟩
theorem c_r1_To0 {M : List Nat} {w : World} {v : Value} {xs : List Nat} (h : U32 M w v xs) (hbd : Bd M w) (hl : xs.length ≤ 4398046511104) (h2 : 2 < (toL (val xs)).length) :
    Ret Tryz.prog 88 #[v] w (fun r w'=>r=.tuple #[.int .u64 0,.bool false]∧Mod [] w w'):=by
 refine Ret.of (vs:=[v]) (n:=28) Tryz.func88 rfl rfl rfl rfl ?_
 have hm0:Mod [] w w:=Mod.refl _ _
 refine W.seq<|W.region<|L.a rfl rfl<|L.a rfl rfl<|L.nil<|X.seq<|W.seq<|W.region<|L.m rfl rfl<|L.call rfl (c_r1_Trim (by assumption) (by assumption) (by omega)) rfl ?_
 rintro v8 w1 ⟨h8,hm1⟩
 replace h:=h.gr hm1;replace hbd:=hbd.gr hm1;replace hm0:=hm0.trans hm1;clear hm1
 refine L.a rfl rfl<|L.nil<|X.seq<|W.seq<|W.seq<|W.region<|L.m rfl rfl<|L.v (R1.lenU rfl (by assumption) tyS24) rfl<|L.v ((R1.gt rfl rfl).asB (c:=true) (by rw [decide_eq_true_eq]; omega)) rfl<|L.nil<|X.seq ?_
 refine W.condT rfl<|W.seq<|W.region<|L.a rfl rfl<|L.a rfl rfl<|L.nil<|X.seq<|W.ret<|X.thenRet<|X.result2 rfl (.tmp rfl (.tmp rfl .nil)) ?_
 exact ⟨rfl,hm0⟩
theorem c_r1_Cmp {M : List Nat} {w : World} {va vb : Value} {xs ys : List Nat} (h : U32 M w va xs) (k : U32 M w vb ys) (hbd : Bd M w) (hl1 : xs.length ≤ 4398046511104) (hl2 : ys.length ≤ 4398046511104) :
    Ret Tryz.prog 92 #[va,vb] w (fun r w'=>r=.int .i64 (cmpI (val xs) (val ys))∧Mod [] w w'):=by
 refine Ret.of (vs:=[va,vb]) (n:=47) Tryz.func92 rfl rfl rfl rfl ?_
 have hm0:Mod [] w w:=Mod.refl _ _
 refine W.seq<|W.region<|L.a rfl rfl<|L.nil<|X.seq<|W.seq<|W.region<|L.m rfl rfl<|L.call rfl (c_r1_Trim (by assumption) (by assumption) (by omega)) rfl ?_
 rintro v9 w1 ⟨h9,hm1⟩
 replace h:=h.gr hm1;replace k:=k.gr hm1;replace hbd:=hbd.gr hm1;replace hm0:=hm0.trans hm1;clear hm1
 refine L.m rfl rfl<|L.call rfl (c_r1_Trim (by assumption) (by assumption) (by omega)) rfl ?_
 rintro v11 w2 ⟨h11,hm2⟩
 replace h:=h.gr hm2;replace k:=k.gr hm2;replace hbd:=hbd.gr hm2;replace hm0:=hm0.trans hm2;replace h9:=h9.gr hm2;clear hm2
 refine L.a rfl rfl<|L.a rfl rfl<|L.nil<|X.seq<|W.seq<|W.seq ?_
 have hma:=h9.1.max; unfold maxLen at hma;have hmb:=h11.1.max; unfold maxLen at hmb
 refine W.region<|L.m rfl rfl<|L.v (R1.lenU rfl (by assumption) tyS24) rfl<|L.m rfl rfl<|L.v (R1.lenU rfl (by assumption) tyS24) rfl<|L.v (R1.ne rfl rfl) rfl<|L.nil<|X.seq<|W.cond rfl ?_ ?_
 ·
  intro hc16
  try simp only [bq,ne_eq] at hc16
  refine W.seq<|W.seq<|W.region<|L.m rfl rfl<|L.v (R1.lenU rfl (by assumption) tyS24) rfl<|L.m rfl rfl<|L.v (R1.lenU rfl (by assumption) tyS24) rfl<|L.v (R1.lt rfl rfl) rfl<|L.nil<|X.seq<|W.cond rfl ?_ ?_
  ·
   intro hc21
   try simp only [bq,ne_eq] at hc21
   refine W.seq<|W.region<|L.a rfl rfl<|L.nil<|X.seq<|W.ret<|X.thenRet<|X.thenRet<|X.result1 rfl (.tmp rfl .nil) ?_
   exact ⟨by rw [cmpI_lt (lt_of_toL_len (by omega))],hm0⟩
  intro hc21
  try simp only [bq,ne_eq] at hc21
  refine W.skip<|X.seq<|W.seq<|W.region<|L.a rfl rfl<|L.nil<|X.seq<|W.ret<|X.thenRet<|X.result1 rfl (.tmp rfl .nil) ?_
  exact ⟨by rw [cmpI_gt (lt_of_toL_len (by omega))],hm0⟩
 intro hc16
 try simp only [bq,ne_eq] at hc16
 have hlen:(toL (val xs)).length=(toL (val ys)).length:=by omega
 refine W.skip<|X.seq<|W.seq<|W.seq<|W.region<|L.m rfl rfl<|L.v (R1.lenU rfl (by assumption) tyS24) rfl<|L.v ((R1.sub rfl rfl).as (wrap_i64 (by omega) (by omega))) rfl<|L.a rfl rfl<|L.nil<|X.seq ?_
 refine W.block<|W.loop (ι:=Nat) (fun m=>[(5,v9),(6,v11),(7,.int .i64 ((m:Int) - 1))]) (fun m w_=>m≤(toL (val xs)).length∧(toL (val xs)).drop m=(toL (val ys)).drop m∧U32 M w_ v9 (toL (val xs))∧U32 M w_ v11 (toL (val ys))∧Mod [] w w_) (fun m=>m) (toL (val xs)).length ?_ ?_ ?_
 · exact ⟨rfl,rfl,rfl,trivial⟩
 ·
  exact ⟨Nat.le_refl _,by rw [List.drop_of_length_le (Nat.le_refl _),List.drop_of_length_le (by omega)],h9,h11,hm0⟩
 rintro m w3 ⟨hm,hd,h9,h11,hm0⟩
 refine W.seq<|W.seq<|W.region<|L.m rfl rfl<|L.v (R1.ge rfl rfl) rfl<|L.nil<|X.seq<|W.cond rfl ?_ ?_
 ·
  intro hc26
  try simp only [bq,ne_eq] at hc26
  have hm1:0<m:=by omega
  refine W.skip<|X.seq<|W.seq<|W.block<|W.seq<|W.seq<|W.drawW (T:=[]) rfl (by decide +kernel) (NoHang.then (NoHang.then (NoHang.block (NoHang.then (NoHang.next (NoHang.block (NoHang.then NoHang.post))))))) (fun w4 hm4=>?_)
  replace h9:=h9.gr hm4;replace h11:=h11.gr hm4;replace hm0:=hm0.trans hm4
  have hS1:Mod [] w4 w4:=Mod.refl _ _
  clear hm4
  refine D.m 0 rfl (by kernel_rfl) rfl hS1 rfl<|D.m 1 rfl (by kernel_rfl) rfl hS1 rfl<|D.take 2 rfl (by kernel_rfl) (fun w_ hS=>(R1.atU (j:=(m - 1)) rfl rfl (U32.gr (by assumption) hS) tyS24 (by omega) (by omega))) hS1 rfl<|D.take 3 rfl (by kernel_rfl) (fun w_ hS=>(R1.ldU rfl (U32.gr (by assumption) hS) tyP67 (by omega) rfl)) hS1 rfl<|D.m 4 rfl (by kernel_rfl) rfl hS1 rfl<|D.m 5 rfl (by kernel_rfl) rfl hS1 rfl<|D.take 6 rfl (by kernel_rfl) (fun w_ hS=>(R1.atU (j:=(m - 1)) rfl rfl (U32.gr (by assumption) hS) tyS24 (by omega) (by omega))) hS1 rfl<|D.take 7 rfl (by kernel_rfl) (fun w_ hS=>(R1.ldU rfl (U32.gr (by assumption) hS) tyP67 (by omega) rfl)) hS1 rfl<|D.take 8 rfl (by kernel_rfl) (fun w_ hS=>(R1.lt rfl rfl)) hS1 rfl<|D.done (by decide +kernel) ?_ _
  refine X.seq<|W.cond rfl ?_ ?_
  ·
   intro hc37
   try simp only [bq,ne_eq] at hc37
   refine W.seq<|W.region<|L.a rfl rfl<|L.nil<|X.seq<|W.ret<|X.thenRet<|X.blockRet<|X.thenRet<|X.nextRet<|X.blockRet ?_
   refine X.thenRet<|X.result1 rfl (.tmp rfl .nil)<|⟨?_,hm0⟩
   have hz:=val_lt_of_top (xs:=toL (val xs)) (ys:=toL (val ys)) (j:=m - 1) (toL_lt _) (by omega) (by omega) (by rw [Nat.sub_add_cancel hm1]; exact hd) (by omega)
   rw [val_toL,val_toL] at hz
   rw [cmpI_lt hz]
  intro hc37
  try simp only [bq,ne_eq] at hc37
  refine W.skip<|X.seq<|W.seq<|W.drawW (T:=[]) rfl (by decide +kernel) (NoHang.then (NoHang.block (NoHang.then (NoHang.next (NoHang.block (NoHang.then NoHang.post)))))) (fun w5 hm5=>?_)
  replace h9:=h9.gr hm5;replace h11:=h11.gr hm5;replace hm0:=hm0.trans hm5
  have hS2:Mod [] w5 w5:=Mod.refl _ _
  clear hm5
  refine D.m 0 rfl (by kernel_rfl) rfl hS2 rfl<|D.m 1 rfl (by kernel_rfl) rfl hS2 rfl<|D.take 2 rfl (by kernel_rfl) (fun w_ hS=>(R1.atU (j:=(m - 1)) rfl rfl (U32.gr (by assumption) hS) tyS24 (by omega) (by omega))) hS2 rfl<|D.take 3 rfl (by kernel_rfl) (fun w_ hS=>(R1.ldU rfl (U32.gr (by assumption) hS) tyP67 (by omega) rfl)) hS2 rfl<|D.m 4 rfl (by kernel_rfl) rfl hS2 rfl<|D.m 5 rfl (by kernel_rfl) rfl hS2 rfl<|D.take 6 rfl (by kernel_rfl) (fun w_ hS=>(R1.atU (j:=(m - 1)) rfl rfl (U32.gr (by assumption) hS) tyS24 (by omega) (by omega))) hS2 rfl<|D.take 7 rfl (by kernel_rfl) (fun w_ hS=>(R1.ldU rfl (U32.gr (by assumption) hS) tyP67 (by omega) rfl)) hS2 rfl<|D.take 8 rfl (by kernel_rfl) (fun w_ hS=>(R1.gt rfl rfl)) hS2 rfl<|D.done (by decide +kernel) ?_ _
  refine X.seq<|W.cond rfl ?_ ?_
  ·
   intro hc46
   try simp only [bq,ne_eq] at hc46
   refine W.seq<|W.region<|L.a rfl rfl<|L.nil<|X.seq<|W.ret<|X.blockRet<|X.thenRet<|X.nextRet<|X.blockRet<|X.thenRet ?_
   refine X.result1 rfl (.tmp rfl .nil)<|⟨?_,hm0⟩
   have hz:=val_lt_of_top (xs:=toL (val ys)) (ys:=toL (val xs)) (j:=m - 1) (toL_lt _) (by omega) (by omega) (by rw [Nat.sub_add_cancel hm1]; exact hd.symm) (by omega)
   rw [val_toL,val_toL] at hz
   rw [cmpI_gt hz]
  intro hc46
  try simp only [bq,ne_eq] at hc46
  refine W.skip<|X.blockEnd<|X.seq<|W.region<|L.m rfl rfl<|L.v ((R1.sub rfl rfl).as (j:=((m - 1:Nat):Int) - 1) (by rw [wrap_i64 (by omega) (by omega)]; omega)) rfl<|L.a rfl rfl<|L.nil<|X.next (m - 1) ?_ ?_ ?_
  · exact ⟨rfl,rfl,rfl,trivial⟩
  ·
   exact ⟨by omega,drop_step (by omega) (by omega) (by omega) hd (by omega),h9,h11,hm0⟩
  first | omega | (dsimp only; omega)
 intro hc26
 try simp only [bq,ne_eq] at hc26
 refine W.exit<|X.thenExit<|X.nextExit<|X.here<|X.seq<|W.seq<|W.region<|L.a rfl rfl<|L.nil<|X.seq<|W.ret ?_
 refine X.result1 rfl (.tmp rfl .nil)<|⟨?_,hm0⟩
 have h0:m=0:=by omega
 rw [h0,List.drop_zero,List.drop_zero] at hd
 rw [cmpI_eq (toL_inj hd)]
theorem c_r1_Add {M : List Nat} {w : World} {va vb : Value} {xs ys : List Nat} (h : U32 M w va xs) (k0 : U32 M w vb ys) (hbd : Bd M w) (hl1 : xs.length ≤ 2199023255560) (hl2 : ys.length ≤ 2199023255560) :
    Ret Tryz.prog 91 #[va,vb] w (fun r w'=>U32 M w' r (toL (val xs + val ys))∧Mod [] w w'):=by
 have hbd0:=hbd;have hx:=h.2;have hy:=k0.2
 refine Ret.of (vs:=[va,vb]) (n:=36) Tryz.func91 rfl rfl rfl rfl ?_
 have hm0:Mod [] w w:=Mod.refl _ _
 refine W.seq<|W.region<|L.a rfl rfl<|L.nil<|X.seq<|W.seq<|W.region<|L.a rfl rfl<|L.nil<|X.seq<|W.seq ?_
 refine W.region<|L.a rfl rfl<|L.nil<|X.seq<|W.seq<|W.seq<|W.region<|L.a rfl rfl<|L.nil<|X.seq<|W.block ?_
 refine W.loop (ι:=Nat × Nat × List Nat × Value) (fun (k,c,cs,u)=>[(0,va),(1,vb),(5,u),(6,.int .u64 (c:Int)),(7,.int .i64 (k:Int))]) (fun (k,c,cs,u) w_=>k≤(max xs.length ys.length) + 1∧c≤1∧cs.length=k∧(∀ x∈cs,x<4294967296)∧val cs + 4294967296 ^ k * c=val (xs.take k) + val (ys.take k)∧World.ownsRow w_ w.heap.size 67 1 u cs.length (cs.map fun (x:Nat)=>Value.int .u32 (x:Int))∧Mod [] w w_) (fun (k,c,cs,u)=>(max xs.length ys.length) + 1 - k) (0,0,[],.slice none 0 0) ?_ ?_ ?_
 · exact ⟨rfl,rfl,rfl,rfl,rfl,trivial⟩
 ·
  exact ⟨Nat.zero_le _,by decide,rfl,by simp,by simp [val],own_nil _ _ _ _,hm0⟩
 rintro ⟨k,c,cs,u⟩ w1 ⟨hk,hc,hcl,hcx,hv,ho,hm0⟩
 have h1:=h.gr hm0;have h2:=k0.gr hm0;have hxk:=getD_lt hx k;have hyk:=getD_lt hy k
 refine W.seq<|W.seq<|W.region<|L.m rfl rfl<|L.m rfl rfl<|L.v (R1.lenU rfl h1 tyS24) rfl<|L.m rfl rfl<|L.v (R1.lenU rfl h2 tyS24) rfl<|L.v ((R1.maxI rfl rfl).as (j:=(((max xs.length ys.length):Nat):Int)) (by omega)) rfl<|L.v (R1.addI (b:=1) rfl rfl (by omega)) rfl<|L.v (R1.lt rfl rfl) rfl ?_
 refine L.nil<|X.seq<|W.cond rfl ?_ ?_
 ·
  intro hc15
  try simp only [bq,ne_eq] at hc15
  have hk1:k<(max xs.length ys.length) + 1:=by omega
  refine W.skip<|X.seq<|W.seq<|W.block<|W.seq<|W.region<|L.m rfl rfl<|L.m rfl rfl<|L.m rfl rfl<|L.call rfl (c_r1_at (h.gr hm0)) rfl ?_
  rintro _ w2 ⟨rfl,hm2⟩
  replace ho:=own_gr ho hm2 (by simp);replace hm0:=hm0.trans hm2;clear hm2
  refine L.v (R1.addL rfl rfl (by omega)) rfl<|L.m rfl rfl<|L.m rfl rfl<|L.call rfl (c_r1_at (k0.gr hm0)) rfl ?_
  rintro _ w3 ⟨rfl,hm3⟩
  replace ho:=own_gr ho hm3 (by simp);replace hm0:=hm0.trans hm3;clear hm3
  refine L.v (R1.addL rfl rfl (by omega)) rfl<|L.a rfl rfl<|L.nil<|X.seq<|W.seq<|W.region<|L.m rfl rfl<|L.m rfl rfl<|L.v (R1.convLW rfl tyI64 tyI67) rfl<|L.build1 rfl rfl tyS24 tyZ67 rfl ?_
  intro g30 w4 hN30
  replace ho:=own_gr ho hN30.mod (by simp);replace hm0:=hm0.trans hN30.mod
  have hrow:Sl [] w4 1 (.slice (some ⟨g30,0,none⟩) 1 1) 1 [.int .u32 (((c + xs.getD k 0 + ys.getD k 0) % 4294967296:Nat):Int)]:=Sl.row1 hN30.blk (by simp)
  clear hN30
  refine L.append rfl rfl ho hrow (by simp [Value.oneCell']) tyS24 tyZ67 (by omega) (by unfold maxLen; omega) hm0.size rfl ?_
  intro v31 w5 ho31' hG31
  replace hm0:=hm0.grew hG31 (fun g hg=>(own_ge ho g hg).1);clear ho;have ho31:=ho31'; clear ho31';obtain ⟨A31,c31,rfl⟩:=own_form ho31
  refine L.a rfl rfl<|L.nil<|X.seq<|W.region<|L.m rfl rfl<|L.v (R1.shr32 rfl rfl) rfl<|L.a rfl rfl<|L.nil<|X.blockEnd<|X.seq<|W.region ?_
  refine L.m rfl rfl<|L.v (R1.addI (b:=1) rfl rfl (by omega)) rfl<|L.a rfl rfl<|L.nil<|X.next (k + 1,(c + xs.getD k 0 + ys.getD k 0) / 4294967296,cs ++ [(c + xs.getD k 0 + ys.getD k 0) % 4294967296],.slice A31 (cs.length + 1) c31) ?_ ?_ ?_
  · exact ⟨rfl,rfl,rfl,rfl,rfl,trivial⟩
  ·
   refine ⟨by omega,by omega,by simp; omega,snoc_lt hcx (Nat.mod_lt _ (by decide)),?_,by simpa using ho31,hm0⟩
   rw [val_snoc,hcl,val_take_succD xs,val_take_succD ys,pow_LB_succ]
   have hs:=add_step hv (rfl:(c + xs.getD k 0 + ys.getD k 0)=(c + xs.getD k 0 + ys.getD k 0))
   rw [Nat.mul_comm (4294967296 ^ k) 4294967296] at hs
   omega
  first | omega | (dsimp only; omega)
 intro hc15
 try simp only [bq,ne_eq] at hc15
 have hk1:k=(max xs.length ys.length) + 1:=by omega
 refine W.exit<|X.thenExit<|X.nextExit<|X.here<|X.seq<|W.seq ?_
 have hU:U32 M w1 _ cs:=⟨Sl.of_own ho (fun g hg=>hbd0.not (own_ge ho g hg).1),hcx⟩
 have hbdw:=hbd0.gr hm0
 refine W.region<|L.m rfl rfl<|L.call rfl (c_r1_Trim hU hbdw (by omega)) rfl ?_
 rintro v35 w6 ⟨h35,hm6⟩
 replace hm0:=hm0.trans hm6;clear hm6
 refine L.a rfl rfl<|L.nil<|X.seq<|W.ret<|X.result1 rfl (.tmp rfl .nil)<|⟨?_,hm0⟩
 rw [val_take_all (by omega),val_take_all (by omega)] at hv
 have hc0:=carry0 hv (by
     have a1:=val_lt xs hx;have a2:=val_lt ys hy;have a3:=Nat.pow_le_pow_right (show 0<4294967296 by decide) (show xs.length≤(max xs.length ys.length) by omega);have a4:=Nat.pow_le_pow_right (show 0<4294967296 by decide) (show ys.length≤(max xs.length ys.length) by omega)
     rw [hk1,pow_LB_succ]; omega)
 rw [hc0,Nat.mul_zero,Nat.add_zero] at hv
 rw [hv] at h35
 exact h35
theorem c_r1_Sub {M : List Nat} {w : World} {va vb : Value} {xs ys : List Nat} (h : U32 M w va xs) (k0 : U32 M w vb ys) (hbd : Bd M w) (hl1 : xs.length ≤ 2199023255560) (hl2 : ys.length ≤ 2199023255560) (hge : val ys ≤ val xs) :
    Ret Tryz.prog 93 #[va,vb] w (fun r w'=>∃ v,r=.tuple #[v,.bool true]∧U32 M w' v (toL (val xs - val ys))∧Mod [] w w'):=by
 have hbd0:=hbd;have hx:=h.2;have hy:=k0.2
 refine Ret.of (vs:=[va,vb]) (n:=43) Tryz.func93 rfl rfl rfl rfl ?_
 have hm0:Mod [] w w:=Mod.refl _ _
 refine W.seq<|W.region<|L.a rfl rfl<|L.a rfl rfl<|L.nil<|X.seq<|W.seq<|W.seq<|W.region<|L.m rfl rfl<|L.m rfl rfl ?_
 refine L.call rfl (c_r1_Cmp h k0 hbd (by omega) (by omega)) rfl ?_
 rintro _ w1 ⟨rfl,hm1⟩
 replace hm0:=hm0.trans hm1;clear hm1
 refine L.v ((R1.lt rfl rfl).asB (c:=false) (by rw [cmpI_lt0]; simp; omega)) rfl<|L.nil<|X.seq<|W.condF rfl<|W.skip<|X.seq<|W.seq<|W.region<|L.a rfl rfl<|L.nil<|X.seq ?_
 refine W.seq<|W.region<|L.a rfl rfl<|L.nil<|X.seq<|W.seq<|W.seq<|W.region<|L.a rfl rfl<|L.nil<|X.seq ?_
 refine W.block<|W.loop (ι:=Nat × Nat × List Nat × Value) (fun (k,c,cs,u)=>[(0,va),(1,vb),(6,u),(7,.int .u64 (c:Int)),(8,.int .i64 (k:Int))]) (fun (k,c,cs,u) w_=>k≤xs.length∧c≤1∧cs.length=k∧(∀ x∈cs,x<4294967296)∧val (xs.take k) + 4294967296 ^ k * c=val cs + val (ys.take k)∧World.ownsRow w_ w.heap.size 67 1 u cs.length (cs.map fun (x:Nat)=>Value.int .u32 (x:Int))∧Mod [] w w_) (fun (k,c,cs,u)=>xs.length - k) (0,0,[],.slice none 0 0) ?_ ?_ ?_
 · exact ⟨rfl,rfl,rfl,rfl,rfl,trivial⟩
 ·
  exact ⟨Nat.zero_le _,by decide,rfl,by simp,by simp [val],own_nil _ _ _ _,hm0⟩
 rintro ⟨k,c,cs,u⟩ w2 ⟨hk,hc,hcl,hcx,hv,ho,hm0⟩
 have h1:=h.gr hm0;have h2:=k0.gr hm0
 refine W.seq<|W.seq<|W.region<|L.m rfl rfl<|L.m rfl rfl<|L.v (R1.lenU rfl h1 tyS24) rfl<|L.v (R1.lt rfl rfl) rfl<|L.nil<|X.seq<|W.cond rfl ?_ ?_
 ·
  intro hc18
  try simp only [bq,ne_eq] at hc18
  have hk1:k<xs.length:=by omega
  have hxk:=getD_lt hx k;have hyk:=getD_lt hy k
  refine W.skip<|X.seq<|W.seq<|W.block<|W.seq<|W.region<|L.m rfl rfl<|L.m rfl rfl<|L.call rfl (c_r1_at (h.gr hm0)) rfl ?_
  rintro _ w3 ⟨rfl,hm3⟩
  replace ho:=own_gr ho hm3 (by simp);replace hm0:=hm0.trans hm3;clear hm3
  refine L.m rfl rfl<|L.m rfl rfl<|L.call rfl (c_r1_at (k0.gr hm0)) rfl ?_
  rintro _ w4 ⟨rfl,hm4⟩
  replace ho:=own_gr ho hm4 (by simp);replace hm0:=hm0.trans hm4;clear hm4
  refine L.m rfl rfl<|L.v (R1.addL rfl rfl (by omega)) rfl<|L.a rfl rfl<|L.a rfl rfl<|L.nil<|X.seq<|W.seq<|W.region<|L.a rfl rfl<|L.nil<|X.seq ?_
  refine W.seq<|W.seq<|W.region<|L.m rfl rfl<|L.m rfl rfl<|L.v (R1.lt rfl rfl) rfl<|L.nil<|X.seq<|W.cut (ι:=Nat × Nat) (fun (Z9,C)=>[(0,va),(1,vb),(6,u),(7,.int .u64 (C:Int)),(8,.int .i64 (k:Int)),(9,.int .u64 (Z9:Int)),(10,.int .u64 ((ys.getD k 0 + c:Nat):Int))]) (fun (Z9,C) w_=>Z9=xs.getD k 0 + 4294967296 * C∧C≤1∧ys.getD k 0 + c≤Z9∧Z9<ys.getD k 0 + c + 4294967296∧World.ownsRow w_ w.heap.size 67 1 u cs.length (cs.map fun (x:Nat)=>Value.int .u32 (x:Int))∧Mod [] w w_) ?_ ?_
  ·
   refine W.cond rfl ?_ ?_
   ·
    intro hc31
    try simp only [bq,ne_eq] at hc31
    refine W.seq<|W.region<|L.m rfl rfl<|L.v (R1.addL (b:=4294967296) rfl rfl (by omega)) rfl<|L.a rfl rfl<|L.nil<|X.seq<|W.region<|L.a rfl rfl<|L.nil<|X.join (xs.getD k 0 + 4294967296,1) ?_ ?_
    · exact ⟨rfl,rfl,rfl,rfl,rfl,rfl,rfl,trivial⟩
    exact ⟨by omega,by omega,by omega,by omega,ho,hm0⟩
   intro hc31
   try simp only [bq,ne_eq] at hc31
   refine W.skip<|X.join (xs.getD k 0,0) ?_ ?_
   · exact ⟨rfl,rfl,rfl,rfl,rfl,rfl,rfl,trivial⟩
   exact ⟨by omega,by omega,by omega,by omega,ho,hm0⟩
  rintro ⟨Z9,C⟩ wk ⟨hX,hC,hX1,hX2,ho,hm0⟩
  refine X.seq<|W.region<|L.m rfl rfl<|L.m rfl rfl<|L.m rfl rfl<|L.v (R1.subL rfl rfl (by omega) (by omega)) rfl<|L.v ((R1.convLW rfl tyI64 tyI67).as (j:=((Z9 - (ys.getD k 0 + c):Nat):Int)) (by omega)) rfl<|L.build1 rfl rfl tyS24 tyZ67 rfl ?_
  intro g39 w5 hN39
  replace ho:=own_gr ho hN39.mod (by simp);replace hm0:=hm0.trans hN39.mod
  have hrow:Sl [] w5 1 (.slice (some ⟨g39,0,none⟩) 1 1) 1 [.int .u32 ((Z9 - (ys.getD k 0 + c):Nat):Int)]:=Sl.row1 hN39.blk (by simp)
  clear hN39
  refine L.append rfl rfl ho hrow (by simp [Value.oneCell']) tyS24 tyZ67 (by omega) (by unfold maxLen; omega) hm0.size rfl ?_
  intro v40 w6 ho40' hG40
  replace hm0:=hm0.grew hG40 (fun g hg=>(own_ge ho g hg).1);clear ho;have ho40:=ho40'; clear ho40';obtain ⟨A40,c40,rfl⟩:=own_form ho40
  refine L.a rfl rfl<|L.nil<|X.blockEnd<|X.seq<|W.region<|L.m rfl rfl<|L.v (R1.addI (b:=1) rfl rfl (by omega)) rfl<|L.a rfl rfl<|L.nil<|X.next (k + 1,C,cs ++ [Z9 - (ys.getD k 0 + c)],.slice A40 (cs.length + 1) c40) ?_ ?_ ?_
  · exact ⟨rfl,rfl,rfl,rfl,rfl,trivial⟩
  ·
   refine ⟨by omega,hC,by simp; omega,snoc_lt hcx (by omega),?_,by simpa using ho40,hm0⟩
   rw [val_snoc,hcl,val_take_succD xs,val_take_succD ys,pow_LB_succ]
   exact sub_step hv (show (Z9 - (ys.getD k 0 + c)) + ys.getD k 0 + c=xs.getD k 0 + 4294967296 * C by omega)
  first | omega | (dsimp only; omega)
 intro hc18
 try simp only [bq,ne_eq] at hc18
 obtain rfl:k=xs.length:=by omega
 refine W.exit<|X.thenExit<|X.nextExit<|X.here<|X.seq<|W.seq ?_
 have hU:U32 M w2 _ cs:=⟨Sl.of_own ho (fun g hg=>hbd0.not (own_ge ho g hg).1),hcx⟩
 have hbdw:=hbd0.gr hm0
 refine W.region<|L.m rfl rfl<|L.call rfl (c_r1_Trim hU hbdw (by omega)) rfl ?_
 rintro v42 w7 ⟨h42,hm7⟩
 replace hm0:=hm0.trans hm7;clear hm7
 refine L.a rfl rfl<|L.a rfl rfl<|L.nil<|X.seq<|W.ret<|X.result2 rfl (.tmp rfl (.tmp rfl .nil))<|⟨_,rfl,?_,hm0⟩
 rw [List.take_length,val_take_eq (Nat.lt_of_le_of_lt hge (val_lt xs hx))] at hv
 have hz:=sub_end hv hc (val_lt_len hcx hcl) hge
 rw [hz] at h42
 exact h42
end Go.Proofs.YtedokfpoajfflaaGreat
