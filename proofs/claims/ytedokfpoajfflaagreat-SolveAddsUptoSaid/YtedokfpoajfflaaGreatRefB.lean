/- Walks: what the functions compute. -/
import Derived.Test.YtedokfpoajfflaaGreatRefA
namespace Go.Proofs.YtedokfpoajfflaaGreat
open Go.RowKit
set_option linter.unusedVariables false
set_option linter.unusedSimpArgs false
set_option maxRecDepth 10000
theorem c_r1_Mul {M : List Nat} {w : World} {va vb : Value} {xs ys : List Nat} (h : U32 M w va xs) (k0 : U32 M w vb ys) (hbd : Bd M w) (hl1 : xs.length ≤ 1099511627776) (hl2 : ys.length ≤ 1099511627776) :
    Ret Tryz.prog 109 #[va,vb] w (fun r w'=>U32 M w' r (toL (val xs * val ys))∧Mod [] w w'):=by
 have hbd0:=hbd;have hx:=h.2;have hy:=k0.2
 refine Ret.of (vs:=[va,vb]) (n:=67) Tryz.func109 rfl rfl rfl rfl ?_
 have hm0:Mod [] w w:=Mod.refl _ _
 refine W.seq<|W.region<|L.a rfl rfl<|L.nil<|X.seq<|W.seq<|W.region<|L.m rfl rfl<|L.v (R1.lenU rfl h tyS24) rfl<|L.m rfl rfl<|L.v (R1.lenU rfl k0 tyS24) rfl ?_
 refine L.v (R1.addI rfl rfl (by omega)) rfl<|L.makeSlice (m:=(xs.length + ys.length)) rfl rfl rfl rfl tyS24 tyZ67 (by omega) (by unfold maxLen; omega) rfl ?_
 intro g14 w1 hN14
 replace h:=h.new hN14;replace k0:=k0.new hN14;have hge_g14:=New.ge hN14 hm0.size;replace hm0:=hm0.trans (hN14.mod.mono (by simp));have hb14:=hN14.blk;clear hN14
 rw [uarr_made] at hb14
 refine L.a rfl rfl<|L.nil<|X.seq<|W.seq<|W.seq<|W.region<|L.a rfl rfl<|L.nil<|X.seq<|W.block<|W.loop (ι:=Nat × List Nat) (fun (i,cs)=>[(0,va),(1,vb),(5,.slice (some ⟨g14,0,none⟩) (xs.length + ys.length) (xs.length + ys.length)),(6,.int .i64 (i:Int))]) (fun (i,cs) w_=>i≤xs.length∧cs.length=xs.length + ys.length∧(∀ x∈cs,x<4294967296)∧val cs=val (xs.take i) * val ys∧Blk w_ g14 67 (uarr cs)∧U32 (g14 :: M) w_ va xs∧U32 (g14 :: M) w_ vb ys∧Mod [] w w_) (fun (i,cs)=>xs.length - i) (0,List.replicate (xs.length + ys.length) 0) ?_ ?_ ?_
 · exact ⟨rfl,rfl,rfl,rfl,trivial⟩
 ·
  exact ⟨Nat.zero_le _,by simp,rep_lt _,by simp [val,val_replicate],hb14,h,k0,hm0⟩
 rintro ⟨i,cs0⟩ w2 ⟨hi,hcl,hcx,hv,hb14,h,k0,hm0⟩
 refine W.seq<|W.seq<|W.region<|L.m rfl rfl<|L.m rfl rfl<|L.v (R1.lenU rfl h tyS24) rfl<|L.v (R1.lt rfl rfl) rfl<|L.nil<|X.seq<|W.cond rfl ?_ ?_
 ·
  intro hc18
  try simp only [bq,ne_eq] at hc18
  have hi1:i<xs.length:=by omega
  have hai:=h.lt hi1
  refine W.skip<|X.seq<|W.seq<|W.block<|W.seq<|W.region<|L.a rfl rfl<|L.nil<|X.seq<|W.seq<|W.region ?_
  refine L.a rfl rfl<|L.nil<|X.seq<|W.block<|W.loop (ι:=Nat × Nat × List Nat) (fun (k,cy,cs)=>[(0,va),(1,vb),(5,.slice (some ⟨g14,0,none⟩) (xs.length + ys.length) (xs.length + ys.length)),(6,.int .i64 (i:Int)),(7,.int .u64 (cy:Int)),(8,.int .i64 (k:Int))]) (fun (k,cy,cs) w_=>k≤xs.length + ys.length∧cs.length=xs.length + ys.length∧(∀ x∈cs,x<4294967296)∧cy<4294967296∧val cs + 4294967296 ^ i * 4294967296 ^ k * cy=val cs0 + 4294967296 ^ i * (xs[i] * val (ys.take k))∧Blk w_ g14 67 (uarr cs)∧U32 (g14 :: M) w_ va xs∧U32 (g14 :: M) w_ vb ys∧Mod [] w w_) (fun (k,cy,cs)=>xs.length + ys.length + 1 - k) (0,0,cs0) ?_ ?_ ?_
  · exact ⟨rfl,rfl,rfl,rfl,rfl,rfl,trivial⟩
  ·
   exact ⟨Nat.zero_le _,hcl,hcx,by decide,by simp [val],hb14,h,k0,hm0⟩
  rintro ⟨k,cy,cs⟩ w3 ⟨hk,hcl2,hcx2,hcy,hv2,hb14,h,k0,hm0⟩
  refine W.seq<|W.seq<|W.region<|L.m rfl rfl<|L.m rfl rfl<|L.v (R1.lenU rfl k0 tyS24) rfl<|L.v ((R1.lt rfl rfl).asB (c:=decide (k<ys.length)) (by congr 1; apply propext; omega)) rfl<|L.m rfl rfl ?_
  cases hgd25:decide (k<ys.length)
  ·
   try simp only [bq,ne_eq] at hgd25
   refine L.on rfl rfl rfl (R1.move rfl) rfl<|L.on rfl rfl rfl (R1.gt rfl rfl) rfl<|L.v (R1.pickF rfl rfl) rfl<|L.nil<|X.seq<|W.cond rfl ?_ ?_
   ·
    intro hc28
    try simp only [bq,ne_eq] at hc28
    refine W.skip<|X.seq<|W.seq<|W.block<|W.seq<|W.seq<|W.region<|L.m rfl rfl<|L.m rfl rfl<|L.v (R1.addI rfl rfl (by omega)) rfl<|L.m rfl rfl ?_
    refine L.v (R1.len rfl tyS24) rfl<|L.v (R1.ge rfl rfl) rfl<|L.nil<|X.seq<|W.cond rfl ?_ ?_
    ·
     intro hc36
     try simp only [bq,ne_eq] at hc36
     rw [val_take_all (by omega)] at hv2
     have hcy0:=r1mul_brk hx hy hi1 (by omega) hv2 hv
     refine W.exit<|X.thenExit<|X.past rfl<|X.thenExit<|X.nextExit<|X.here<|X.blockEnd<|X.seq<|W.region<|L.m rfl rfl<|L.v (R1.addI (b:=1) rfl rfl (by omega)) rfl ?_
     refine L.a rfl rfl<|L.nil<|X.next (i + 1,cs) ?_ ?_ ?_
     · exact ⟨rfl,rfl,rfl,rfl,trivial⟩
     ·
      refine ⟨by omega,hcl2,hcx2,?_,hb14,h,k0,hm0⟩
      rw [val_take_succ hi1]
      exact r1mul_end hv2 hv hcy0
     first | omega | (dsimp only; omega)
    intro hc36
    try simp only [bq,ne_eq] at hc36
    have hik:i + k<cs.length:=by omega
    have hbk:=getD_lt hy k;have hab:=limb_mul hai hbk;have hck:=hcx2 _ (List.getElem_mem hik)
    refine W.skip<|X.seq<|W.seq<|W.drawW (T:=[]) rfl (by decide +kernel) (NoHang.then (NoHang.block (NoHang.then (NoHang.next (NoHang.block (NoHang.block (NoHang.then (NoHang.next (NoHang.block (NoHang.then NoHang.post)))))))))) (fun w4 hm4=>?_)
    replace hb14:=Blk.gr hb14 hm4;replace h:=h.gr hm4;replace k0:=k0.gr hm4;replace hm0:=hm0.trans hm4
    have hS1:Mod [] w4 w4:=Mod.refl _ _
    clear hm4;have hb14_s:=hb14
    refine D.m 0 rfl (by kernel_rfl) rfl hS1 rfl<|D.m 1 rfl (by kernel_rfl) rfl hS1 rfl<|D.m 2 rfl (by kernel_rfl) rfl hS1 rfl<|D.take 3 rfl (by kernel_rfl) (fun w_ hS=>(R1.atU (j:=i) rfl rfl (U32.gr (by assumption) hS) tyS24 rfl (by omega))) hS1 rfl<|D.take 4 rfl (by kernel_rfl) (fun w_ hS=>(R1.ldU rfl (U32.gr h hS) tyP67 hi1 rfl)) hS1 rfl<|D.take 5 rfl (by kernel_rfl) (fun w_ hS=>(R1.convWL rfl tyI67 tyI64 (by omega))) hS1 rfl<|D.m 6 rfl (by kernel_rfl) rfl hS1 rfl<|D.m 7 rfl (by kernel_rfl) rfl hS1 rfl<|D.m 11 rfl (by kernel_rfl) rfl hS1 rfl<|D.m 12 rfl (by kernel_rfl) rfl hS1 rfl<|D.m 13 rfl (by kernel_rfl) rfl hS1 rfl ?_
    refine D.take 14 rfl (by kernel_rfl) (fun w_ hS=>(R1.addI rfl rfl (by omega))) hS1 rfl<|D.take 15 rfl (by kernel_rfl) (fun w_ hS=>(R1.atO (j:=(i + k)) rfl rfl tyS24 rfl (by omega))) hS1 rfl<|D.take 16 rfl (by kernel_rfl) (fun w_ hS=>(R1.ldO rfl (Blk.gr (by assumption) hS) (by omega) tyP67 rfl)) hS1 rfl<|D.take 17 rfl (by kernel_rfl) (fun w_ hS=>(R1.convWL rfl tyI67 tyI64 (by omega))) hS1 rfl<|D.one 8 rfl (by kernel_rfl) (fun hX=>?_)
    refine L.call rfl (c_r1_at k0) rfl ?_
    rintro _ w5 ⟨rfl,hm5⟩
    replace hb14:=Blk.gr hb14 hm5;replace h:=h.gr hm5;replace k0:=k0.gr hm5;replace hm0:=hm0.trans hm5;replace hS1:=hS1.trans hm5;clear hm5
    refine L.nil (hX _ _ ⟨.inr hS1,?_⟩)
    refine D.take 9 rfl (by kernel_rfl) (fun w_ hS=>(R1.mulL rfl rfl (by omega))) hS1 rfl<|D.take 10 rfl (by kernel_rfl) (fun w_ hS=>(R1.addL rfl rfl (by omega))) hS1 rfl<|D.take 18 rfl (by kernel_rfl) (fun w_ hS=>(R1.addL rfl rfl (by omega))) hS1 rfl<|D.take 19 rfl (by kernel_rfl) (fun w_ hS=>(R1.assign rfl)) hS1 rfl<|D.done (by decide +kernel) ?_ _
    refine X.seq<|W.seq<|W.region<|L.m rfl rfl<|L.m rfl rfl<|L.m rfl rfl<|L.v (R1.addI rfl rfl (by omega)) rfl<|L.m rfl rfl<|L.v (R1.convLW rfl tyI64 tyI67) rfl<|L.v (R1.atO (j:=(i + k)) rfl rfl tyS24 rfl (by omega)) rfl<|L.storeU rfl rfl hb14 (by omega) tyP67 ?_
    intro w6 hb14' hm6
    replace h:=h.mod hm6 (by simp);replace k0:=k0.mod hm6 (by simp);replace hm0:=hm0.old1 hm6 hge_g14;clear hm6;replace hb14:=hb14'; clear hb14'
    refine L.nil<|X.seq<|W.region<|L.m rfl rfl<|L.v (R1.shr32 rfl rfl) rfl<|L.a rfl rfl<|L.nil<|X.blockEnd<|X.seq<|W.region<|L.m rfl rfl ?_
    refine L.v (R1.addI (b:=1) rfl rfl (by omega)) rfl<|L.a rfl rfl<|L.nil<|X.next (k + 1,(cy + xs[i] * ys.getD k 0 + cs[i + k]) / 4294967296,cs.set (i + k) ((cy + xs[i] * ys.getD k 0 + cs[i + k]) % 4294967296)) ?_ ?_ ?_
    · exact ⟨rfl,rfl,rfl,rfl,rfl,rfl,trivial⟩
    ·
     refine ⟨by omega,by simpa using hcl2,set_lt hcx2 (Nat.mod_lt _ (by decide)),by omega,?_,hb14,h,k0,hm0⟩
     have e1:=val_set (xs:=cs) (j:=i + k) hik ((cy + xs[i] * ys.getD k 0 + cs[i + k]) % 4294967296)
     rw [Nat.pow_add] at e1
     rw [val_take_succD,pow_LB_succ,show 4294967296 ^ i * (4294967296 * 4294967296 ^ k)=4294967296 * (4294967296 ^ i * 4294967296 ^ k) by rw [Nat.mul_left_comm]]
     exact mul_step e1 hv2 (Nat.add_assoc _ _ _)
    first | omega | (dsimp only; omega)
   intro hc28
   try simp only [bq,ne_eq] at hc28
   have hcy0:cy=0:=by omega
   rw [val_take_all (by omega)] at hv2
   refine W.exit<|X.thenExit<|X.nextExit<|X.here<|X.blockEnd<|X.seq<|W.region<|L.m rfl rfl<|L.v (R1.addI (b:=1) rfl rfl (by omega)) rfl<|L.a rfl rfl<|L.nil ?_
   refine X.next (i + 1,cs) ?_ ?_ ?_
   · exact ⟨rfl,rfl,rfl,rfl,trivial⟩
   ·
    refine ⟨by omega,hcl2,hcx2,?_,hb14,h,k0,hm0⟩
    rw [val_take_succ hi1]
    exact r1mul_end hv2 hv hcy0
   first | omega | (dsimp only; omega)
  try simp only [bq,ne_eq] at hgd25
  refine L.off rfl rfl rfl rfl rfl<|L.off rfl rfl rfl rfl rfl<|L.v (R1.pickT rfl rfl) rfl<|L.nil<|X.seq<|W.condT rfl<|W.skip<|X.seq<|W.seq<|W.block<|W.seq ?_
  refine W.seq<|W.region<|L.m rfl rfl<|L.m rfl rfl<|L.v (R1.addI rfl rfl (by omega)) rfl<|L.m rfl rfl<|L.v (R1.len rfl tyS24) rfl<|L.v (R1.ge rfl rfl) rfl<|L.nil<|X.seq<|W.cond rfl ?_ ?_
  ·
   intro hc36
   try simp only [bq,ne_eq] at hc36
   rw [val_take_all (by omega)] at hv2
   have hcy0:=r1mul_brk hx hy hi1 (by omega) hv2 hv
   refine W.exit<|X.thenExit<|X.past rfl<|X.thenExit<|X.nextExit<|X.here<|X.blockEnd<|X.seq<|W.region<|L.m rfl rfl<|L.v (R1.addI (b:=1) rfl rfl (by omega)) rfl ?_
   refine L.a rfl rfl<|L.nil<|X.next (i + 1,cs) ?_ ?_ ?_
   · exact ⟨rfl,rfl,rfl,rfl,trivial⟩
   ·
    refine ⟨by omega,hcl2,hcx2,?_,hb14,h,k0,hm0⟩
    rw [val_take_succ hi1]
    exact r1mul_end hv2 hv hcy0
   first | omega | (dsimp only; omega)
  intro hc36
  try simp only [bq,ne_eq] at hc36
  have hik:i + k<cs.length:=by omega
  have hbk:=getD_lt hy k;have hab:=limb_mul hai hbk;have hck:=hcx2 _ (List.getElem_mem hik)
  refine W.skip<|X.seq<|W.seq<|W.drawW (T:=[]) rfl (by decide +kernel) (NoHang.then (NoHang.block (NoHang.then (NoHang.next (NoHang.block (NoHang.block (NoHang.then (NoHang.next (NoHang.block (NoHang.then NoHang.post)))))))))) (fun w7 hm7=>?_)
  replace hb14:=Blk.gr hb14 hm7;replace h:=h.gr hm7;replace k0:=k0.gr hm7;replace hm0:=hm0.trans hm7
  have hS2:Mod [] w7 w7:=Mod.refl _ _
  clear hm7;have hb14_s:=hb14
  refine D.m 0 rfl (by kernel_rfl) rfl hS2 rfl<|D.m 1 rfl (by kernel_rfl) rfl hS2 rfl<|D.m 2 rfl (by kernel_rfl) rfl hS2 rfl<|D.take 3 rfl (by kernel_rfl) (fun w_ hS=>(R1.atU (j:=i) rfl rfl (U32.gr (by assumption) hS) tyS24 rfl (by omega))) hS2 rfl<|D.take 4 rfl (by kernel_rfl) (fun w_ hS=>(R1.ldU rfl (U32.gr h hS) tyP67 hi1 rfl)) hS2 rfl<|D.take 5 rfl (by kernel_rfl) (fun w_ hS=>(R1.convWL rfl tyI67 tyI64 (by omega))) hS2 rfl<|D.m 6 rfl (by kernel_rfl) rfl hS2 rfl<|D.m 7 rfl (by kernel_rfl) rfl hS2 rfl<|D.m 11 rfl (by kernel_rfl) rfl hS2 rfl<|D.m 12 rfl (by kernel_rfl) rfl hS2 rfl<|D.m 13 rfl (by kernel_rfl) rfl hS2 rfl ?_
  refine D.take 14 rfl (by kernel_rfl) (fun w_ hS=>(R1.addI rfl rfl (by omega))) hS2 rfl<|D.take 15 rfl (by kernel_rfl) (fun w_ hS=>(R1.atO (j:=(i + k)) rfl rfl tyS24 rfl (by omega))) hS2 rfl<|D.take 16 rfl (by kernel_rfl) (fun w_ hS=>(R1.ldO rfl (Blk.gr (by assumption) hS) (by omega) tyP67 rfl)) hS2 rfl<|D.take 17 rfl (by kernel_rfl) (fun w_ hS=>(R1.convWL rfl tyI67 tyI64 (by omega))) hS2 rfl<|D.one 8 rfl (by kernel_rfl) (fun hX=>?_)
  refine L.call rfl (c_r1_at k0) rfl ?_
  rintro _ w8 ⟨rfl,hm8⟩
  replace hb14:=Blk.gr hb14 hm8;replace h:=h.gr hm8;replace k0:=k0.gr hm8;replace hm0:=hm0.trans hm8;replace hS2:=hS2.trans hm8;clear hm8
  refine L.nil (hX _ _ ⟨.inr hS2,?_⟩)
  refine D.take 9 rfl (by kernel_rfl) (fun w_ hS=>(R1.mulL rfl rfl (by omega))) hS2 rfl<|D.take 10 rfl (by kernel_rfl) (fun w_ hS=>(R1.addL rfl rfl (by omega))) hS2 rfl<|D.take 18 rfl (by kernel_rfl) (fun w_ hS=>(R1.addL rfl rfl (by omega))) hS2 rfl<|D.take 19 rfl (by kernel_rfl) (fun w_ hS=>(R1.assign rfl)) hS2 rfl<|D.done (by decide +kernel) ?_ _
  refine X.seq<|W.seq<|W.region<|L.m rfl rfl<|L.m rfl rfl<|L.m rfl rfl<|L.v (R1.addI rfl rfl (by omega)) rfl<|L.m rfl rfl<|L.v (R1.convLW rfl tyI64 tyI67) rfl<|L.v (R1.atO (j:=(i + k)) rfl rfl tyS24 rfl (by omega)) rfl<|L.storeU rfl rfl hb14 (by omega) tyP67 ?_
  intro w9 hb14' hm9
  replace h:=h.mod hm9 (by simp);replace k0:=k0.mod hm9 (by simp);replace hm0:=hm0.old1 hm9 hge_g14;clear hm9;replace hb14:=hb14'; clear hb14'
  refine L.nil<|X.seq<|W.region<|L.m rfl rfl<|L.v (R1.shr32 rfl rfl) rfl<|L.a rfl rfl<|L.nil<|X.blockEnd<|X.seq<|W.region<|L.m rfl rfl ?_
  refine L.v (R1.addI (b:=1) rfl rfl (by omega)) rfl<|L.a rfl rfl<|L.nil<|X.next (k + 1,(cy + xs[i] * ys.getD k 0 + cs[i + k]) / 4294967296,cs.set (i + k) ((cy + xs[i] * ys.getD k 0 + cs[i + k]) % 4294967296)) ?_ ?_ ?_
  · exact ⟨rfl,rfl,rfl,rfl,rfl,rfl,trivial⟩
  ·
   refine ⟨by omega,by simpa using hcl2,set_lt hcx2 (Nat.mod_lt _ (by decide)),by omega,?_,hb14,h,k0,hm0⟩
   have e1:=val_set (xs:=cs) (j:=i + k) hik ((cy + xs[i] * ys.getD k 0 + cs[i + k]) % 4294967296)
   rw [Nat.pow_add] at e1
   rw [val_take_succD,pow_LB_succ,show 4294967296 ^ i * (4294967296 * 4294967296 ^ k)=4294967296 * (4294967296 ^ i * 4294967296 ^ k) by rw [Nat.mul_left_comm]]
   exact mul_step e1 hv2 (Nat.add_assoc _ _ _)
  first | omega | (dsimp only; omega)
 intro hc18
 try simp only [bq,ne_eq] at hc18
 obtain rfl:i=xs.length:=by omega
 rw [List.take_length] at hv
 refine W.exit<|X.thenExit<|X.nextExit<|X.here<|X.seq<|W.seq ?_
 have hU:U32 M w2 (.slice (some ⟨g14,0,none⟩) (xs.length + ys.length) (xs.length + ys.length)) cs0:=by
     have hU:=U32.of_blk (M:=M) hb14 (hbd0.not hge_g14) (by unfold maxLen; omega) hcx
     rw [hcl] at hU; exact hU
 have hbdw:=hbd0.gr hm0
 refine W.region<|L.m rfl rfl<|L.call rfl (c_r1_Trim hU hbdw (by omega)) rfl ?_
 rintro v66 w10 ⟨h66,hm10⟩
 replace hm0:=hm0.trans hm10;clear hm10
 refine L.a rfl rfl<|L.nil<|X.seq<|W.ret<|X.result1 rfl (.tmp rfl .nil) ?_
 exact ⟨by rw [hv] at h66; exact h66,hm0⟩
theorem c_r1_Shift1 {M : List Nat} {w : World} {v : Value} {xs : List Nat} (h : U32 M w v xs) (hbd : Bd M w) (hl : xs.length ≤ 2199023255560) :
    Ret Tryz.prog 90 #[v,.int .i64 1] w (fun r w'=>U32 M w' r (toL (2 * val xs))∧Mod [] w w'):=by
 have hbd0:=hbd;have hlt:=toL_length_val xs h.2
 refine Ret.of (vs:=[v,.int .i64 1]) (n:=88) Tryz.func90 rfl rfl rfl rfl ?_
 have hm0:Mod [] w w:=Mod.refl _ _
 refine W.seq<|W.region<|L.a rfl rfl<|L.nil<|X.seq<|W.seq<|W.region<|L.m rfl rfl<|L.v ((R1.maxI rfl rfl).as (j:=((1:Nat):Int)) (by decide)) rfl<|L.v ((R1.minI rfl rfl).as (j:=((1:Nat):Int)) (by decide)) rfl<|L.a rfl rfl ?_
 refine L.nil<|X.seq<|W.seq<|W.region<|L.m rfl rfl<|L.call rfl (c_r1_Trim (by assumption) (by assumption) (by omega)) rfl ?_
 rintro v19 w1 ⟨h19,hm1⟩
 replace h:=h.gr hm1;replace hbd:=hbd.gr hm1;replace hm0:=hm0.trans hm1;clear hm1
 refine L.a rfl rfl<|L.nil<|X.seq<|W.seq<|W.seq<|W.region<|L.m rfl rfl<|L.v ((R1.lt rfl rfl).asB (c:=false) (by simp)) rfl<|L.nil<|X.seq<|W.condF rfl ?_
 refine W.skip<|X.seq<|W.seq<|W.region<|L.m rfl rfl<|L.v ((R1.quoI (b:=32) rfl rfl (by omega) (by omega)).as (j:=((0:Nat):Int)) (by decide)) rfl<|L.makeSlice (m:=0) rfl rfl rfl rfl tyS24 tyZ67 (by omega) (by unfold maxLen; omega) rfl ?_
 intro g61 w2 hN61
 replace h:=h.new hN61;replace hbd:=hbd.new hN61;have hge_g61:=New.ge hN61 hm0.size;replace hm0:=hm0.trans (hN61.mod.mono (by simp));replace h19:=h19.new hN61;have hb61:=hN61.blk;clear hN61
 rw [uarr_made] at hb61
 have ho:World.ownsRow w2 w.heap.size 67 1 (.slice (some ⟨g61,0,none⟩) 0 0) 0 []:=⟨rfl,.inr ⟨g61,0,#[],rfl,hge_g61,hb61,Nat.le_refl _,by decide,rfl,rfl⟩⟩
 clear hb61
 refine L.a rfl rfl<|L.nil<|X.seq<|W.seq<|W.region<|L.m rfl rfl<|L.v ((R1.remI (b:=32) rfl rfl (by omega)).as (j:=((1:Nat):Int)) (by decide)) rfl<|L.v (R1.convIL rfl tyI3 tyI90 (by omega)) rfl<|L.a rfl rfl<|L.nil<|X.seq ?_
 refine W.seq<|W.region<|L.a rfl rfl<|L.nil<|X.seq<|W.seq<|W.seq<|W.region<|L.a rfl rfl<|L.nil<|X.seq ?_
 refine W.block<|W.loop (ι:=Nat × Nat × List Nat × Value) (fun (k,lo,cs,u)=>[(5,v19),(10,u),(11,.int .u64 1),(12,.int .u64 (lo:Int)),(13,.int .i64 (k:Int))]) (fun (k,lo,cs,u) w_=>k≤(toL (val xs)).length + 1∧lo≤1∧cs.length=k∧(∀ x∈cs,x<4294967296)∧val cs + 4294967296 ^ k * lo=2 * val ((toL (val xs)).take k)∧World.ownsRow w_ w.heap.size 67 1 u cs.length (cs.map fun (x:Nat)=>Value.int .u32 (x:Int))∧U32 (ownL u ++ M) w_ v19 (toL (val xs))∧Mod [] w w_) (fun (k,lo,cs,u)=>(toL (val xs)).length + 1 - k) (0,0,[],.slice (some ⟨g61,0,none⟩) 0 0) ?_ ?_ ?_
 · exact ⟨rfl,rfl,rfl,rfl,rfl,trivial⟩
 ·
  exact ⟨Nat.zero_le _,by decide,rfl,by simp,by simp [val],ho,h19,hm0⟩
 rintro ⟨k,lo,cs,u⟩ w3 ⟨hk,hlo,hcl,hcx,hv,ho,h19,hm0⟩
 refine W.seq<|W.seq<|W.region<|L.m rfl rfl<|L.m rfl rfl<|L.v (R1.lenU rfl (by assumption) tyS24) rfl<|L.v (R1.addI (b:=1) rfl rfl (by omega)) rfl<|L.v (R1.lt rfl rfl) rfl<|L.nil<|X.seq<|W.cond rfl ?_ ?_
 ·
  intro hc69
  try simp only [bq,ne_eq] at hc69
  have hk1:k<(toL (val xs)).length + 1:=by omega
  have hxk:=getD_lt (toL_lt (val xs)) k
  refine W.skip<|X.seq<|W.seq<|W.block<|W.seq<|W.region<|L.m rfl rfl<|L.m rfl rfl<|L.call rfl (c_r1_at h19) rfl ?_
  rintro _ w4 ⟨rfl,hm4⟩
  replace ho:=own_gr ho hm4 (by simp);replace h19:=h19.gr hm4;replace hm0:=hm0.trans hm4;clear hm4
  refine L.m rfl rfl<|L.v ((R1.shlL (b:=1) rfl rfl (by decide)).as (j:=((2 * (toL (val xs)).getD k 0:Nat):Int)) (by rw [Nat.pow_one,Nat.mod_eq_of_lt (by omega),Nat.mul_comm])) rfl<|L.a rfl rfl<|L.nil<|X.seq<|W.seq<|W.region<|L.m rfl rfl<|L.m rfl rfl<|L.m rfl rfl<|L.v ((R1.orL rfl rfl (by omega) (by omega)).as (j:=(((2 * (toL (val xs)).getD k 0 + lo):Nat):Int)) (congrArg (fun n:Nat=>(n:Int)) (by have:=or_add (k:=1) (a:=(toL (val xs)).getD k 0) (b:=lo) (by omega); rw [Nat.pow_one,Nat.mul_comm] at this; exact this))) rfl ?_
  refine L.v (R1.convLW rfl tyI64 tyI67) rfl<|L.build1 rfl rfl tyS24 tyZ67 rfl ?_
  intro g82 w5 hN82
  replace ho:=own_gr ho hN82.mod (by simp);replace h19:=h19.gr hN82.mod;replace hm0:=hm0.trans hN82.mod
  have hrow:Sl [] w5 1 (.slice (some ⟨g82,0,none⟩) 1 1) 1 [.int .u32 (((2 * (toL (val xs)).getD k 0 + lo) % 4294967296:Nat):Int)]:=Sl.row1 hN82.blk (by simp)
  clear hN82
  refine L.append rfl rfl ho hrow (by simp [Value.oneCell']) tyS24 tyZ67 (by omega) (by unfold maxLen; omega) hm0.size rfl ?_
  intro v83 w6 ho83' hG83
  replace h19:=h19.grew hG83;replace hm0:=hm0.grew hG83 (fun g hg=>(own_ge ho g hg).1);clear ho;have ho83:=ho83'; clear ho83';obtain ⟨A83,c83,rfl⟩:=own_form ho83
  refine L.a rfl rfl<|L.nil<|X.seq<|W.region<|L.m rfl rfl<|L.v (R1.shr32 rfl rfl) rfl<|L.a rfl rfl<|L.nil<|X.blockEnd<|X.seq<|W.region ?_
  refine L.m rfl rfl<|L.v (R1.addI (b:=1) rfl rfl (by omega)) rfl<|L.a rfl rfl<|L.nil<|X.next (k + 1,2 * (toL (val xs)).getD k 0 / 4294967296,cs ++ [(2 * (toL (val xs)).getD k 0 + lo) % 4294967296],.slice A83 (cs.length + 1) c83) ?_ ?_ ?_
  · exact ⟨rfl,rfl,rfl,rfl,rfl,trivial⟩
  ·
   refine ⟨by omega,by omega,by simp; omega,snoc_lt hcx (Nat.mod_lt _ (by decide)),?_,by simpa using ho83,h19,hm0⟩
   rw [val_snoc,hcl,val_take_succD,pow_LB_succ]
   exact shl1_step hv (by omega)
  first | omega | (dsimp only; omega)
 intro hc69
 try simp only [bq,ne_eq] at hc69
 have hk1:k=(toL (val xs)).length + 1:=by omega
 refine W.exit<|X.thenExit<|X.nextExit<|X.here<|X.seq<|W.seq ?_
 have hU:U32 M w3 _ cs:=⟨Sl.of_own ho (fun g hg=>hbd0.not (own_ge ho g hg).1),hcx⟩
 have hbdw:=hbd0.gr hm0
 refine W.region<|L.m rfl rfl<|L.call rfl (c_r1_Trim hU hbdw (by omega)) rfl ?_
 rintro v87 w7 ⟨h87,hm7⟩
 replace hm0:=hm0.trans hm7;clear hm7
 refine L.a rfl rfl<|L.nil<|X.seq<|W.ret<|X.result1 rfl (.tmp rfl .nil)<|⟨?_,hm0⟩
 rw [val_take_all (by omega)] at hv
 have hc0:=carry0 hv (by rw [hk1]; exact two_val (toL_lt _))
 rw [hc0,Nat.mul_zero,Nat.add_zero,val_toL] at hv
 rw [hv] at h87
 exact h87
theorem c_r1_small {M : List Nat} {w : World} {va : Value} {xs : List Nat} {b : Nat} (h : U32 M w va xs) (hb0 : 0 < b) (hb : b < 4294967296) (hbd : Bd M w) (hl : xs.length ≤ 2199023255560) :
    Ret Tryz.prog 89 #[va,.int .u64 (b:Int)] w (fun r w'=>∃ v,r=.tuple #[v,.int .u64 ((val xs % b:Nat):Int)]∧U32 M w' v (toL (val xs / b))∧Mod [] w w'):=by
 have hbd0:=hbd
 refine Ret.of (vs:=[va,.int .u64 (b:Int)]) (n:=40) Tryz.func89 rfl rfl rfl rfl ?_
 have hm0:Mod [] w w:=Mod.refl _ _
 refine W.seq<|W.region<|L.a rfl rfl<|L.a rfl rfl<|L.nil<|X.seq<|W.seq<|W.region<|L.m rfl rfl<|L.v (R1.lenU rfl (by assumption) tyS24) rfl<|L.makeSlice (m:=xs.length) rfl rfl rfl rfl tyS24 tyZ67 (by omega) (by unfold maxLen; omega) rfl ?_
 intro g11 w1 hN11
 replace h:=h.new hN11;have hge_g11:=New.ge hN11 hm0.size;replace hm0:=hm0.trans (hN11.mod.mono (by simp));have hb11:=hN11.blk;clear hN11
 rw [uarr_made] at hb11
 refine L.a rfl rfl<|L.nil<|X.seq<|W.seq<|W.region<|L.a rfl rfl<|L.nil<|X.seq<|W.seq<|W.seq<|W.region ?_
 refine L.m rfl rfl<|L.v (R1.lenU rfl (by assumption) tyS24) rfl<|L.v ((R1.sub rfl rfl).as (wrap_i64 (by omega) (by omega))) rfl<|L.a rfl rfl<|L.nil<|X.seq<|W.block<|W.loop (ι:=Nat × Nat × List Nat) (fun (m,r,q)=>[(0,va),(1,.int .u64 (b:Int)),(6,.slice (some ⟨g11,0,none⟩) xs.length xs.length),(7,.int .u64 (r:Int)),(8,.int .i64 ((m:Int) - 1))]) (fun (m,r,q) w_=>m≤xs.length∧q.length=xs.length∧(∀ x∈q,x<4294967296)∧r<b∧val (xs.drop m)=b * val (q.drop m) + r∧Blk w_ g11 67 (uarr q)∧U32 (g11 :: M) w_ va xs∧Mod [] w w_) (fun (m,r,q)=>m) (xs.length,0,List.replicate xs.length 0) ?_ ?_ ?_
 · exact ⟨rfl,rfl,rfl,rfl,rfl,trivial⟩
 ·
  exact ⟨Nat.le_refl _,by simp,rep_lt _,hb0,by simp [val],hb11,h,hm0⟩
 rintro ⟨m,r,q⟩ w2 ⟨hm,hql,hqx,hr,hv,hb11,h,hm0⟩
 refine W.seq<|W.seq<|W.region<|L.m rfl rfl<|L.v (R1.ge rfl rfl) rfl<|L.nil<|X.seq<|W.cond rfl ?_ ?_
 ·
  intro hc16
  try simp only [bq,ne_eq] at hc16
  have hm1:0<m:=by omega
  have hxm:=h.lt (show m - 1<xs.length by omega)
  have hq:(r * 4294967296 + xs[m - 1]) / b<4294967296:=by rw [Nat.div_lt_iff_lt_mul (by omega)]; omega
  refine W.skip<|X.seq<|W.seq<|W.block<|W.seq<|W.region<|L.m rfl rfl<|L.v (R1.shl32 rfl rfl (by omega)) rfl<|L.m rfl rfl<|L.m rfl rfl<|L.v (R1.atU (j:=(m - 1)) rfl rfl (by assumption) tyS24 (by omega) (by omega)) rfl ?_
  refine L.v (R1.ldU rfl (by assumption) tyP67 (by omega) rfl) rfl<|L.v (R1.convWL rfl tyI67 tyI64 (by omega)) rfl<|L.v ((R1.orL rfl rfl (by omega) (by omega)).as (j:=(((r * 4294967296 + xs[m - 1]):Nat):Int)) (congrArg (fun n:Nat=>(n:Int)) (or32 hxm))) rfl<|L.a rfl rfl<|L.nil<|X.seq<|W.seq<|W.region<|L.m rfl rfl<|L.m rfl rfl<|L.m rfl rfl ?_
  refine L.m rfl rfl<|L.v (R1.quoL rfl rfl (by omega) (by omega)) rfl<|L.v ((R1.convLW rfl tyI64 tyI67).as (j:=(((r * 4294967296 + xs[m - 1]) / b:Nat):Int)) (by rw [Nat.mod_eq_of_lt hq])) rfl<|L.v (R1.atO (j:=(m - 1)) rfl rfl tyS24 (by omega) (by omega)) rfl<|L.storeU rfl rfl hb11 (by omega) tyP67 ?_
  intro w3 hb11' hm3
  replace h:=h.mod hm3 (by simp);replace hm0:=hm0.old1 hm3 hge_g11;clear hm3;replace hb11:=hb11'; clear hb11'
  refine L.nil<|X.seq<|W.region<|L.m rfl rfl<|L.m rfl rfl<|L.v (R1.remL rfl rfl (by omega)) rfl<|L.a rfl rfl<|L.nil<|X.blockEnd<|X.seq<|W.region ?_
  refine L.m rfl rfl<|L.v ((R1.sub rfl rfl).as (j:=((m - 1:Nat):Int) - 1) (by rw [wrap_i64 (by omega) (by omega)]; omega)) rfl<|L.a rfl rfl<|L.nil<|X.next (m - 1,(r * 4294967296 + xs[m - 1]) % b,q.set (m - 1) ((r * 4294967296 + xs[m - 1]) / b)) ?_ ?_ ?_
  · exact ⟨rfl,rfl,rfl,rfl,rfl,trivial⟩
  ·
   refine ⟨by omega,by simpa using hql,set_lt hqx hq,Nat.mod_lt _ hb0,?_,hb11,h,hm0⟩
   rw [val_drop_set (by omega),val_drop_step (by omega),Nat.sub_add_cancel hm1]
   exact small_step hv rfl
  first | omega | (dsimp only; omega)
 intro hc16
 try simp only [bq,ne_eq] at hc16
 obtain rfl:m=0:=by omega
 rw [List.drop_zero,List.drop_zero] at hv
 refine W.exit<|X.thenExit<|X.nextExit<|X.here<|X.seq<|W.seq ?_
 have hU:U32 M w2 (.slice (some ⟨g11,0,none⟩) xs.length xs.length) q:=by
     have hU:=U32.of_blk (M:=M) hb11 (hbd0.not hge_g11) (by unfold maxLen; omega) hqx
     rw [hql] at hU; exact hU
 have hbdw:=hbd0.gr hm0
 refine W.region<|L.m rfl rfl<|L.call rfl (c_r1_Trim hU hbdw (by omega)) rfl ?_
 rintro v38 w4 ⟨h38,hm4⟩
 replace hm0:=hm0.trans hm4;clear hm4
 refine L.m rfl rfl<|L.a rfl rfl<|L.a rfl rfl<|L.nil<|X.seq<|W.ret<|X.result2 rfl (.tmp rfl (.tmp rfl .nil)) ?_
 have e1:val xs / b=val q:=by rw [hv,Nat.mul_add_div hb0,Nat.div_eq_of_lt hr,Nat.add_zero]
 have e2:val xs % b=r:=by rw [hv,Nat.mul_add_mod,Nat.mod_eq_of_lt hr]
 rw [e1,e2]
 exact ⟨_,rfl,h38,hm0⟩
end Go.Proofs.YtedokfpoajfflaaGreat
