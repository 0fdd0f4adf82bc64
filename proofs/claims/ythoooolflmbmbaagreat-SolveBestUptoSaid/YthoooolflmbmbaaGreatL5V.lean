/- Walks: what the functions compute. -/
import Derived.Test.YthoooolflmbmbaaGreatL5X
import Derived.Test.YthoooolflmbmbaaGreatL5K
namespace Go.Proofs.YthoooolflmbmbaaGreat
open Go.RowKit
set_option linter.unusedVariables false
set_option linter.unusedSimpArgs false
set_option maxRecDepth 10000
theorem fillK1 (v1:Int) (T1:Option Addr) (l1 t1:Nat) (s1:Bool) (A1:Option Addr) (n1 c1:Nat) (B1:Option Addr) (m1 d1:Nat):Instr.fill (fun i=>some (i * 5,5)) ((Array.range (1 * 5)).map ((Value.agg #[.int .i64 0,.slice none 0 0,.bool false,.slice none 0 0,.slice none 0 0]).cells[· % (Value.agg #[.int .i64 0,.slice none 0 0,.bool false,.slice none 0 0,.slice none 0 0]).cells.size]!)) [(0,.agg #[.int .i64 v1,.slice T1 l1 t1,.bool s1,.slice A1 n1 c1,.slice B1 m1 d1])]=some #[.int .i64 v1,.slice T1 l1 t1,.bool s1,.slice A1 n1 c1,.slice B1 m1 d1]:=by kernel_rfl
theorem built_C012 (v:Int) (T:Option Addr) (l t:Nat) (s:Bool) (A:Option Addr) (n c:Nat) (B:Option Addr) (m d:Nat):Tryz.prog.built 42 [(0,.int .i64 v),(1,.slice T l t),(2,.agg #[.bool s,.slice A n c,.slice B m d])]=some #[.int .i64 v,.slice T l t,.bool s,.slice A n c,.slice B m d]:=by kernel_rfl
theorem c_Holds10 {M : List Nat} {w : World} {c : CR} {vt vn vd : Value} (ht : Lay rdT M w vt c.ts) (h : U32 M w vn c.k.n) (k : U32 M w vd c.k.d) {N8 : List Nat} {vv : Value} {val : List QR} (hv : Lay rdQ N8 w vv val) (hbd : Bd M w) (hsm : SmC 10000 c) (hsv : ∀ q ∈ val, SmQ 10000 q) :
    Ret Tryz.prog 10 #[.agg #[.int .i64 c.st,vt,.bool c.k.s,vn,vd],vv] w (fun r w'=>r=.bool (decide (atG val c.ts (QR.val c.k)=0))∧Mod [] w w'):=by
 obtain ⟨T9,t9,rfl⟩:=ht.form;obtain ⟨A9,c9,rfl⟩:=h.form;obtain ⟨B9,e9,rfl⟩:=k.form
 refine Ret.of (vs:=[.agg #[.int .i64 c.st,.slice T9 c.ts.length t9,.bool c.k.s,.slice A9 c.k.n.length c9,.slice B9 c.k.d.length e9],vv]) (n:=9) Tryz.func10 rfl rfl rfl rfl ?_
 have C0:Mod [] w w:=Mod.refl _ _
 refine W.sr<|L.box rfl rfl ?_
 intro g2 w1 D2
 replace ht:=ht.new D2;replace h:=h.new D2;replace k:=k.new D2;replace hv:=hv.new D2;replace hbd:=hbd.new D2;replace C0:=C0.tn D2;have E2:=D2.blk;clear D2
 refine L.b rfl<|L.z<|W.sr<|L.v (R1.loadBox rfl E2 tyG42) rfl<|L.k rfl<|L.c rfl (c_ref8_At ht h k hv hbd hsm hsv) ?_
 rintro _ w2 ⟨⟨A7,c7,B7,e7,rfl,I7,H7⟩,C2⟩
 replace ht:=ht.gr C2;replace h:=h.gr C2;replace k:=k.gr C2;replace hv:=hv.gr C2;replace hbd:=hbd.gr C2;replace C0:=C0.trans C2;clear C2;have F7:=at_fit ht h k hv hsm hsv
 refine L.c rfl (c_ref2_Zero (q:=(atG val c.ts (QR.val c.k))) (rv_toL _) I7 H7 hbd (Nat.le_trans F7.1 (by decide)) (Nat.le_trans F7.2 (by decide))) ?_
 rintro _ w3 ⟨rfl,C3⟩
 replace C0:=C0.trans C3;clear C3
 refine L.b rfl<|L.z<|W.ret<|X.result1 rfl (.tmp rfl .nil) ?_
 exact ⟨rfl,C0⟩
set_option maxHeartbeats 2000000 in
theorem c_all12 {M : List Nat} {w : World} {vl vb : Value} {cs : List CR} {bs : List QR} {n : Nat} (hL : Lay rdC M w vl cs) (hvb : Lay rdQ M w vb bs) (hbd : Bd M w) (hsm : ∀ c ∈ cs, SmC 150 c) (hsb : ∀ q ∈ bs, SmQ 3 q) (hcl : cs.length ≤ 1000) (I64 : n ≤ 64) :
    Ret Tryz.prog 28 #[vl,vb,.int .i64 (n:Int)] w (fun r w'=>∃ r1 r2,r=.tuple #[r1,r2]∧Lay rdC M w' r1 (fzC n (cs ++ staysL bs n))∧Lay rdI M w' r2 ((fzI n (cs ++ staysL bs n)).map fun (x:Nat)=>(x:Int))∧Mod [] w w'):=by
 have hbd0:=hbd;obtain ⟨TL,tL,rfl⟩:=hL.form;obtain ⟨TB,tB,rfl⟩:=hvb.form
 refine Ret.of (vs:=[.slice TL cs.length tL,.slice TB bs.length tB,.int .i64 (n:Int)]) (n:=72) Tryz.func28 rfl rfl rfl rfl ?_
 have C0:Mod [] w w:=Mod.refl _ _
 refine W.sr<|L.b rfl<|L.b rfl<|L.z<|W.sr<|L.b rfl<|L.z ?_
 refine W.sr<|L.b rfl<|L.z<|W.seq<|W.sr<|L.b rfl<|L.z ?_
 refine W.block<|W.loop (ι:=Nat × Value × List (List Value) × Value) (fun (i,u1,css,u2)=>[(0,.slice TL cs.length tL),(1,.slice TB bs.length tB),(2,.int .i64 (n:Int)),(8,u1),(9,u2),(10,.int .i64 (i:Int))]) (fun (i,u1,css,u2) w_=>Lay rdC (ownL u1 ++ (ownL u2 ++ M)) w_ (.slice TL cs.length tL) cs∧Lay rdQ (ownL u1 ++ (ownL u2 ++ M)) w_ (.slice TB bs.length tB) bs∧w_.ownsRow w.heap.size 42 5 u1 (fzC n (cs.take i)).length css.flatten∧LayL rdC (ownL u1 ++ (ownL u2 ++ M)) w_ css (fzC n (cs.take i))∧w_.ownsRow w.heap.size 3 1 u2 (fzI n (cs.take i)).length (ints (fzI n (cs.take i)))∧Away u1 u2∧Bd (ownL u1 ++ (ownL u2 ++ M)) w_∧Mod [] w w_∧i≤cs.length) (fun (i,u1,css,u2)=>cs.length - i) (0,.slice none 0 0,[],.slice none 0 0) ?_ ?_ ?_
 · repeat' constructor
 ·
  exact ⟨hL.su,hvb.su,own_nil _ _ _ _,LayL.nil,own_nil _ _ _ _,Away.nil _ _,hbd.su,C0,Nat.zero_le _⟩
 rintro ⟨i,u1,css,u2⟩ w1 ⟨hL,hvb,O1,hl,O2,haw,hbd,C0,hi⟩
 refine W.seq<|W.sr<|L.k rfl<|L.k rfl<|L.lL rfl hL Q22<|L.lt rfl rfl<|L.z<|W.cond rfl ?_ ?_
 ·
  intro J17
  try simp only [bq,ne_eq] at J17
  refine W.skip<|X.seq<|W.seq<|W.block<|W.sr<|L.k rfl<|L.k rfl<|L.aL (j:=i) rfl rfl hL Q22 rfl (by omega) ?_
  obtain ⟨z23,cs23,P23,V23,vt23,ds23,rfl,Y23,vn23,vd23,rfl,I23,H23⟩:=Lay.elemQ hL (j:=i) (by omega);obtain ⟨T23,t23,rfl⟩:=Y23.form;obtain ⟨A23,c23,rfl⟩:=I23.form;obtain ⟨B23,e23,rfl⟩:=H23.form
  refine L.v (R1.loadE rfl V23 tyG42) rfl<|L.k rfl<|L.c rfl (c_ref8_Is Y23 I23 H23 (n:=(n:Int)) (by omega) hbd ((hsm _ (List.mem_of_getElem? P23)).mono (by decide))) ?_
  rintro _ w2 ⟨rfl,C2⟩
  replace hL:=hL.gr C2;replace hvb:=hvb.gr C2;replace O1:=own_gs O1 C2;replace hl:=hl.gr C2;replace O2:=own_gs O2 C2;replace hbd:=hbd.gr C2;replace C0:=C0.trans C2;replace Y23:=Y23.gr C2;replace I23:=I23.gr C2;replace H23:=H23.gr C2;clear C2
  refine L.z<|W.cond rfl ?_ ?_
  ·
   intro J25
   have hcc_:=J25
   refine W.region<|L.k rfl<|L.k rfl<|L.k rfl<|L.aL (j:=i) rfl rfl hL Q22 rfl (by omega) ?_
   obtain ⟨z30,cs30,P30,V30,vt30,ds30,rfl,Y30,vn30,vd30,rfl,I30,H30⟩:=Lay.elemQ hL (j:=i) (by omega);obtain ⟨T30,t30,rfl⟩:=Y30.form;obtain ⟨A30,c30,rfl⟩:=I30.form;obtain ⟨B30,e30,rfl⟩:=H30.form
   obtain rfl:z23=z30:=by have h9:=P30; rw [P23] at h9; injection h9
   refine L.v (R1.loadE rfl V30 tyG42) rfl<|L.buildSlice (cells:=[.int .i64 z23.st,.slice T30 z23.ts.length t30,.bool z23.k.s,.slice A30 z23.k.n.length c30,.slice B30 z23.k.d.length e30]) rfl Q22 tyZ42 (fillK1 _ _ _ _ _ _ _ _ _ _ _) (by decide) (by decide) rfl ?_
   intro g31 w3 D31
   replace hL:=hL.gr D31.mod;replace hvb:=hvb.gr D31.mod;replace O1:=own_gs O1 D31.mod;replace hl:=hl.gr D31.mod;replace O2:=own_gs O2 D31.mod;replace hbd:=hbd.gr D31.mod;replace C0:=C0.trans D31.mod;replace Y23:=Y23.gr D31.mod;replace I23:=I23.gr D31.mod;replace H23:=H23.gr D31.mod;replace Y30:=Y30.gr D31.mod;replace I30:=I30.gr D31.mod;replace H30:=H30.gr D31.mod
   have hrow:Sl [] w3 5 (.slice (some ⟨g31,0,none⟩) 1 1) 1 [.int .i64 z23.st,.slice T30 z23.ts.length t30,.bool z23.k.s,.slice A30 z23.k.n.length c30,.slice B30 z23.k.d.length e30]:=Sl.of_blk D31.blk 0 (Nat.le_refl _) (by decide) rfl (by simp) (fun j hj=>by simp)
   clear D31;have hfl:=fz_len n (cs.take i)
   rw [List.length_take] at hfl
   have hfc:(fzC n (cs.take i)).length=(fz n (cs.take i)).length:=by unfold fzC; simp
   have hfi:(fzI n (cs.take i)).length=(fz n (cs.take i)).length:=by unfold fzI; simp
   refine L.append rfl rfl O1 hrow (by intro c hc; simp only [List.mem_cons,List.not_mem_nil,or_false] at hc; rcases hc with rfl | rfl | rfl | rfl | rfl <;> rfl) Q22 tyZ42 (by omega) (by unfold maxLen; omega) C0.size rfl ?_
   intro v32 w4 O32' X32
   have haw_:=(Away.grew haw.symm X32 O2).symm;replace hL:=hL.gw X32;replace hvb:=hvb.gw X32;replace hl:=hl.gw X32;replace O2:=own_away (s':=1) (el':=0) (k':=0) (B':=0) (ys:=[]) O2 X32.mod (by first | assumption | exact Away.symm (by assumption));replace hbd:=hbd.gw X32;replace C0:=Mod.oldOwn C0 X32.mod O1;replace Y23:=Y23.gw X32;replace I23:=I23.gw X32;replace H23:=H23.gw X32;replace Y30:=Y30.gw X32;replace I30:=I30.gw X32;replace H30:=H30.gw X32;replace haw:=haw_; clear haw_;replace O1:=O32'; clear O32';clear X32
   refine L.k rfl<|L.k rfl<|L.build1 rfl rfl Q26 tyZ3 rfl ?_
   intro g35 w5 D35
   replace hL:=hL.gr D35.mod;replace hvb:=hvb.gr D35.mod;replace O1:=own_gs O1 D35.mod;replace hl:=hl.gr D35.mod;replace O2:=own_gs O2 D35.mod;replace hbd:=hbd.gr D35.mod;replace C0:=C0.trans D35.mod;replace Y23:=Y23.gr D35.mod;replace I23:=I23.gr D35.mod;replace H23:=H23.gr D35.mod;replace Y30:=Y30.gr D35.mod;replace I30:=I30.gr D35.mod;replace H30:=H30.gr D35.mod
   have hrow:Sl [] w5 1 (.slice (some ⟨g35,0,none⟩) 1 1) 1 [.int .i64 ((i:Int))]:=Sl.row1 D35.blk (by simp)
   clear D35
   refine L.append rfl rfl O2 hrow (by simp [Value.oneCell']) Q26 tyZ3 (by omega) (by unfold maxLen; omega) C0.size rfl ?_
   intro v36 w6 O36' X36
   have haw_:=Away.grew haw X36 O1;replace hL:=hL.gw X36;replace hvb:=hvb.gw X36;replace O1:=own_away (s':=1) (el':=0) (k':=0) (B':=0) (ys:=[]) O1 X36.mod (by first | assumption | exact Away.symm (by assumption));replace hl:=hl.gw X36;replace hbd:=hbd.gw X36;replace C0:=Mod.oldOwn C0 X36.mod O2;replace Y23:=Y23.gw X36;replace I23:=I23.gw X36;replace H23:=H23.gw X36;replace Y30:=Y30.gw X36;replace I30:=I30.gw X36;replace H30:=H30.gw X36;replace haw:=haw_; clear haw_;replace O2:=O36'; clear O36';clear X36
   refine L.b rfl<|L.b rfl<|L.nil<|X.blockEnd<|X.seq<|W.region<|L.k rfl<|L.inc rfl rfl (by omega)<|L.b rfl<|L.nil<|X.next (i + 1,v32,css ++ [[.int .i64 z23.st,.slice T30 z23.ts.length t30,.bool z23.k.s,.slice A30 z23.k.n.length c30,.slice B30 z23.k.d.length e30]],v36) ?_ ?_ ?_
   · repeat' constructor
   ·
    obtain ⟨e1,e2⟩:=take_snoc P23;obtain ⟨e3,e4⟩:=fz_yes (n:=n) (l:=cs.take i) J25
    rw [← e1] at e3 e4
    rw [e2] at e4
    exact ⟨hL.su,hvb.su,own_congr O1 (by rw [e3]; simp) (by simp),by rw [e3]; exact (hl.su).append (LayL.one _ z23 (rdC_mk (Y30.su) (I30.su) (H30.su))),own_congr O2 (by rw [e4]; simp) (by rw [e4,ints_append]; rfl),haw,hbd.su,C0,by omega⟩
   first | omega | (dsimp only; omega)
  intro J25
  have hcc_:=J25
  refine W.skip<|X.blockEnd<|X.seq<|W.region<|L.k rfl<|L.inc rfl rfl (by omega)<|L.b rfl<|L.nil<|X.next (i + 1,u1,css,u2) ?_ ?_ ?_
  · repeat' constructor
  ·
   obtain ⟨e1,e2⟩:=take_snoc P23;obtain ⟨e3,e4⟩:=fz_no (n:=n) (l:=cs.take i) J25
   rw [← e1] at e3 e4
   exact ⟨hL.su,hvb.su,own_congr O1 (by rw [e3]) rfl,by rw [e3]; exact hl.su,own_congr O2 (by rw [e4]) (by rw [e4]),haw,hbd.su,C0,by omega⟩
  first | omega | (dsimp only; omega)
 intro J17
 try simp only [bq,ne_eq] at J17
 obtain rfl:i=cs.length:=by omega
 rw [List.take_length] at O1 hl O2
 refine W.brk<|W.seq<|W.sr<|L.b rfl<|L.z ?_
 refine W.block<|W.loop (ι:=Nat × Value × List (List Value) × Value) (fun (v,u1,css,u2)=>[(0,.slice TL cs.length tL),(1,.slice TB bs.length tB),(2,.int .i64 (n:Int)),(8,u1),(9,u2),(11,.int .i64 (v:Int))]) (fun (v,u1,css,u2) w_=>Lay rdC (ownL u1 ++ (ownL u2 ++ M)) w_ (.slice TL cs.length tL) cs∧Lay rdQ (ownL u1 ++ (ownL u2 ++ M)) w_ (.slice TB bs.length tB) bs∧w_.ownsRow w.heap.size 42 5 u1 (fzC n (cs ++ staysL bs v)).length css.flatten∧LayL rdC (ownL u1 ++ (ownL u2 ++ M)) w_ css (fzC n (cs ++ staysL bs v))∧w_.ownsRow w.heap.size 3 1 u2 (fzI n (cs ++ staysL bs v)).length (ints (fzI n (cs ++ staysL bs v)))∧Away u1 u2∧Bd (ownL u1 ++ (ownL u2 ++ M)) w_∧Mod [] w w_∧v≤n) (fun (v,u1,css,u2)=>n - v) (0,u1,css,u2) ?_ ?_ ?_
 · repeat' constructor
 ·
  exact ⟨hL.su,hvb.su,own_congr O1 (by simp [staysL]) rfl,by simpa [staysL] using hl.su,own_congr O2 (by simp [staysL]) (by simp [staysL]),haw,hbd.su,C0,Nat.zero_le _⟩
 rintro ⟨v,u1,css,u2⟩ w7 ⟨hL,hvb,O1,hl,O2,haw,hbd,C0,hi⟩
 refine W.seq<|W.sr<|L.k rfl<|L.k rfl<|L.lt rfl rfl<|L.z<|W.cond rfl ?_ ?_
 ·
  intro J39
  try simp only [bq,ne_eq] at J39
  refine W.skip<|X.seq<|W.seq<|W.block<|W.sr<|L.c rfl (c_ref2_Int (n:=0) (by decide) (by decide) hbd) ?_
  rintro _ w8 ⟨⟨A42,c42,B42,e42,rfl,I42,H42⟩,C8⟩
  replace hL:=hL.gr C8;replace hvb:=hvb.gr C8;replace O1:=own_gs O1 C8;replace hl:=hl.gr C8;replace O2:=own_gs O2 C8;replace hbd:=hbd.gr C8;replace C0:=C0.trans C8;clear C8;have F42:=Fit.int (n:=0) (by decide) (by decide)
  refine L.alloc tyZ40 rfl ?_
  intro g12 w9 D12
  replace hL:=hL.new D12;replace hvb:=hvb.new D12;have hno_ho1_g12:=own_ne_new O1 D12;replace O1:=own_gs O1 D12.mod;replace hl:=hl.new D12;have hno_ho2_g12:=own_ne_new O2 D12;replace O2:=own_gs O2 D12.mod;replace hbd:=hbd.new D12;have K12:=New.ge D12 C0.size;replace C0:=C0.tn D12;replace I42:=I42.new D12;replace H42:=H42.new D12;have E12:=D12.blk;clear D12
  refine L.storeBox rfl rfl E12 rfl rfl tyG40 ?_
  intro w10 E12' C10
  replace hL:=hL.ms C10;replace hvb:=hvb.ms C10;replace O1:=own_far O1 C10 hno_ho1_g12;replace hl:=hl.ms C10;replace O2:=own_far O2 C10 hno_ho2_g12;replace hbd:=hbd.gr C10;replace C0:=C0.old1 C10 K12;replace I42:=I42.ms C10;replace H42:=H42.ms C10;clear C10;replace E12:=E12'; clear E12'
  refine L.z<|W.seq<|W.sr<|L.k rfl<|L.k rfl<|L.lL rfl hvb Q23<|L.lt rfl rfl<|L.z ?_
  refine W.cut (ι:=Option Addr × Nat × Option Addr × Nat) (fun (A12,c12,B12,e12)=>[(0,.slice TL cs.length tL),(1,.slice TB bs.length tB),(2,.int .i64 (n:Int)),(8,u1),(9,u2),(11,.int .i64 (v:Int)),(12,.pointer (some ⟨g12,0,none⟩))]) (fun (A12,c12,B12,e12) w_=>Lay rdC (g12 :: (ownL u1 ++ (ownL u2 ++ M))) w_ (.slice TL cs.length tL) cs∧Lay rdQ (g12 :: (ownL u1 ++ (ownL u2 ++ M))) w_ (.slice TB bs.length tB) bs∧w_.ownsRow w.heap.size 42 5 u1 (fzC n (cs ++ staysL bs v)).length css.flatten∧LayL rdC (g12 :: (ownL u1 ++ (ownL u2 ++ M))) w_ css (fzC n (cs ++ staysL bs v))∧w_.ownsRow w.heap.size 3 1 u2 (fzI n (cs ++ staysL bs v)).length (ints (fzI n (cs ++ staysL bs v)))∧Away u1 u2∧Bd (g12 :: (ownL u1 ++ (ownL u2 ++ M))) w_∧Mod [] w w_∧U32 (g12 :: (ownL u1 ++ (ownL u2 ++ M))) w_ (.slice A12 (toL (valOf bs (v:Int)).num.natAbs).length c12) (toL (valOf bs (v:Int)).num.natAbs)∧U32 (g12 :: (ownL u1 ++ (ownL u2 ++ M))) w_ (.slice B12 (toL (valOf bs (v:Int)).den).length e12) (toL (valOf bs (v:Int)).den)∧Blk w_ g12 40 #[.bool (decide ((valOf bs (v:Int)).num<0)),.slice A12 (toL (valOf bs (v:Int)).num.natAbs).length c12,.slice B12 (toL (valOf bs (v:Int)).den).length e12]∧u1.ownBlock≠some g12∧u2.ownBlock≠some g12∧w.heap.size≤g12) ?_ ?_
  ·
   refine W.cond rfl ?_ ?_
   ·
    intro J46
    try simp only [bq,ne_eq] at J46
    refine W.region<|L.k rfl<|L.k rfl<|L.aL (j:=v) rfl rfl hvb Q23 rfl (by omega) ?_
    obtain ⟨z50,cs50,P50,V50,vn50,vd50,rfl,I50,H50⟩:=Lay.elemQ hvb (j:=v) (by omega);obtain ⟨A50,c50,rfl⟩:=I50.form;obtain ⟨B50,e50,rfl⟩:=H50.form
    refine L.v (R1.loadE rfl V50 tyG40) rfl ?_
    have F50:=fit_sm I50 H50 (hsb _ (List.mem_of_getElem? P50))
    refine L.c rfl (c_ref2_Norm (q:=(QR.val z50)) rfl I50 H50 hbd (Nat.le_trans (hsb _ (List.mem_of_getElem? P50)).1 (by decide)) (Nat.le_trans (hsb _ (List.mem_of_getElem? P50)).2 (by decide))) ?_
    rintro _ w11 ⟨⟨A51,c51,B51,e51,rfl,I51,H51⟩,C11⟩
    replace hL:=hL.gr C11;replace hvb:=hvb.gr C11;replace O1:=own_gs O1 C11;replace hl:=hl.gr C11;replace O2:=own_gs O2 C11;replace hbd:=hbd.gr C11;replace C0:=C0.trans C11;replace E12:=E12.gr C11;clear C11;have F51:=F50
    refine L.storeBox rfl rfl E12 rfl rfl tyG40 ?_
    intro w12 E12' C12
    replace hL:=hL.ms C12;replace hvb:=hvb.ms C12;replace O1:=own_far O1 C12 hno_ho1_g12;replace hl:=hl.ms C12;replace O2:=own_far O2 C12 hno_ho2_g12;replace hbd:=hbd.gr C12;replace C0:=C0.old1 C12 K12;replace I51:=I51.ms C12;replace H51:=H51.ms C12;clear C12;replace E12:=E12'; clear E12'
    refine L.nil<|X.join (A51,c51,B51,e51) ?_ ?_
    · repeat' constructor
    have e9:valOf bs (v:Int)=QR.val z50:=valOf_some (by omega) (by rw [Int.toNat_natCast]; exact P50)
    rw [e9]
    exact ⟨hL.su,hvb.su,O1,hl.su,O2,haw,hbd.su,C0,I51.su,H51.su,E12,hno_ho1_g12,hno_ho2_g12,K12⟩
   intro J46
   try simp only [bq,ne_eq] at J46
   refine W.skip<|X.join (A42,c42,B42,e42) ?_ ?_
   · repeat' constructor
   have e9:valOf bs (v:Int)=(((0:Int)):Rat):=by rw [valOf_none (by omega)]; rfl
   rw [e9]
   exact ⟨hL.su,hvb.su,O1,hl.su,O2,haw,hbd.su,C0,I42.su,H42.su,E12,hno_ho1_g12,hno_ho2_g12,K12⟩
  rintro ⟨A12,c12,B12,e12⟩ wj ⟨hL,hvb,O1,hl,O2,haw,hbd,C0,I12,H12,E12,hno_ho1_g12,hno_ho2_g12,K12⟩
  have F12:=valOf_fit hvb hsb (v:Int)
  refine X.seq<|W.seq<|W.cut (ι:=Nat × Option Addr × Nat × Option Addr × Nat × Nat) (fun (g55,A57,c57,B57,e57,g13)=>[(0,.slice TL cs.length tL),(1,.slice TB bs.length tB),(2,.int .i64 (n:Int)),(8,u1),(9,u2),(11,.int .i64 (v:Int)),(13,.pointer (some ⟨g13,0,none⟩))]) (fun (g55,A57,c57,B57,e57,g13) w_=>Lay rdC (ownL u1 ++ (ownL u2 ++ M)) w_ (.slice TL cs.length tL) cs∧Lay rdQ (ownL u1 ++ (ownL u2 ++ M)) w_ (.slice TB bs.length tB) bs∧w_.ownsRow w.heap.size 42 5 u1 (fzC n (cs ++ staysL bs v)).length css.flatten∧LayL rdC (ownL u1 ++ (ownL u2 ++ M)) w_ css (fzC n (cs ++ staysL bs v))∧w_.ownsRow w.heap.size 3 1 u2 (fzI n (cs ++ staysL bs v)).length (ints (fzI n (cs ++ staysL bs v)))∧Away u1 u2∧Bd (ownL u1 ++ (ownL u2 ++ M)) w_∧Mod [] w w_∧Lay rdT (ownL u1 ++ (ownL u2 ++ M)) w_ (.slice (some ⟨g55,0,none⟩) 1 1) (stC bs v).ts∧U32 (ownL u1 ++ (ownL u2 ++ M)) w_ (.slice A57 (toL (-(valOf bs (v:Int))).num.natAbs).length c57) (toL (-(valOf bs (v:Int))).num.natAbs)∧U32 (ownL u1 ++ (ownL u2 ++ M)) w_ (.slice B57 (toL (-(valOf bs (v:Int))).den).length e57) (toL (-(valOf bs (v:Int))).den)∧Blk w_ g13 42 #[.int .i64 4,.slice (some ⟨g55,0,none⟩) 1 1,.bool (decide ((-(valOf bs (v:Int))).num<0)),.slice A57 (toL (-(valOf bs (v:Int))).num.natAbs).length c57,.slice B57 (toL (-(valOf bs (v:Int))).den).length e57]∧u1.ownBlock≠some g13∧u2.ownBlock≠some g13) ?_ ?_
  ·
   refine W.drawW (T:=[8]) rfl (by decide +kernel) (NoHang.join (NoHang.then (NoHang.block (NoHang.then (NoHang.next (NoHang.block (NoHang.then NoHang.post))))))) (fun w13 C13=>?_)
   replace hL:=hL.gr C13;replace hvb:=hvb.gr C13;replace O1:=own_gs O1 C13;replace hl:=hl.gr C13;replace O2:=own_gs O2 C13;replace hbd:=hbd.gr C13;replace C0:=C0.trans C13;replace I12:=I12.gr C13;replace H12:=H12.gr C13;replace E12:=E12.gr C13
   have G1:Mod [] w13 w13:=Mod.refl _ _
   clear C13;have hb12_s:=E12
   refine D.z 0 rfl (by kernel_rfl) rfl G1<|D.t 4 rfl (by kernel_rfl) (fun _ hS=>R1.loadBox rfl (hb12_s.gr hS) tyG40) G1<|D.many (rs:=[1,7]) (by decide +kernel) rfl ?_
   intro i_ hi_
   simp only [List.mem_cons,List.not_mem_nil,or_false] at hi_
   rcases hi_ with rfl | rfl
   ·
    refine ⟨_,rfl,fun hX=>?_⟩
    refine L.c rfl (c_ref2_Int (n:=1) (by decide) (by decide) hbd) ?_
    rintro _ w14 ⟨⟨A53,c53,B53,e53,rfl,I53,H53⟩,C14⟩
    replace hL:=hL.gr C14;replace hvb:=hvb.gr C14;replace O1:=own_gs O1 C14;replace hl:=hl.gr C14;replace O2:=own_gs O2 C14;replace hbd:=hbd.gr C14;replace C0:=C0.trans C14;replace I12:=I12.gr C14;replace H12:=H12.gr C14;replace G1:=G1.trans C14;clear C14;have F53:=Fit.int (n:=1) (by decide) (by decide)
    refine L.nil (hX _ _ ⟨.inr G1,?_⟩)
    refine D.t 2 rfl (by kernel_rfl) (fun _ hS=>R1.build (vs:=[.int .i64 (v:Int),.agg #[.bool (decide ((((1:Int)):Rat).num<0)),.slice A53 (toL (((1:Int)):Rat).num.natAbs).length c53,.slice B53 (toL (((1:Int)):Rat).den).length e53]]) rfl (built_T01 _ _ _ _ _ _ _ _)) G1<|D.many (rs:=[3,5,7]) (by decide +kernel) rfl ?_
    intro i_ hi_
    simp only [List.mem_cons,List.not_mem_nil,or_false] at hi_
    rcases hi_ with rfl | rfl | rfl
    ·
     refine ⟨_,rfl,fun hX=>?_⟩
     refine L.buildSlice (cells:=[.int .i64 (v:Int),.bool (decide ((((1:Int)):Rat).num<0)),.slice A53 (toL (((1:Int)):Rat).num.natAbs).length c53,.slice B53 (toL (((1:Int)):Rat).den).length e53]) rfl Q37 tyZ47 (fillN1 _ _ _ _ _ _ _ _) (by decide) (by decide) rfl ?_
     intro g55 w15 D55
     replace G1:=G1.trans D55.mod;replace hL:=hL.new D55;replace hvb:=hvb.new D55;have hno_ho1_g55:=own_ne_new O1 D55;replace O1:=own_gs O1 D55.mod;replace hl:=hl.new D55;have hno_ho2_g55:=own_ne_new O2 D55;replace O2:=own_gs O2 D55.mod;replace hbd:=hbd.new D55;have K55:=New.ge D55 C0.size;replace C0:=C0.tn D55;replace I12:=I12.new D55;replace H12:=H12.new D55;replace I53:=I53.new D55;replace H53:=H53.new D55;have E55:=D55.blk;clear D55
     refine L.nil (hX _ _ ⟨.inr G1,?_⟩)
     refine D.many (rs:=[5,7]) (by decide +kernel) rfl ?_
     intro i_ hi_
     simp only [List.mem_cons,List.not_mem_nil,or_false] at hi_
     rcases hi_ with rfl | rfl
     ·
      refine ⟨_,rfl,fun hX=>?_⟩
      refine L.c rfl (c_ref2_Neg (q:=(valOf bs (v:Int))) (rv_toL _) I12 H12 hbd (Nat.le_trans F12.1 (by decide)) (Nat.le_trans F12.2 (by decide))) ?_
      rintro _ w16 ⟨⟨A57,c57,B57,e57,rfl,I57,H57⟩,C16⟩
      replace hL:=hL.gr C16;replace hvb:=hvb.gr C16;replace O1:=own_gs O1 C16;replace hl:=hl.gr C16;replace O2:=own_gs O2 C16;replace hbd:=hbd.gr C16;replace C0:=C0.trans C16;replace I53:=I53.gr C16;replace H53:=H53.gr C16;replace E55:=E55.gr C16;replace G1:=G1.trans C16;clear C16;have F57:=Fit.neg F12
      refine L.nil (hX _ _ ⟨.inr G1,?_⟩)
      refine D.t 6 rfl (by kernel_rfl) (fun _ hS=>R1.build (vs:=[.int .i64 4,.slice (some ⟨g55,0,none⟩) 1 1,.agg #[.bool (decide ((-(valOf bs (v:Int))).num<0)),.slice A57 (toL (-(valOf bs (v:Int))).num.natAbs).length c57,.slice B57 (toL (-(valOf bs (v:Int))).den).length e57]]) rfl (built_C012 _ _ _ _ _ _ _ _ _ _ _)) G1<|D.one 7 rfl (by kernel_rfl) (fun hX=>?_)
      refine L.alloc tyZ42 rfl ?_
      intro g13 w17 D13
      replace G1:=G1.trans D13.mod;replace hL:=hL.new D13;replace hvb:=hvb.new D13;have hno_ho1_g13:=own_ne_new O1 D13;replace O1:=own_gs O1 D13.mod;replace hl:=hl.new D13;have hno_ho2_g13:=own_ne_new O2 D13;replace O2:=own_gs O2 D13.mod;replace hbd:=hbd.new D13;have K13:=New.ge D13 C0.size;replace C0:=C0.tn D13;replace I53:=I53.new D13;replace H53:=H53.new D13;have hne_g55_g13:=E55.ne_ D13;replace E55:=E55.gr D13.mod;replace I57:=I57.new D13;replace H57:=H57.new D13;have E13:=D13.blk;clear D13
      refine L.nil (hX _ _ ⟨.inr G1,?_⟩)
      refine D.one 8 rfl (by kernel_rfl) (fun hX=>?_)
      refine L.storeBox rfl rfl E13 rfl rfl tyG42 ?_
      intro w18 E13' C18
      replace hL:=hL.ms C18;replace hvb:=hvb.ms C18;replace O1:=own_far O1 C18 hno_ho1_g13;replace hl:=hl.ms C18;replace O2:=own_far O2 C18 hno_ho2_g13;replace hbd:=hbd.gr C18;replace C0:=C0.old1 C18 K13;replace I53:=I53.ms C18;replace H53:=H53.ms C18;replace E55:=E55.fr C18;replace I57:=I57.ms C18;replace H57:=H57.ms C18;clear C18;replace E13:=E13'; clear E13'
      refine L.nil (hX _ _ ⟨.inl rfl,?_⟩)
      refine D.done (by decide +kernel) ?_ _
      refine X.join (g55,A57,c57,B57,e57,g13) ?_ ?_
      · repeat' constructor
      have hT:Lay rdT (ownL u1 ++ (ownL u2 ++ M)) w18 (.slice (some ⟨g55,0,none⟩) 1 1) (stC bs v).ts:=Lay.of_blk (css:=[[.int .i64 (v:Int),.bool (decide ((((1:Int)):Rat).num<0)),.slice A53 (toL (((1:Int)):Rat).num.natAbs).length c53,.slice B53 (toL (((1:Int)):Rat).den).length e53]]) E55 (LayL.one _ (⟨(v:Int),QR.nf (((1:Int)):Rat)⟩:TR) (rdT_mk (t:=⟨(v:Int),QR.nf (((1:Int)):Rat)⟩) (I53.su) (H53.su))) rfl rfl (by decide) (by simp [not_own hno_ho1_g55,not_own hno_ho2_g55,hbd0.not K55])
      exact ⟨hL.su,hvb.su,O1,hl.su,O2,haw,hbd.su,C0,hT.su,I57.su,H57.su,E13,hno_ho1_g13,hno_ho2_g13⟩
     refine ⟨_,rfl,fun hX=>?_⟩
     refine L.alloc tyZ42 rfl ?_
     intro g13 w19 D13
     replace G1:=G1.trans D13.mod;replace hL:=hL.new D13;replace hvb:=hvb.new D13;have hno_ho1_g13:=own_ne_new O1 D13;replace O1:=own_gs O1 D13.mod;replace hl:=hl.new D13;have hno_ho2_g13:=own_ne_new O2 D13;replace O2:=own_gs O2 D13.mod;replace hbd:=hbd.new D13;have K13:=New.ge D13 C0.size;replace C0:=C0.tn D13;replace I12:=I12.new D13;replace H12:=H12.new D13;replace I53:=I53.new D13;replace H53:=H53.new D13;have hne_g55_g13:=E55.ne_ D13;replace E55:=E55.gr D13.mod;have E13:=D13.blk;clear D13
     refine L.nil (hX _ _ ⟨.inr G1,?_⟩)
     refine D.one 5 rfl (by kernel_rfl) (fun hX=>?_)
     refine L.c rfl (c_ref2_Neg (q:=(valOf bs (v:Int))) (rv_toL _) I12 H12 hbd (Nat.le_trans F12.1 (by decide)) (Nat.le_trans F12.2 (by decide))) ?_
     rintro _ w20 ⟨⟨A57,c57,B57,e57,rfl,I57,H57⟩,C20⟩
     replace hL:=hL.gr C20;replace hvb:=hvb.gr C20;replace O1:=own_gs O1 C20;replace hl:=hl.gr C20;replace O2:=own_gs O2 C20;replace hbd:=hbd.gr C20;replace C0:=C0.trans C20;replace I53:=I53.gr C20;replace H53:=H53.gr C20;replace E55:=E55.gr C20;replace E13:=E13.gr C20;replace G1:=G1.trans C20;clear C20;have F57:=Fit.neg F12
     refine L.nil (hX _ _ ⟨.inr G1,?_⟩)
     refine D.t 6 rfl (by kernel_rfl) (fun _ hS=>R1.build (vs:=[.int .i64 4,.slice (some ⟨g55,0,none⟩) 1 1,.agg #[.bool (decide ((-(valOf bs (v:Int))).num<0)),.slice A57 (toL (-(valOf bs (v:Int))).num.natAbs).length c57,.slice B57 (toL (-(valOf bs (v:Int))).den).length e57]]) rfl (built_C012 _ _ _ _ _ _ _ _ _ _ _)) G1<|D.one 8 rfl (by kernel_rfl) (fun hX=>?_)
     refine L.storeBox rfl rfl E13 rfl rfl tyG42 ?_
     intro w21 E13' C21
     replace hL:=hL.ms C21;replace hvb:=hvb.ms C21;replace O1:=own_far O1 C21 hno_ho1_g13;replace hl:=hl.ms C21;replace O2:=own_far O2 C21 hno_ho2_g13;replace hbd:=hbd.gr C21;replace C0:=C0.old1 C21 K13;replace I53:=I53.ms C21;replace H53:=H53.ms C21;replace E55:=E55.fr C21;replace I57:=I57.ms C21;replace H57:=H57.ms C21;clear C21;replace E13:=E13'; clear E13'
     refine L.nil (hX _ _ ⟨.inl rfl,?_⟩)
     refine D.done (by decide +kernel) ?_ _
     refine X.join (g55,A57,c57,B57,e57,g13) ?_ ?_
     · repeat' constructor
     have hT:Lay rdT (ownL u1 ++ (ownL u2 ++ M)) w21 (.slice (some ⟨g55,0,none⟩) 1 1) (stC bs v).ts:=Lay.of_blk (css:=[[.int .i64 (v:Int),.bool (decide ((((1:Int)):Rat).num<0)),.slice A53 (toL (((1:Int)):Rat).num.natAbs).length c53,.slice B53 (toL (((1:Int)):Rat).den).length e53]]) E55 (LayL.one _ (⟨(v:Int),QR.nf (((1:Int)):Rat)⟩:TR) (rdT_mk (t:=⟨(v:Int),QR.nf (((1:Int)):Rat)⟩) (I53.su) (H53.su))) rfl rfl (by decide) (by simp [not_own hno_ho1_g55,not_own hno_ho2_g55,hbd0.not K55])
     exact ⟨hL.su,hvb.su,O1,hl.su,O2,haw,hbd.su,C0,hT.su,I57.su,H57.su,E13,hno_ho1_g13,hno_ho2_g13⟩
    ·
     refine ⟨_,rfl,fun hX=>?_⟩
     refine L.c rfl (c_ref2_Neg (q:=(valOf bs (v:Int))) (rv_toL _) I12 H12 hbd (Nat.le_trans F12.1 (by decide)) (Nat.le_trans F12.2 (by decide))) ?_
     rintro _ w22 ⟨⟨A57,c57,B57,e57,rfl,I57,H57⟩,C22⟩
     replace hL:=hL.gr C22;replace hvb:=hvb.gr C22;replace O1:=own_gs O1 C22;replace hl:=hl.gr C22;replace O2:=own_gs O2 C22;replace hbd:=hbd.gr C22;replace C0:=C0.trans C22;replace I53:=I53.gr C22;replace H53:=H53.gr C22;replace G1:=G1.trans C22;clear C22;have F57:=Fit.neg F12
     refine L.nil (hX _ _ ⟨.inr G1,?_⟩)
     refine D.many (rs:=[3,7]) (by decide +kernel) rfl ?_
     intro i_ hi_
     simp only [List.mem_cons,List.not_mem_nil,or_false] at hi_
     rcases hi_ with rfl | rfl
     ·
      refine ⟨_,rfl,fun hX=>?_⟩
      refine L.buildSlice (cells:=[.int .i64 (v:Int),.bool (decide ((((1:Int)):Rat).num<0)),.slice A53 (toL (((1:Int)):Rat).num.natAbs).length c53,.slice B53 (toL (((1:Int)):Rat).den).length e53]) rfl Q37 tyZ47 (fillN1 _ _ _ _ _ _ _ _) (by decide) (by decide) rfl ?_
      intro g55 w23 D55
      replace G1:=G1.trans D55.mod;replace hL:=hL.new D55;replace hvb:=hvb.new D55;have hno_ho1_g55:=own_ne_new O1 D55;replace O1:=own_gs O1 D55.mod;replace hl:=hl.new D55;have hno_ho2_g55:=own_ne_new O2 D55;replace O2:=own_gs O2 D55.mod;replace hbd:=hbd.new D55;have K55:=New.ge D55 C0.size;replace C0:=C0.tn D55;replace I53:=I53.new D55;replace H53:=H53.new D55;replace I57:=I57.new D55;replace H57:=H57.new D55;have E55:=D55.blk;clear D55
      refine L.nil (hX _ _ ⟨.inr G1,?_⟩)
      refine D.t 6 rfl (by kernel_rfl) (fun _ hS=>R1.build (vs:=[.int .i64 4,.slice (some ⟨g55,0,none⟩) 1 1,.agg #[.bool (decide ((-(valOf bs (v:Int))).num<0)),.slice A57 (toL (-(valOf bs (v:Int))).num.natAbs).length c57,.slice B57 (toL (-(valOf bs (v:Int))).den).length e57]]) rfl (built_C012 _ _ _ _ _ _ _ _ _ _ _)) G1<|D.one 7 rfl (by kernel_rfl) (fun hX=>?_)
      refine L.alloc tyZ42 rfl ?_
      intro g13 w24 D13
      replace G1:=G1.trans D13.mod;replace hL:=hL.new D13;replace hvb:=hvb.new D13;have hno_ho1_g13:=own_ne_new O1 D13;replace O1:=own_gs O1 D13.mod;replace hl:=hl.new D13;have hno_ho2_g13:=own_ne_new O2 D13;replace O2:=own_gs O2 D13.mod;replace hbd:=hbd.new D13;have K13:=New.ge D13 C0.size;replace C0:=C0.tn D13;replace I53:=I53.new D13;replace H53:=H53.new D13;replace I57:=I57.new D13;replace H57:=H57.new D13;have hne_g55_g13:=E55.ne_ D13;replace E55:=E55.gr D13.mod;have E13:=D13.blk;clear D13
      refine L.nil (hX _ _ ⟨.inr G1,?_⟩)
      refine D.one 8 rfl (by kernel_rfl) (fun hX=>?_)
      refine L.storeBox rfl rfl E13 rfl rfl tyG42 ?_
      intro w25 E13' C25
      replace hL:=hL.ms C25;replace hvb:=hvb.ms C25;replace O1:=own_far O1 C25 hno_ho1_g13;replace hl:=hl.ms C25;replace O2:=own_far O2 C25 hno_ho2_g13;replace hbd:=hbd.gr C25;replace C0:=C0.old1 C25 K13;replace I53:=I53.ms C25;replace H53:=H53.ms C25;replace I57:=I57.ms C25;replace H57:=H57.ms C25;replace E55:=E55.fr C25;clear C25;replace E13:=E13'; clear E13'
      refine L.nil (hX _ _ ⟨.inl rfl,?_⟩)
      refine D.done (by decide +kernel) ?_ _
      refine X.join (g55,A57,c57,B57,e57,g13) ?_ ?_
      · repeat' constructor
      have hT:Lay rdT (ownL u1 ++ (ownL u2 ++ M)) w25 (.slice (some ⟨g55,0,none⟩) 1 1) (stC bs v).ts:=Lay.of_blk (css:=[[.int .i64 (v:Int),.bool (decide ((((1:Int)):Rat).num<0)),.slice A53 (toL (((1:Int)):Rat).num.natAbs).length c53,.slice B53 (toL (((1:Int)):Rat).den).length e53]]) E55 (LayL.one _ (⟨(v:Int),QR.nf (((1:Int)):Rat)⟩:TR) (rdT_mk (t:=⟨(v:Int),QR.nf (((1:Int)):Rat)⟩) (I53.su) (H53.su))) rfl rfl (by decide) (by simp [not_own hno_ho1_g55,not_own hno_ho2_g55,hbd0.not K55])
      exact ⟨hL.su,hvb.su,O1,hl.su,O2,haw,hbd.su,C0,hT.su,I57.su,H57.su,E13,hno_ho1_g13,hno_ho2_g13⟩
     refine ⟨_,rfl,fun hX=>?_⟩
     refine L.alloc tyZ42 rfl ?_
     intro g13 w26 D13
     replace G1:=G1.trans D13.mod;replace hL:=hL.new D13;replace hvb:=hvb.new D13;have hno_ho1_g13:=own_ne_new O1 D13;replace O1:=own_gs O1 D13.mod;replace hl:=hl.new D13;have hno_ho2_g13:=own_ne_new O2 D13;replace O2:=own_gs O2 D13.mod;replace hbd:=hbd.new D13;have K13:=New.ge D13 C0.size;replace C0:=C0.tn D13;replace I53:=I53.new D13;replace H53:=H53.new D13;replace I57:=I57.new D13;replace H57:=H57.new D13;have E13:=D13.blk;clear D13
     refine L.nil (hX _ _ ⟨.inr G1,?_⟩)
     refine D.one 3 rfl (by kernel_rfl) (fun hX=>?_)
     refine L.buildSlice (cells:=[.int .i64 (v:Int),.bool (decide ((((1:Int)):Rat).num<0)),.slice A53 (toL (((1:Int)):Rat).num.natAbs).length c53,.slice B53 (toL (((1:Int)):Rat).den).length e53]) rfl Q37 tyZ47 (fillN1 _ _ _ _ _ _ _ _) (by decide) (by decide) rfl ?_
     intro g55 w27 D55
     replace G1:=G1.trans D55.mod;replace hL:=hL.new D55;replace hvb:=hvb.new D55;have hno_ho1_g55:=own_ne_new O1 D55;replace O1:=own_gs O1 D55.mod;replace hl:=hl.new D55;have hno_ho2_g55:=own_ne_new O2 D55;replace O2:=own_gs O2 D55.mod;replace hbd:=hbd.new D55;have K55:=New.ge D55 C0.size;replace C0:=C0.tn D55;replace I53:=I53.new D55;replace H53:=H53.new D55;replace I57:=I57.new D55;replace H57:=H57.new D55;have hne_g13_g55:=E13.ne_ D55;replace E13:=E13.gr D55.mod;have E55:=D55.blk;clear D55
     refine L.nil (hX _ _ ⟨.inr G1,?_⟩)
     refine D.t 6 rfl (by kernel_rfl) (fun _ hS=>R1.build (vs:=[.int .i64 4,.slice (some ⟨g55,0,none⟩) 1 1,.agg #[.bool (decide ((-(valOf bs (v:Int))).num<0)),.slice A57 (toL (-(valOf bs (v:Int))).num.natAbs).length c57,.slice B57 (toL (-(valOf bs (v:Int))).den).length e57]]) rfl (built_C012 _ _ _ _ _ _ _ _ _ _ _)) G1<|D.one 8 rfl (by kernel_rfl) (fun hX=>?_)
     refine L.storeBox rfl rfl E13 rfl rfl tyG42 ?_
     intro w28 E13' C28
     replace hL:=hL.ms C28;replace hvb:=hvb.ms C28;replace O1:=own_far O1 C28 hno_ho1_g13;replace hl:=hl.ms C28;replace O2:=own_far O2 C28 hno_ho2_g13;replace hbd:=hbd.gr C28;replace C0:=C0.old1 C28 K13;replace I53:=I53.ms C28;replace H53:=H53.ms C28;replace I57:=I57.ms C28;replace H57:=H57.ms C28;replace E55:=E55.fr C28;clear C28;replace E13:=E13'; clear E13'
     refine L.nil (hX _ _ ⟨.inl rfl,?_⟩)
     refine D.done (by decide +kernel) ?_ _
     refine X.join (g55,A57,c57,B57,e57,g13) ?_ ?_
     · repeat' constructor
     have hT:Lay rdT (ownL u1 ++ (ownL u2 ++ M)) w28 (.slice (some ⟨g55,0,none⟩) 1 1) (stC bs v).ts:=Lay.of_blk (css:=[[.int .i64 (v:Int),.bool (decide ((((1:Int)):Rat).num<0)),.slice A53 (toL (((1:Int)):Rat).num.natAbs).length c53,.slice B53 (toL (((1:Int)):Rat).den).length e53]]) E55 (LayL.one _ (⟨(v:Int),QR.nf (((1:Int)):Rat)⟩:TR) (rdT_mk (t:=⟨(v:Int),QR.nf (((1:Int)):Rat)⟩) (I53.su) (H53.su))) rfl rfl (by decide) (by simp [not_own hno_ho1_g55,not_own hno_ho2_g55,hbd0.not K55])
     exact ⟨hL.su,hvb.su,O1,hl.su,O2,haw,hbd.su,C0,hT.su,I57.su,H57.su,E13,hno_ho1_g13,hno_ho2_g13⟩
    refine ⟨_,rfl,fun hX=>?_⟩
    refine L.alloc tyZ42 rfl ?_
    intro g13 w29 D13
    replace G1:=G1.trans D13.mod;replace hL:=hL.new D13;replace hvb:=hvb.new D13;have hno_ho1_g13:=own_ne_new O1 D13;replace O1:=own_gs O1 D13.mod;replace hl:=hl.new D13;have hno_ho2_g13:=own_ne_new O2 D13;replace O2:=own_gs O2 D13.mod;replace hbd:=hbd.new D13;have K13:=New.ge D13 C0.size;replace C0:=C0.tn D13;replace I12:=I12.new D13;replace H12:=H12.new D13;replace I53:=I53.new D13;replace H53:=H53.new D13;have E13:=D13.blk;clear D13
    refine L.nil (hX _ _ ⟨.inr G1,?_⟩)
    refine D.many (rs:=[3,5]) (by decide +kernel) rfl ?_
    intro i_ hi_
    simp only [List.mem_cons,List.not_mem_nil,or_false] at hi_
    rcases hi_ with rfl | rfl
    ·
     refine ⟨_,rfl,fun hX=>?_⟩
     refine L.buildSlice (cells:=[.int .i64 (v:Int),.bool (decide ((((1:Int)):Rat).num<0)),.slice A53 (toL (((1:Int)):Rat).num.natAbs).length c53,.slice B53 (toL (((1:Int)):Rat).den).length e53]) rfl Q37 tyZ47 (fillN1 _ _ _ _ _ _ _ _) (by decide) (by decide) rfl ?_
     intro g55 w30 D55
     replace G1:=G1.trans D55.mod;replace hL:=hL.new D55;replace hvb:=hvb.new D55;have hno_ho1_g55:=own_ne_new O1 D55;replace O1:=own_gs O1 D55.mod;replace hl:=hl.new D55;have hno_ho2_g55:=own_ne_new O2 D55;replace O2:=own_gs O2 D55.mod;replace hbd:=hbd.new D55;have K55:=New.ge D55 C0.size;replace C0:=C0.tn D55;replace I12:=I12.new D55;replace H12:=H12.new D55;replace I53:=I53.new D55;replace H53:=H53.new D55;have hne_g13_g55:=E13.ne_ D55;replace E13:=E13.gr D55.mod;have E55:=D55.blk;clear D55
     refine L.nil (hX _ _ ⟨.inr G1,?_⟩)
     refine D.one 5 rfl (by kernel_rfl) (fun hX=>?_)
     refine L.c rfl (c_ref2_Neg (q:=(valOf bs (v:Int))) (rv_toL _) I12 H12 hbd (Nat.le_trans F12.1 (by decide)) (Nat.le_trans F12.2 (by decide))) ?_
     rintro _ w31 ⟨⟨A57,c57,B57,e57,rfl,I57,H57⟩,C31⟩
     replace hL:=hL.gr C31;replace hvb:=hvb.gr C31;replace O1:=own_gs O1 C31;replace hl:=hl.gr C31;replace O2:=own_gs O2 C31;replace hbd:=hbd.gr C31;replace C0:=C0.trans C31;replace I53:=I53.gr C31;replace H53:=H53.gr C31;replace E13:=E13.gr C31;replace E55:=E55.gr C31;replace G1:=G1.trans C31;clear C31;have F57:=Fit.neg F12
     refine L.nil (hX _ _ ⟨.inr G1,?_⟩)
     refine D.t 6 rfl (by kernel_rfl) (fun _ hS=>R1.build (vs:=[.int .i64 4,.slice (some ⟨g55,0,none⟩) 1 1,.agg #[.bool (decide ((-(valOf bs (v:Int))).num<0)),.slice A57 (toL (-(valOf bs (v:Int))).num.natAbs).length c57,.slice B57 (toL (-(valOf bs (v:Int))).den).length e57]]) rfl (built_C012 _ _ _ _ _ _ _ _ _ _ _)) G1<|D.one 8 rfl (by kernel_rfl) (fun hX=>?_)
     refine L.storeBox rfl rfl E13 rfl rfl tyG42 ?_
     intro w32 E13' C32
     replace hL:=hL.ms C32;replace hvb:=hvb.ms C32;replace O1:=own_far O1 C32 hno_ho1_g13;replace hl:=hl.ms C32;replace O2:=own_far O2 C32 hno_ho2_g13;replace hbd:=hbd.gr C32;replace C0:=C0.old1 C32 K13;replace I53:=I53.ms C32;replace H53:=H53.ms C32;replace E55:=E55.fr C32;replace I57:=I57.ms C32;replace H57:=H57.ms C32;clear C32;replace E13:=E13'; clear E13'
     refine L.nil (hX _ _ ⟨.inl rfl,?_⟩)
     refine D.done (by decide +kernel) ?_ _
     refine X.join (g55,A57,c57,B57,e57,g13) ?_ ?_
     · repeat' constructor
     have hT:Lay rdT (ownL u1 ++ (ownL u2 ++ M)) w32 (.slice (some ⟨g55,0,none⟩) 1 1) (stC bs v).ts:=Lay.of_blk (css:=[[.int .i64 (v:Int),.bool (decide ((((1:Int)):Rat).num<0)),.slice A53 (toL (((1:Int)):Rat).num.natAbs).length c53,.slice B53 (toL (((1:Int)):Rat).den).length e53]]) E55 (LayL.one _ (⟨(v:Int),QR.nf (((1:Int)):Rat)⟩:TR) (rdT_mk (t:=⟨(v:Int),QR.nf (((1:Int)):Rat)⟩) (I53.su) (H53.su))) rfl rfl (by decide) (by simp [not_own hno_ho1_g55,not_own hno_ho2_g55,hbd0.not K55])
     exact ⟨hL.su,hvb.su,O1,hl.su,O2,haw,hbd.su,C0,hT.su,I57.su,H57.su,E13,hno_ho1_g13,hno_ho2_g13⟩
    refine ⟨_,rfl,fun hX=>?_⟩
    refine L.c rfl (c_ref2_Neg (q:=(valOf bs (v:Int))) (rv_toL _) I12 H12 hbd (Nat.le_trans F12.1 (by decide)) (Nat.le_trans F12.2 (by decide))) ?_
    rintro _ w33 ⟨⟨A57,c57,B57,e57,rfl,I57,H57⟩,C33⟩
    replace hL:=hL.gr C33;replace hvb:=hvb.gr C33;replace O1:=own_gs O1 C33;replace hl:=hl.gr C33;replace O2:=own_gs O2 C33;replace hbd:=hbd.gr C33;replace C0:=C0.trans C33;replace I53:=I53.gr C33;replace H53:=H53.gr C33;replace E13:=E13.gr C33;replace G1:=G1.trans C33;clear C33;have F57:=Fit.neg F12
    refine L.nil (hX _ _ ⟨.inr G1,?_⟩)
    refine D.one 3 rfl (by kernel_rfl) (fun hX=>?_)
    refine L.buildSlice (cells:=[.int .i64 (v:Int),.bool (decide ((((1:Int)):Rat).num<0)),.slice A53 (toL (((1:Int)):Rat).num.natAbs).length c53,.slice B53 (toL (((1:Int)):Rat).den).length e53]) rfl Q37 tyZ47 (fillN1 _ _ _ _ _ _ _ _) (by decide) (by decide) rfl ?_
    intro g55 w34 D55
    replace G1:=G1.trans D55.mod;replace hL:=hL.new D55;replace hvb:=hvb.new D55;have hno_ho1_g55:=own_ne_new O1 D55;replace O1:=own_gs O1 D55.mod;replace hl:=hl.new D55;have hno_ho2_g55:=own_ne_new O2 D55;replace O2:=own_gs O2 D55.mod;replace hbd:=hbd.new D55;have K55:=New.ge D55 C0.size;replace C0:=C0.tn D55;replace I53:=I53.new D55;replace H53:=H53.new D55;have hne_g13_g55:=E13.ne_ D55;replace E13:=E13.gr D55.mod;replace I57:=I57.new D55;replace H57:=H57.new D55;have E55:=D55.blk;clear D55
    refine L.nil (hX _ _ ⟨.inr G1,?_⟩)
    refine D.t 6 rfl (by kernel_rfl) (fun _ hS=>R1.build (vs:=[.int .i64 4,.slice (some ⟨g55,0,none⟩) 1 1,.agg #[.bool (decide ((-(valOf bs (v:Int))).num<0)),.slice A57 (toL (-(valOf bs (v:Int))).num.natAbs).length c57,.slice B57 (toL (-(valOf bs (v:Int))).den).length e57]]) rfl (built_C012 _ _ _ _ _ _ _ _ _ _ _)) G1<|D.one 8 rfl (by kernel_rfl) (fun hX=>?_)
    refine L.storeBox rfl rfl E13 rfl rfl tyG42 ?_
    intro w35 E13' C35
    replace hL:=hL.ms C35;replace hvb:=hvb.ms C35;replace O1:=own_far O1 C35 hno_ho1_g13;replace hl:=hl.ms C35;replace O2:=own_far O2 C35 hno_ho2_g13;replace hbd:=hbd.gr C35;replace C0:=C0.old1 C35 K13;replace I53:=I53.ms C35;replace H53:=H53.ms C35;replace I57:=I57.ms C35;replace H57:=H57.ms C35;replace E55:=E55.fr C35;clear C35;replace E13:=E13'; clear E13'
    refine L.nil (hX _ _ ⟨.inl rfl,?_⟩)
    refine D.done (by decide +kernel) ?_ _
    refine X.join (g55,A57,c57,B57,e57,g13) ?_ ?_
    · repeat' constructor
    have hT:Lay rdT (ownL u1 ++ (ownL u2 ++ M)) w35 (.slice (some ⟨g55,0,none⟩) 1 1) (stC bs v).ts:=Lay.of_blk (css:=[[.int .i64 (v:Int),.bool (decide ((((1:Int)):Rat).num<0)),.slice A53 (toL (((1:Int)):Rat).num.natAbs).length c53,.slice B53 (toL (((1:Int)):Rat).den).length e53]]) E55 (LayL.one _ (⟨(v:Int),QR.nf (((1:Int)):Rat)⟩:TR) (rdT_mk (t:=⟨(v:Int),QR.nf (((1:Int)):Rat)⟩) (I53.su) (H53.su))) rfl rfl (by decide) (by simp [not_own hno_ho1_g55,not_own hno_ho2_g55,hbd0.not K55])
    exact ⟨hL.su,hvb.su,O1,hl.su,O2,haw,hbd.su,C0,hT.su,I57.su,H57.su,E13,hno_ho1_g13,hno_ho2_g13⟩
   refine ⟨_,rfl,fun hX=>?_⟩
   refine L.alloc tyZ42 rfl ?_
   intro g13 w36 D13
   replace G1:=G1.trans D13.mod;replace hL:=hL.new D13;replace hvb:=hvb.new D13;have hno_ho1_g13:=own_ne_new O1 D13;replace O1:=own_gs O1 D13.mod;replace hl:=hl.new D13;have hno_ho2_g13:=own_ne_new O2 D13;replace O2:=own_gs O2 D13.mod;replace hbd:=hbd.new D13;have K13:=New.ge D13 C0.size;replace C0:=C0.tn D13;replace I12:=I12.new D13;replace H12:=H12.new D13;have E13:=D13.blk;clear D13
   refine L.nil (hX _ _ ⟨.inr G1,?_⟩)
   refine D.one 1 rfl (by kernel_rfl) (fun hX=>?_)
   refine L.c rfl (c_ref2_Int (n:=1) (by decide) (by decide) hbd) ?_
   rintro _ w37 ⟨⟨A53,c53,B53,e53,rfl,I53,H53⟩,C37⟩
   replace hL:=hL.gr C37;replace hvb:=hvb.gr C37;replace O1:=own_gs O1 C37;replace hl:=hl.gr C37;replace O2:=own_gs O2 C37;replace hbd:=hbd.gr C37;replace C0:=C0.trans C37;replace I12:=I12.gr C37;replace H12:=H12.gr C37;replace E13:=E13.gr C37;replace G1:=G1.trans C37;clear C37;have F53:=Fit.int (n:=1) (by decide) (by decide)
   refine L.nil (hX _ _ ⟨.inr G1,?_⟩)
   refine D.t 2 rfl (by kernel_rfl) (fun _ hS=>R1.build (vs:=[.int .i64 (v:Int),.agg #[.bool (decide ((((1:Int)):Rat).num<0)),.slice A53 (toL (((1:Int)):Rat).num.natAbs).length c53,.slice B53 (toL (((1:Int)):Rat).den).length e53]]) rfl (built_T01 _ _ _ _ _ _ _ _)) G1<|D.many (rs:=[3,5]) (by decide +kernel) rfl ?_
   intro i_ hi_
   simp only [List.mem_cons,List.not_mem_nil,or_false] at hi_
   rcases hi_ with rfl | rfl
   ·
    refine ⟨_,rfl,fun hX=>?_⟩
    refine L.buildSlice (cells:=[.int .i64 (v:Int),.bool (decide ((((1:Int)):Rat).num<0)),.slice A53 (toL (((1:Int)):Rat).num.natAbs).length c53,.slice B53 (toL (((1:Int)):Rat).den).length e53]) rfl Q37 tyZ47 (fillN1 _ _ _ _ _ _ _ _) (by decide) (by decide) rfl ?_
    intro g55 w38 D55
    replace G1:=G1.trans D55.mod;replace hL:=hL.new D55;replace hvb:=hvb.new D55;have hno_ho1_g55:=own_ne_new O1 D55;replace O1:=own_gs O1 D55.mod;replace hl:=hl.new D55;have hno_ho2_g55:=own_ne_new O2 D55;replace O2:=own_gs O2 D55.mod;replace hbd:=hbd.new D55;have K55:=New.ge D55 C0.size;replace C0:=C0.tn D55;replace I12:=I12.new D55;replace H12:=H12.new D55;have hne_g13_g55:=E13.ne_ D55;replace E13:=E13.gr D55.mod;replace I53:=I53.new D55;replace H53:=H53.new D55;have E55:=D55.blk;clear D55
    refine L.nil (hX _ _ ⟨.inr G1,?_⟩)
    refine D.one 5 rfl (by kernel_rfl) (fun hX=>?_)
    refine L.c rfl (c_ref2_Neg (q:=(valOf bs (v:Int))) (rv_toL _) I12 H12 hbd (Nat.le_trans F12.1 (by decide)) (Nat.le_trans F12.2 (by decide))) ?_
    rintro _ w39 ⟨⟨A57,c57,B57,e57,rfl,I57,H57⟩,C39⟩
    replace hL:=hL.gr C39;replace hvb:=hvb.gr C39;replace O1:=own_gs O1 C39;replace hl:=hl.gr C39;replace O2:=own_gs O2 C39;replace hbd:=hbd.gr C39;replace C0:=C0.trans C39;replace E13:=E13.gr C39;replace I53:=I53.gr C39;replace H53:=H53.gr C39;replace E55:=E55.gr C39;replace G1:=G1.trans C39;clear C39;have F57:=Fit.neg F12
    refine L.nil (hX _ _ ⟨.inr G1,?_⟩)
    refine D.t 6 rfl (by kernel_rfl) (fun _ hS=>R1.build (vs:=[.int .i64 4,.slice (some ⟨g55,0,none⟩) 1 1,.agg #[.bool (decide ((-(valOf bs (v:Int))).num<0)),.slice A57 (toL (-(valOf bs (v:Int))).num.natAbs).length c57,.slice B57 (toL (-(valOf bs (v:Int))).den).length e57]]) rfl (built_C012 _ _ _ _ _ _ _ _ _ _ _)) G1<|D.one 8 rfl (by kernel_rfl) (fun hX=>?_)
    refine L.storeBox rfl rfl E13 rfl rfl tyG42 ?_
    intro w40 E13' C40
    replace hL:=hL.ms C40;replace hvb:=hvb.ms C40;replace O1:=own_far O1 C40 hno_ho1_g13;replace hl:=hl.ms C40;replace O2:=own_far O2 C40 hno_ho2_g13;replace hbd:=hbd.gr C40;replace C0:=C0.old1 C40 K13;replace I53:=I53.ms C40;replace H53:=H53.ms C40;replace E55:=E55.fr C40;replace I57:=I57.ms C40;replace H57:=H57.ms C40;clear C40;replace E13:=E13'; clear E13'
    refine L.nil (hX _ _ ⟨.inl rfl,?_⟩)
    refine D.done (by decide +kernel) ?_ _
    refine X.join (g55,A57,c57,B57,e57,g13) ?_ ?_
    · repeat' constructor
    have hT:Lay rdT (ownL u1 ++ (ownL u2 ++ M)) w40 (.slice (some ⟨g55,0,none⟩) 1 1) (stC bs v).ts:=Lay.of_blk (css:=[[.int .i64 (v:Int),.bool (decide ((((1:Int)):Rat).num<0)),.slice A53 (toL (((1:Int)):Rat).num.natAbs).length c53,.slice B53 (toL (((1:Int)):Rat).den).length e53]]) E55 (LayL.one _ (⟨(v:Int),QR.nf (((1:Int)):Rat)⟩:TR) (rdT_mk (t:=⟨(v:Int),QR.nf (((1:Int)):Rat)⟩) (I53.su) (H53.su))) rfl rfl (by decide) (by simp [not_own hno_ho1_g55,not_own hno_ho2_g55,hbd0.not K55])
    exact ⟨hL.su,hvb.su,O1,hl.su,O2,haw,hbd.su,C0,hT.su,I57.su,H57.su,E13,hno_ho1_g13,hno_ho2_g13⟩
   refine ⟨_,rfl,fun hX=>?_⟩
   refine L.c rfl (c_ref2_Neg (q:=(valOf bs (v:Int))) (rv_toL _) I12 H12 hbd (Nat.le_trans F12.1 (by decide)) (Nat.le_trans F12.2 (by decide))) ?_
   rintro _ w41 ⟨⟨A57,c57,B57,e57,rfl,I57,H57⟩,C41⟩
   replace hL:=hL.gr C41;replace hvb:=hvb.gr C41;replace O1:=own_gs O1 C41;replace hl:=hl.gr C41;replace O2:=own_gs O2 C41;replace hbd:=hbd.gr C41;replace C0:=C0.trans C41;replace E13:=E13.gr C41;replace I53:=I53.gr C41;replace H53:=H53.gr C41;replace G1:=G1.trans C41;clear C41;have F57:=Fit.neg F12
   refine L.nil (hX _ _ ⟨.inr G1,?_⟩)
   refine D.one 3 rfl (by kernel_rfl) (fun hX=>?_)
   refine L.buildSlice (cells:=[.int .i64 (v:Int),.bool (decide ((((1:Int)):Rat).num<0)),.slice A53 (toL (((1:Int)):Rat).num.natAbs).length c53,.slice B53 (toL (((1:Int)):Rat).den).length e53]) rfl Q37 tyZ47 (fillN1 _ _ _ _ _ _ _ _) (by decide) (by decide) rfl ?_
   intro g55 w42 D55
   replace G1:=G1.trans D55.mod;replace hL:=hL.new D55;replace hvb:=hvb.new D55;have hno_ho1_g55:=own_ne_new O1 D55;replace O1:=own_gs O1 D55.mod;replace hl:=hl.new D55;have hno_ho2_g55:=own_ne_new O2 D55;replace O2:=own_gs O2 D55.mod;replace hbd:=hbd.new D55;have K55:=New.ge D55 C0.size;replace C0:=C0.tn D55;have hne_g13_g55:=E13.ne_ D55;replace E13:=E13.gr D55.mod;replace I53:=I53.new D55;replace H53:=H53.new D55;replace I57:=I57.new D55;replace H57:=H57.new D55;have E55:=D55.blk;clear D55
   refine L.nil (hX _ _ ⟨.inr G1,?_⟩)
   refine D.t 6 rfl (by kernel_rfl) (fun _ hS=>R1.build (vs:=[.int .i64 4,.slice (some ⟨g55,0,none⟩) 1 1,.agg #[.bool (decide ((-(valOf bs (v:Int))).num<0)),.slice A57 (toL (-(valOf bs (v:Int))).num.natAbs).length c57,.slice B57 (toL (-(valOf bs (v:Int))).den).length e57]]) rfl (built_C012 _ _ _ _ _ _ _ _ _ _ _)) G1<|D.one 8 rfl (by kernel_rfl) (fun hX=>?_)
   refine L.storeBox rfl rfl E13 rfl rfl tyG42 ?_
   intro w43 E13' C43
   replace hL:=hL.ms C43;replace hvb:=hvb.ms C43;replace O1:=own_far O1 C43 hno_ho1_g13;replace hl:=hl.ms C43;replace O2:=own_far O2 C43 hno_ho2_g13;replace hbd:=hbd.gr C43;replace C0:=C0.old1 C43 K13;replace I53:=I53.ms C43;replace H53:=H53.ms C43;replace I57:=I57.ms C43;replace H57:=H57.ms C43;replace E55:=E55.fr C43;clear C43;replace E13:=E13'; clear E13'
   refine L.nil (hX _ _ ⟨.inl rfl,?_⟩)
   refine D.done (by decide +kernel) ?_ _
   refine X.join (g55,A57,c57,B57,e57,g13) ?_ ?_
   · repeat' constructor
   have hT:Lay rdT (ownL u1 ++ (ownL u2 ++ M)) w43 (.slice (some ⟨g55,0,none⟩) 1 1) (stC bs v).ts:=Lay.of_blk (css:=[[.int .i64 (v:Int),.bool (decide ((((1:Int)):Rat).num<0)),.slice A53 (toL (((1:Int)):Rat).num.natAbs).length c53,.slice B53 (toL (((1:Int)):Rat).den).length e53]]) E55 (LayL.one _ (⟨(v:Int),QR.nf (((1:Int)):Rat)⟩:TR) (rdT_mk (t:=⟨(v:Int),QR.nf (((1:Int)):Rat)⟩) (I53.su) (H53.su))) rfl rfl (by decide) (by simp [not_own hno_ho1_g55,not_own hno_ho2_g55,hbd0.not K55])
   exact ⟨hL.su,hvb.su,O1,hl.su,O2,haw,hbd.su,C0,hT.su,I57.su,H57.su,E13,hno_ho1_g13,hno_ho2_g13⟩
  rintro ⟨g55,A57,c57,B57,e57,g13⟩ wk ⟨hL,hvb,O1,hl,O2,haw,hbd,C0,hT,I57,H57,E13,hno_ho1_g13,hno_ho2_g13⟩
  refine X.seq<|W.region<|L.k rfl<|L.v (R1.loadBox rfl E13 tyG42) rfl<|L.buildSlice (cells:=[.int .i64 4,.slice (some ⟨g55,0,none⟩) 1 1,.bool (decide ((-(valOf bs (v:Int))).num<0)),.slice A57 (toL (-(valOf bs (v:Int))).num.natAbs).length c57,.slice B57 (toL (-(valOf bs (v:Int))).den).length e57]) rfl Q22 tyZ42 (fillK1 _ _ _ _ _ _ _ _ _ _ _) (by decide) (by decide) rfl ?_
  intro g61 w44 D61
  replace hL:=hL.gr D61.mod;replace hvb:=hvb.gr D61.mod;replace O1:=own_gs O1 D61.mod;replace hl:=hl.gr D61.mod;replace O2:=own_gs O2 D61.mod;replace hbd:=hbd.gr D61.mod;replace C0:=C0.trans D61.mod;replace hT:=hT.gr D61.mod;replace I57:=I57.gr D61.mod;replace H57:=H57.gr D61.mod;replace E13:=E13.gr D61.mod
  have hrow:Sl [] w44 5 (.slice (some ⟨g61,0,none⟩) 1 1) 1 [.int .i64 4,.slice (some ⟨g55,0,none⟩) 1 1,.bool (decide ((-(valOf bs (v:Int))).num<0)),.slice A57 (toL (-(valOf bs (v:Int))).num.natAbs).length c57,.slice B57 (toL (-(valOf bs (v:Int))).den).length e57]:=Sl.of_blk D61.blk 0 (Nat.le_refl _) (by decide) rfl (by simp) (fun j hj=>by simp)
  clear D61;have hfl:=fz_len n (cs ++ staysL bs v)
  rw [List.length_append,stays_len] at hfl
  have hfc:(fzC n (cs ++ staysL bs v)).length=(fz n (cs ++ staysL bs v)).length:=by unfold fzC; simp
  have hfi:(fzI n (cs ++ staysL bs v)).length=(fz n (cs ++ staysL bs v)).length:=by unfold fzI; simp
  refine L.append rfl rfl O1 hrow (by intro c hc; simp only [List.mem_cons,List.not_mem_nil,or_false] at hc; rcases hc with rfl | rfl | rfl | rfl | rfl <;> rfl) Q22 tyZ42 (by omega) (by unfold maxLen; omega) C0.size rfl ?_
  intro v62 w45 O62' X62
  have haw_:=(Away.grew haw.symm X62 O2).symm;replace hL:=hL.gw X62;replace hvb:=hvb.gw X62;replace hl:=hl.gw X62;replace O2:=own_away (s':=1) (el':=0) (k':=0) (B':=0) (ys:=[]) O2 X62.mod (by first | assumption | exact Away.symm (by assumption));replace hbd:=hbd.gw X62;replace C0:=Mod.oldOwn C0 X62.mod O1;replace hT:=hT.gw X62;replace I57:=I57.gw X62;replace H57:=H57.gw X62;have hnn_g13:=X62.ne hno_ho1_g13 E13;replace E13:=Blk.grew E13 X62 hno_ho1_g13;replace hno_ho1_g13:=hnn_g13;replace haw:=haw_; clear haw_;replace O1:=O62'; clear O62';clear X62
  refine L.k rfl<|L.k rfl<|L.lL rfl hL Q22<|L.k rfl<|L.v (R1.addI rfl rfl (by omega)) rfl<|L.build1 rfl rfl Q26 tyZ3 rfl ?_
  intro g68 w46 D68
  replace hL:=hL.gr D68.mod;replace hvb:=hvb.gr D68.mod;replace O1:=own_gs O1 D68.mod;replace hl:=hl.gr D68.mod;replace O2:=own_gs O2 D68.mod;replace hbd:=hbd.gr D68.mod;replace C0:=C0.trans D68.mod;replace hT:=hT.gr D68.mod;replace I57:=I57.gr D68.mod;replace H57:=H57.gr D68.mod;replace E13:=E13.gr D68.mod
  have hrow:Sl [] w46 1 (.slice (some ⟨g68,0,none⟩) 1 1) 1 [.int .i64 (((cs.length + v:Nat):Int))]:=Sl.row1 D68.blk (by simp)
  clear D68
  refine L.append rfl rfl O2 hrow (by simp [Value.oneCell']) Q26 tyZ3 (by omega) (by unfold maxLen; omega) C0.size rfl ?_
  intro v69 w47 O69' X69
  have haw_:=Away.grew haw X69 O1;replace hL:=hL.gw X69;replace hvb:=hvb.gw X69;replace O1:=own_away (s':=1) (el':=0) (k':=0) (B':=0) (ys:=[]) O1 X69.mod (by first | assumption | exact Away.symm (by assumption));replace hl:=hl.gw X69;replace hbd:=hbd.gw X69;replace C0:=Mod.oldOwn C0 X69.mod O2;replace hT:=hT.gw X69;replace I57:=I57.gw X69;replace H57:=H57.gw X69;replace haw:=haw_; clear haw_;replace O2:=O69'; clear O69';clear X69
  refine L.b rfl<|L.b rfl<|L.nil<|X.blockEnd<|X.seq<|W.region<|L.k rfl<|L.inc rfl rfl (by omega)<|L.b rfl<|L.nil<|X.next (v + 1,v62,css ++ [[.int .i64 4,.slice (some ⟨g55,0,none⟩) 1 1,.bool (decide ((-(valOf bs (v:Int))).num<0)),.slice A57 (toL (-(valOf bs (v:Int))).num.natAbs).length c57,.slice B57 (toL (-(valOf bs (v:Int))).den).length e57]],v69) ?_ ?_ ?_
  · repeat' constructor
  ·
   obtain ⟨e3,e4⟩:=fz_yes (n:=n) (l:=(cs ++ staysL bs v)) (stay_isC bs (by omega:v<n))
   rw [List.append_assoc,← stays_succ] at e3 e4
   rw [List.length_append,stays_len] at e4
   exact ⟨hL.su,hvb.su,own_congr O1 (by rw [e3]; simp) (by simp),by rw [e3]; exact (hl.su).append (LayL.one _ (stC bs v) (rdC_mk (c:=stC bs v) (vt:=.slice (some ⟨g55,0,none⟩) 1 1) (hT.su) (I57.su) (H57.su))),own_congr O2 (by rw [e4]; simp) (by rw [e4,ints_append]; rfl),haw,hbd.su,C0,by omega⟩
  first | omega | (dsimp only; omega)
 intro J39
 try simp only [bq,ne_eq] at J39
 have hvn:v=n:=by omega
 rw [hvn] at O1 hl O2
 refine W.brk<|W.sr<|L.k rfl<|L.k rfl<|L.b rfl<|L.b rfl ?_
 refine L.z<|W.ret<|X.result2 rfl (.tmp rfl (.tmp rfl .nil)) ?_
 exact ⟨_,_,rfl,own_lay hbd0 O1 hl (by intro b hb; first | exact hb | (simp only [mq] at hb ⊢; grind)),Lay.of_ints O2 (fun g hg=>hbd0.not (own_ge O2 g hg).1),C0⟩
set_option maxHeartbeats 2000000 in
theorem c_Beaten12 {M : List Nat} {w : World} {vl vb vv : Value} {cs : List CR} {bs val : List QR} {t : Nat} (hL : Lay rdC M w vl cs) (hvb : Lay rdQ M w vb bs) (hv : Lay rdQ M w vv val) (hbd : Bd M w) (hsm : ∀ c ∈ cs, SmC 150 c) (hsb : ∀ q ∈ bs, SmQ 3 q) (hsv : ∀ q ∈ val, SmQ 10000 q) (hcl : cs.length ≤ 1000) (I64 : val.length ≤ 64) (oks : OkS (val.length : Int) t (cs ++ staysL bs val.length)) :
    Ret Tryz.prog 11 #[vl,vb,vv] w (fun r w'=>∃ z,r=.int .i64 z∧BeatR val.length val (cs ++ staysL bs val.length) z∧Mod [] w w'):=by
 have hbd0:=hbd;obtain ⟨TL,tL,rfl⟩:=hL.form;obtain ⟨TB,tB,rfl⟩:=hvb.form;obtain ⟨TV,tV,rfl⟩:=hv.form;have hsa0:=all_sm (n:=val.length) hvb hsb hsm
 have hN:heldG (val.length:Int)=val.length:=heldG_eq I64
 refine Ret.of (vs:=[.slice TL cs.length tL,.slice TB bs.length tB,.slice TV val.length tV]) (n:=80) Tryz.func11 rfl rfl rfl rfl ?_
 have C0:Mod [] w w:=Mod.refl _ _
 refine W.sr<|L.b rfl<|L.z<|W.sr<|L.k rfl<|L.lL rfl hv Q23<|L.b rfl<|L.nil ?_
 refine X.seq<|W.seq<|W.sr<|L.k rfl<|L.v (R1.gt rfl rfl) rfl<|L.z<|W.cond rfl ?_ ?_
 ·
  intro J16
  try simp only [bq,ne_eq] at J16
  omega
 intro J16
 try simp only [bq,ne_eq] at J16
 refine W.skip<|X.seq<|W.sr<|L.k rfl<|L.k rfl<|L.k rfl<|L.c rfl (c_all12 (n:=val.length) hL hvb hbd hsm hsb hcl I64) ?_
 rintro _ w1 ⟨r1,r2,rfl,hA,hI,C1⟩
 replace hv:=hv.gr C1;replace hbd:=hbd.gr C1;replace C0:=C0.trans C1;clear C1
 obtain ⟨ao,hao⟩:∃ ao,ao=cs ++ staysL bs val.length:=⟨_,rfl⟩
 rw [← hao] at hA hI hsa0 oks ⊢
 have hall:ao.length≤2000:=by rw [hao,List.length_append,stays_len]; omega
 have hfl:=fz_len val.length ao;have hfq:=fz_lens val.length ao
 obtain ⟨al,hal⟩:∃ al,al=fzC val.length ao:=⟨_,rfl⟩
 obtain ⟨il,hil⟩:∃ il,il=(fzI val.length ao).map fun (x:Nat)=>(x:Int):=⟨_,rfl⟩
 rw [← hal] at hA
 rw [← hil] at hI
 have hsub:=fzC_sub val.length ao
 rw [← hal] at hsub
 have hsa:∀ c∈al,SmC 150 c:=fun c h=>hsa0 c (hsub c h).1
 have hala:al.length=(fz val.length ao).length:=by rw [hal]; exact hfq.1
 have hill:il.length=al.length:=by rw [hil,List.length_map,hala]; exact hfq.2
 obtain ⟨TA,tA,rfl⟩:=hA.form;obtain ⟨TI,tI,rfl⟩:=hI.form
 refine L.k rfl<|L.ex rfl rfl<|L.ex rfl rfl<|L.b rfl<|L.b rfl<|L.z<|W.seq<|W.sr<|L.b rfl ?_
 refine L.z<|W.block<|W.loop (ι:=Nat) (fun i=>[(2,.slice TV val.length tV),(7,.int .i64 (val.length:Int)),(8,.slice TA al.length tA),(9,.slice TI il.length tI),(10,.int .i64 (i:Int))]) (fun i w_=>Lay rdC M w_ (.slice TA al.length tA) al∧Lay rdI M w_ (.slice TI il.length tI) il∧Lay rdQ M w_ (.slice TV val.length tV) val∧Bd M w_∧Mod [] w w_∧i≤al.length∧(∀ j q,j<i→(fz val.length ao)[j]?=some q→¬ Bt val.length val ao q.1)) (fun i=>al.length - i) 0 ?_ ?_ ?_
 · repeat' constructor
 ·
  exact ⟨hA.su,hI.su,hv.su,hbd.su,C0,Nat.zero_le _,(fun j d h=>by omega)⟩
 rintro i w2 ⟨hA,hI,hv,hbd,C0,hi,hno⟩
 refine W.seq<|W.sr<|L.k rfl<|L.k rfl<|L.lL rfl hA Q22<|L.lt rfl rfl<|L.z<|W.cond rfl ?_ ?_
 ·
  intro J27
  try simp only [bq,ne_eq] at J27
  refine W.skip<|X.seq<|W.seq<|W.block<|W.seq<|W.sr<|L.k rfl<|L.k rfl<|L.aL (j:=i) rfl rfl hA Q22 rfl (by omega) ?_
  obtain ⟨z33,cs33,P33,V33,vt33,ds33,rfl,Y33,vn33,vd33,rfl,I33,H33⟩:=Lay.elemQ hA (j:=i) (by omega);obtain ⟨T33,t33,rfl⟩:=Y33.form;obtain ⟨A33,c33,rfl⟩:=I33.form;obtain ⟨B33,e33,rfl⟩:=H33.form
  refine L.v (R1.loadE rfl V33 tyG42) rfl<|L.k rfl<|L.c rfl (c_Holds10 Y33 I33 H33 hv hbd ((hsa _ (List.mem_of_getElem? P33)).mono (by decide)) hsv) ?_
  rintro _ w3 ⟨rfl,C3⟩
  replace hA:=hA.gr C3;replace hI:=hI.gr C3;replace hv:=hv.gr C3;replace hbd:=hbd.gr C3;replace C0:=C0.trans C3;clear C3
  refine L.z<|W.cond rfl ?_ ?_
  ·
   intro J35
   have hcc_:=J35
   have hok:hB val z33=true:=J35
   refine W.exit<|X.thenExit<|X.here<|X.seq<|W.region<|L.k rfl<|L.inc rfl rfl (by omega)<|L.b rfl<|L.nil<|X.next (i + 1) ?_ ?_ ?_
   · repeat' constructor
   ·
    obtain ⟨p9,hp1,hp2,hp3⟩:=fzC_at (n:=val.length) (l:=ao) (by rw [← hal]; exact P33);have hic:=(hsub _ (List.mem_of_getElem? P33)).2
    exact ⟨hA.su,hI.su,hv.su,hbd.su,C0,by omega,(no_step (P:=fun q:CR × Nat=>Bt val.length val ao q.1) hno hp1 (fun h9=>by rw [hp2] at h9; have h8:=((Bt_F hic).1 h9).1; rw [hok] at h8; cases h8))⟩
   first | omega | (dsimp only; omega)
  intro J35
  have hcc_:=J35
  have hok:hB val z33=false:=J35
  obtain ⟨p9,hp1,hp2,hp3⟩:=fzC_at (n:=val.length) (l:=ao) (by rw [← hal]; exact P33);have hic:=(hsub _ (List.mem_of_getElem? P33)).2
  refine W.skip<|X.seq<|W.sr<|L.k rfl<|L.k rfl<|L.aL (j:=i) rfl rfl hA Q22 rfl (by omega) ?_
  obtain ⟨z39,cs39,P39,V39,vt39,ds39,rfl,Y39,vn39,vd39,rfl,I39,H39⟩:=Lay.elemQ hA (j:=i) (by omega);obtain ⟨T39,t39,rfl⟩:=Y39.form;obtain ⟨A39,c39,rfl⟩:=I39.form;obtain ⟨B39,e39,rfl⟩:=H39.form
  obtain rfl:z33=z39:=by have h9:=P39; rw [P33] at h9; injection h9
  refine L.v (R1.loadE rfl V39 tyG42) rfl<|L.buildSlice (cells:=[.int .i64 z33.st,.slice T39 z33.ts.length t39,.bool z33.k.s,.slice A39 z33.k.n.length c39,.slice B39 z33.k.d.length e39]) rfl Q22 tyZ42 (fillK1 _ _ _ _ _ _ _ _ _ _ _) (by decide) (by decide) rfl ?_
  intro g40 w4 D40
  have ho:World.ownsRow w4 w.heap.size 42 5 (.slice (some ⟨g40,0,none⟩) 1 1) 1 [.int .i64 z33.st,.slice T39 z33.ts.length t39,.bool z33.k.s,.slice A39 z33.k.n.length c39,.slice B39 z33.k.d.length e39]:=own_lit D40.blk (New.ge D40 C0.size) rfl
  replace hA:=hA.new D40;replace hI:=hI.new D40;replace hv:=hv.new D40;replace hbd:=hbd.new D40;replace C0:=C0.tn D40;replace Y39:=Y39.new D40;replace I39:=I39.new D40;replace H39:=H39.new D40;clear D40
  obtain ⟨v40,hv_v40⟩:∃ v,v=Value.slice (some ⟨g40,0,none⟩) 1 1:=⟨_,rfl⟩
  have hol_v40:ownL v40=[g40]:=by rw [hv_v40]; rfl
  rw [← hv_v40] at ho ⊢
  replace hA:=hA.sub (of_cons hol_v40);replace hI:=hI.sub (of_cons hol_v40);replace hv:=hv.sub (of_cons hol_v40);replace hbd:=hbd.sub (of_cons hol_v40);replace Y39:=Y39.sub (of_cons hol_v40);replace I39:=I39.sub (of_cons hol_v40);replace H39:=H39.sub (of_cons hol_v40);clear hv_v40 hol_v40
  refine L.b rfl<|L.z<|W.seq<|W.sr<|L.b rfl<|L.z<|W.block<|W.loop (ι:=Nat × Value × List (List Value)) (fun (k,u,css)=>[(2,.slice TV val.length tV),(7,.int .i64 (val.length:Int)),(8,.slice TA al.length tA),(9,.slice TI il.length tI),(10,.int .i64 (i:Int)),(11,u),(12,.int .i64 (k:Int))]) (fun (k,u,css) w_=>Lay rdC (ownL u ++ M) w_ (.slice TA al.length tA) al∧Lay rdI (ownL u ++ M) w_ (.slice TI il.length tI) il∧Lay rdQ (ownL u ++ M) w_ (.slice TV val.length tV) val∧Bd (ownL u ++ M) w_∧Mod [] w w_∧w_.ownsRow w.heap.size 42 5 u (bsdF val.length val z33 (al.take k)).length css.flatten∧LayL rdC (ownL u ++ M) w_ css (bsdF val.length val z33 (al.take k))∧k≤al.length) (fun (k,u,css)=>al.length - k) (0,v40,[[.int .i64 z33.st,.slice T39 z33.ts.length t39,.bool z33.k.s,.slice A39 z33.k.n.length c39,.slice B39 z33.k.d.length e39]]) ?_ ?_ ?_
  · repeat' constructor
  ·
   exact ⟨hA.su,hI.su,hv.su,hbd.su,C0,own_congr ho rfl (by simp),LayL.one _ z33 (rdC_mk (Y39.su) (I39.su) (H39.su)),Nat.zero_le _⟩
  rintro ⟨k,u,css⟩ w5 ⟨hA,hI,hv,hbd,C0,ho,hl,hk⟩
  refine W.seq<|W.sr<|L.k rfl<|L.k rfl<|L.lL rfl hA Q22<|L.lt rfl rfl<|L.z<|W.cond rfl ?_ ?_
  ·
   intro J44
   try simp only [bq,ne_eq] at J44
   refine W.skip<|X.seq<|W.seq<|W.block<|W.seq<|W.drawW (T:=[]) rfl (by decide +kernel) (NoHang.then (NoHang.block (NoHang.then (NoHang.next (NoHang.block (NoHang.then (NoHang.block (NoHang.then (NoHang.next (NoHang.block (NoHang.then NoHang.post))))))))))) (fun w6 C6=>?_)
   replace hA:=hA.gr C6;replace hI:=hI.gr C6;replace hv:=hv.gr C6;replace hbd:=hbd.gr C6;replace C0:=C0.trans C6;replace ho:=own_gs ho C6;replace hl:=hl.gr C6
   have G1:Mod [] w6 w6:=Mod.refl _ _
   clear C6
   refine D.z 0 rfl (by kernel_rfl) rfl G1<|D.z 1 rfl (by kernel_rfl) rfl G1<|D.t 2 rfl (by kernel_rfl) (fun _ hS=>R1.atLay (j:=k) rfl rfl (Lay.gr hA hS) Q22 rfl (by omega)) G1<|D.t 3 rfl (by kernel_rfl) (fun _ hS=>R1.fieldAddr rfl tyF42_0) G1 ?_
   obtain ⟨z51,cs51,P51,V51,vt51,ds51,rfl,Y51,vn51,vd51,rfl,I51,H51⟩:=Lay.elemQ hA (j:=k) (by omega);obtain ⟨T51,t51,rfl⟩:=Y51.form;obtain ⟨A51,c51,rfl⟩:=I51.form;obtain ⟨B51,e51,rfl⟩:=H51.form
   refine D.t 4 rfl (by kernel_rfl) (fun _ hS=>R1.loadEF rfl (SlE.gr V51 hS) rfl tyP3) G1<|D.z 5 rfl (by kernel_rfl) rfl G1<|D.z 6 rfl (by kernel_rfl) rfl G1<|D.t 7 rfl (by kernel_rfl) (fun _ hS=>R1.atLay (j:=i) rfl rfl (Lay.gr hA hS) Q22 rfl (by omega)) G1<|D.t 8 rfl (by kernel_rfl) (fun _ hS=>R1.fieldAddr rfl tyF42_0) G1 ?_
   obtain ⟨z56,cs56,P56,V56,vt56,ds56,rfl,Y56,vn56,vd56,rfl,I56,H56⟩:=Lay.elemQ hA (j:=i) (by omega);obtain ⟨T56,t56,rfl⟩:=Y56.form;obtain ⟨A56,c56,rfl⟩:=I56.form;obtain ⟨B56,e56,rfl⟩:=H56.form
   obtain rfl:z33=z56:=by have h9:=P56; rw [P33] at h9; injection h9
   refine D.t 9 rfl (by kernel_rfl) (fun _ hS=>R1.loadEF rfl (SlE.gr V56 hS) rfl tyP3) G1<|D.t 10 rfl (by kernel_rfl) (fun _ hS=>(R1.le rfl rfl).asB (c:=decide (z51.st≤z33.st)) (rfl)) G1<|D.z 11 rfl (by kernel_rfl) rfl G1 ?_
   cases W58:decide (z51.st≤z33.st)
   ·
    have hcc_:=W58
    refine D.o 12 rfl rfl (by kernel_rfl) G1<|D.o 13 rfl rfl (by kernel_rfl) G1<|D.o 14 rfl rfl (by kernel_rfl) G1<|D.o 15 rfl rfl (by kernel_rfl) G1<|D.o 16 rfl rfl (by kernel_rfl) G1<|D.o 17 rfl rfl (by kernel_rfl) G1<|D.t 18 rfl (by kernel_rfl) (fun _ hS=>R1.pickF rfl rfl) G1<|D.done (by decide +kernel) ?_ _
    refine X.seq<|W.condF rfl<|W.skip<|X.blockEnd<|X.seq<|W.region<|L.k rfl<|L.inc rfl rfl (by omega)<|L.b rfl<|L.nil<|X.next (k + 1,u,css) ?_ ?_ ?_
    · repeat' constructor
    ·
     have hcn:(decide (z51.st≤z33.st) && hB val z51)=false:=by unfold hB; rw [W58]; rfl
     exact ⟨hA.su,hI.su,hv.su,hbd.su,C0,own_congr ho (by rw [bsdF_no P51 hcn]) rfl,by rw [bsdF_no P51 hcn]; exact hl.su,by omega⟩
    first | omega | (dsimp only; omega)
   have hcc_:=W58
   refine D.u 12 rfl rfl (by kernel_rfl) (fun _ hS=>R1.move rfl) G1<|D.u 13 rfl rfl (by kernel_rfl) (fun _ hS=>R1.move rfl) G1<|D.u 14 rfl rfl (by kernel_rfl) (fun _ hS=>R1.atLay (j:=k) rfl rfl (Lay.gr hA hS) Q22 rfl (by omega)) G1 ?_
   obtain ⟨z62,cs62,P62,V62,vt62,ds62,rfl,Y62,vn62,vd62,rfl,I62,H62⟩:=Lay.elemQ hA (j:=k) (by omega);obtain ⟨T62,t62,rfl⟩:=Y62.form;obtain ⟨A62,c62,rfl⟩:=I62.form;obtain ⟨B62,e62,rfl⟩:=H62.form
   obtain rfl:z51=z62:=by have h9:=P62; rw [P51] at h9; injection h9
   refine D.u 15 rfl rfl (by kernel_rfl) (fun _ hS=>R1.loadE rfl (SlE.gr V62 hS) tyG42) G1<|D.u 16 rfl rfl (by kernel_rfl) (fun _ hS=>R1.move rfl) G1<|D.one 17 rfl (by kernel_rfl) (fun hX=>?_)
   refine L.callOn rfl rfl rfl rfl (c_Holds10 Y62 I62 H62 hv hbd ((hsa _ (List.mem_of_getElem? P51)).mono (by decide)) hsv) rfl ?_
   rintro _ w7 ⟨rfl,C7⟩
   replace hA:=hA.gr C7;replace hI:=hI.gr C7;replace hv:=hv.gr C7;replace hbd:=hbd.gr C7;replace C0:=C0.trans C7;replace ho:=own_gs ho C7;replace hl:=hl.gr C7;replace Y51:=Y51.gr C7;replace I51:=I51.gr C7;replace H51:=H51.gr C7;replace Y56:=Y56.gr C7;replace I56:=I56.gr C7;replace H56:=H56.gr C7;replace Y62:=Y62.gr C7;replace I62:=I62.gr C7;replace H62:=H62.gr C7;replace G1:=G1.trans C7;clear C7
   refine L.nil (hX _ _ ⟨.inr G1,?_⟩)
   refine D.t 18 rfl (by kernel_rfl) (fun _ hS=>R1.pickT rfl rfl) G1<|D.done (by decide +kernel) ?_ _
   refine X.seq<|W.cond rfl ?_ ?_
   ·
    intro J65
    have hcc_:=J65
    refine W.region<|L.k rfl<|L.k rfl<|L.k rfl<|L.aL (j:=k) rfl rfl hA Q22 rfl (by omega) ?_
    obtain ⟨z70,cs70,P70,V70,vt70,ds70,rfl,Y70,vn70,vd70,rfl,I70,H70⟩:=Lay.elemQ hA (j:=k) (by omega);obtain ⟨T70,t70,rfl⟩:=Y70.form;obtain ⟨A70,c70,rfl⟩:=I70.form;obtain ⟨B70,e70,rfl⟩:=H70.form
    obtain rfl:z51=z70:=by have h9:=P70; rw [P51] at h9; injection h9
    refine L.v (R1.loadE rfl V70 tyG42) rfl<|L.buildSlice (cells:=[.int .i64 z51.st,.slice T70 z51.ts.length t70,.bool z51.k.s,.slice A70 z51.k.n.length c70,.slice B70 z51.k.d.length e70]) rfl Q22 tyZ42 (fillK1 _ _ _ _ _ _ _ _ _ _ _) (by decide) (by decide) rfl ?_
    intro g71 w8 D71
    replace hA:=hA.gr D71.mod;replace hI:=hI.gr D71.mod;replace hv:=hv.gr D71.mod;replace hbd:=hbd.gr D71.mod;replace C0:=C0.trans D71.mod;replace ho:=own_gs ho D71.mod;replace hl:=hl.gr D71.mod;replace Y51:=Y51.gr D71.mod;replace I51:=I51.gr D71.mod;replace H51:=H51.gr D71.mod;replace Y56:=Y56.gr D71.mod;replace I56:=I56.gr D71.mod;replace H56:=H56.gr D71.mod;replace Y62:=Y62.gr D71.mod;replace I62:=I62.gr D71.mod;replace H62:=H62.gr D71.mod;replace Y70:=Y70.gr D71.mod;replace I70:=I70.gr D71.mod;replace H70:=H70.gr D71.mod
    have hrow:Sl [] w8 5 (.slice (some ⟨g71,0,none⟩) 1 1) 1 [.int .i64 z51.st,.slice T70 z51.ts.length t70,.bool z51.k.s,.slice A70 z51.k.n.length c70,.slice B70 z51.k.d.length e70]:=Sl.of_blk D71.blk 0 (Nat.le_refl _) (by decide) rfl (by simp) (fun j hj=>by simp)
    clear D71;have hbl:=bsdF_len val.length val z33 (al.take k)
    rw [List.length_take] at hbl
    refine L.append rfl rfl ho hrow (by intro c hc; simp only [List.mem_cons,List.not_mem_nil,or_false] at hc; rcases hc with rfl | rfl | rfl | rfl | rfl <;> rfl) Q22 tyZ42 (by omega) (by unfold maxLen; omega) C0.size rfl ?_
    intro v72 w9 O72' X72
    replace hA:=hA.gw X72;replace hI:=hI.gw X72;replace hv:=hv.gw X72;replace hbd:=hbd.gw X72;replace C0:=Mod.oldOwn C0 X72.mod ho;replace hl:=hl.gw X72;replace Y51:=Y51.gw X72;replace I51:=I51.gw X72;replace H51:=H51.gw X72;replace Y56:=Y56.gw X72;replace I56:=I56.gw X72;replace H56:=H56.gw X72;replace Y62:=Y62.gw X72;replace I62:=I62.gw X72;replace H62:=H62.gw X72;replace Y70:=Y70.gw X72;replace I70:=I70.gw X72;replace H70:=H70.gw X72;replace ho:=O72'; clear O72';clear X72
    refine L.b rfl<|L.nil<|X.blockEnd<|X.seq<|W.region<|L.k rfl<|L.inc rfl rfl (by omega)<|L.b rfl<|L.nil<|X.next (k + 1,v72,css ++ [[.int .i64 z51.st,.slice T70 z51.ts.length t70,.bool z51.k.s,.slice A70 z51.k.n.length c70,.slice B70 z51.k.d.length e70]]) ?_ ?_ ?_
    · repeat' constructor
    ·
     have hcn:(decide (z51.st≤z33.st) && hB val z51)=true:=by unfold hB; rw [W58,J65]; rfl
     exact ⟨hA.su,hI.su,hv.su,hbd.su,C0,own_congr ho (by rw [bsdF_yes P51 hcn]; simp) (by simp),by rw [bsdF_yes P51 hcn]; exact (hl.su).append (LayL.one _ z51 (rdC_mk (Y70.su) (I70.su) (H70.su))),by omega⟩
    first | omega | (dsimp only; omega)
   intro J65
   have hcc_:=J65
   refine W.skip<|X.blockEnd<|X.seq<|W.region<|L.k rfl<|L.inc rfl rfl (by omega)<|L.b rfl<|L.nil<|X.next (k + 1,u,css) ?_ ?_ ?_
   · repeat' constructor
   ·
    have hcn:(decide (z51.st≤z33.st) && hB val z51)=false:=by unfold hB; rw [W58,J65]; rfl
    exact ⟨hA.su,hI.su,hv.su,hbd.su,C0,own_congr ho (by rw [bsdF_no P51 hcn]) rfl,by rw [bsdF_no P51 hcn]; exact hl.su,by omega⟩
   first | omega | (dsimp only; omega)
  intro J44
  try simp only [bq,ne_eq] at J44
  obtain rfl:k=al.length:=by omega
  rw [List.take_length] at ho hl
  refine W.brk<|W.sr<|L.k rfl<|L.k rfl ?_
  have hBs:Lay rdC [] _ u (bsdF val.length val z33 al):=Lay.of_own ho (hl.sub (fun b hb=>by cases hb)) (by simp)
  refine L.c rfl (c_Consistent10 (M:=[]) hBs (fun b hb=>by cases hb) (oks.sub (bsdF_mem (hsub _ (List.mem_of_getElem? P33)).1 (fun o O9=>(hsub o O9).1)))) ?_
  rintro _ w10 ⟨rs75,ok75,hP75,rfl,C10⟩
  replace hA:=hA.gr C10;replace hI:=hI.gr C10;replace hv:=hv.gr C10;replace hbd:=hbd.gr C10;replace C0:=C0.trans C10;clear C10
  refine L.z<|W.cond rfl ?_ ?_
  ·
   intro J75
   have hcc_:=J75
   rw [hN] at hP75
   have hbt:Bt val.length val ao z33:=(Bt_F hic).2 ⟨hok,by rw [← hal]; exact (A_ok hP75).1 J75⟩
   refine W.sr<|L.k rfl<|L.k rfl<|L.aL (j:=i) rfl rfl hI Q26 rfl (by omega)<|L.v (R1.loadLI rfl hI tyP3 (by omega) (by have h9:=ints_at hp3 (by rw [← hil]; omega); simp only [← hil] at h9; exact h9)) rfl<|L.b rfl<|L.z<|W.ret<|X.blockRet ?_
   refine X.thenRet<|X.nextRet<|X.blockRet<|X.thenRet<|X.result1 rfl (.tmp rfl .nil) ?_
   exact ⟨_,rfl,beat_some hp1 (hp2 ▸ hbt) hno,C0⟩
  intro J75
  have hcc_:=J75
  rw [hN] at hP75
  have hbt:¬ Bt val.length val ao z33:=fun h9=>by have h8:=(A_ok hP75).2 (by have h7:=((Bt_F hic).1 h9).2; rw [← hal] at h7; exact h7); rw [J75] at h8; cases h8
  refine W.skip<|X.blockEnd<|X.seq<|W.region<|L.k rfl<|L.inc rfl rfl (by omega)<|L.b rfl<|L.nil<|X.next (i + 1) ?_ ?_ ?_
  · repeat' constructor
  ·
   exact ⟨hA.su,hI.su,hv.su,hbd.su,C0,by omega,(no_step (P:=fun q:CR × Nat=>Bt val.length val ao q.1) hno hp1 (fun h9=>by rw [hp2] at h9; exact hbt h9))⟩
  first | omega | (dsimp only; omega)
 intro J27
 try simp only [bq,ne_eq] at J27
 obtain rfl:i=al.length:=by omega
 refine W.brk<|W.sr<|L.b rfl<|L.z<|W.ret ?_
 refine X.result1 rfl (.tmp rfl .nil) ?_
 exact ⟨_,rfl,.inl ⟨rfl,beat_none (fun j q hj hq=>hno j q (by omega) hq)⟩,C0⟩
end Go.Proofs.YthoooolflmbmbaaGreat
