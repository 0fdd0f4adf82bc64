/- Walks: what the functions compute. -/
import Derived.Test.YtgpdjfalleadaaaGreatL5K
namespace Go.Proofs.YtgpdjfalleadaaaGreat
open Go.RowKit
set_option linter.unusedVariables false
set_option linter.unusedSimpArgs false
set_option maxRecDepth 10000
theorem c_none {N9 : List Nat} {w : World} {vl : Value} {cs : List CR} (hL : Lay rdC N9 w vl cs) (hcl : cs.length ≤ 1000) :
    Ret Tryz.prog 14 #[vl] w (fun r w' => Lay rdI [] w' r (List.replicate cs.length (-1)) ∧ Mod [] w w') := by
 obtain ⟨TL, tL, rfl⟩ := hL.form
 refine Ret.of (vs := [.slice TL cs.length tL]) (n := 15) Tryz.func14 rfl rfl rfl rfl ?_
 have hm0 : Mod [] w w := Mod.refl _ _
 refine W.seq <| W.region <| L.a rfl rfl <| L.nil <| X.seq <| W.seq <| W.region <| L.a rfl rfl <| L.nil <| X.seq <| W.seq ?_
 refine W.seq <| W.region <| L.a rfl rfl <| L.nil <| X.seq <| W.block <| W.loop (ι := Nat × Value) (fun (i, u) => [(0, .slice TL cs.length tL), (3, u), (4, .int .i64 ((i : Nat) : Int))]) (fun (i, u) w_ => Lay rdC (ownL u ++ N9) w_ (.slice TL cs.length tL) cs ∧ w_.ownsRow w.heap.size 3 1 u i (intsZ (List.replicate i (-1))) ∧ i ≤ cs.length ∧ Mod [] w w_) (fun (i, u) => cs.length - i) (0, .slice none 0 0) ?_ ?_ ?_
 · exact ⟨rfl, rfl, rfl, trivial⟩
 ·
  exact ⟨hL.su, own_nil _ _ _ _, Nat.zero_le _, hm0⟩
 ·
  rintro ⟨i, u⟩ w1 ⟨hL, ho, hi, hm0⟩
  refine W.seq <| W.seq <| W.region <| L.m rfl rfl <| L.m rfl rfl <| L.v (R1.lenLay rfl hL tyS22) rfl <| L.v (R1.lt rfl rfl) rfl <| L.nil <| X.seq <| W.cond rfl ?_ ?_
  ·
   intro hc8
   try simp only [bq, ne_eq] at hc8
   refine W.skip <| X.seq <| W.seq <| W.block <| W.region <| L.m rfl rfl <| L.build1 rfl rfl tyS23 tyZ3 rfl ?_
   intro g12 w2 hN12
   replace hL := hL.gr hN12.mod
   replace ho := own_gr ho hN12.mod (by simp)
   replace hm0 := hm0.trans hN12.mod
   have hrow : Sl [] w2 1 (.slice (some ⟨g12, 0, none⟩) 1 1) 1 [.int .i64 (-1)] := Sl.of_blk hN12.blk 0 (Nat.le_refl _) (by decide) rfl (by simp) (fun j hj => by simp)
   clear hN12
   refine L.append rfl rfl ho hrow (by simp [Value.oneCell']) tyS23 tyZ3 (by omega) (by unfold maxLen; omega) hm0.size rfl ?_
   intro v13 w3 ho13' hG13
   replace hL := hL.grew2 hG13 (by first | exact mem_own | (intro b hb; simp [hb]))
   replace hm0 := Mod.oldOwn hm0 hG13.mod ho
   replace ho := ho13'; clear ho13'
   clear hG13
   refine L.a rfl rfl <| L.nil <| X.blockEnd <| X.seq <| W.region <| L.m rfl rfl <| L.v (R1.addI (b := 1) rfl rfl (by omega)) rfl <| L.a rfl rfl <| L.nil <| X.next (i + 1, v13) ?_ ?_ ?_
   · exact ⟨rfl, rfl, rfl, trivial⟩
   ·
    exact ⟨hL.su, own_congr ho rfl (by simp [intsZ, List.replicate_succ']), by omega, hm0⟩
   · first | omega | (dsimp only; omega)
  ·
   intro hc8
   try simp only [bq, ne_eq] at hc8
   obtain rfl : i = cs.length := by omega
   refine W.exit <| X.thenExit <| X.nextExit <| X.here <| X.seq <| W.seq <| W.region <| L.m rfl rfl <| L.a rfl rfl <| L.nil <| X.seq ?_
   refine W.ret <| X.result1 rfl (.tmp rfl .nil) ?_
   exact ⟨Lay.of_Z ho (by simp), hm0⟩
set_option maxHeartbeats 1000000 in
theorem c_SolveAgain {w : World} {vl vv : Value} {cs : List CR} {val : List QR} (hL : Lay rdC [] w vl cs) (hv : Lay rdQ [] w vv val) (hb : szCs cs ≤ 4194304) (hbv : szQs val ≤ 4194304) :
    Ret Tryz.prog 4 #[vl, vv] w (fun r w' => r = .bool true ∧ Mod [] w w') := by
 have hbd : Bd [] w := fun m hm => by cases hm
 obtain ⟨TL, tL, rfl⟩ := hL.form
 obtain ⟨TV, tV, rfl⟩ := hv.form
 have hmaxL := hL.max; unfold maxLen at hmaxL
 have hmaxV := hv.max; unfold maxLen at hmaxV
 refine Ret.of (vs := [.slice TL cs.length tL, .slice TV val.length tV]) (n := 83) Tryz.func4 rfl rfl rfl rfl ?_
 have hm0 : Mod [] w w := Mod.refl _ _
 refine W.seq <| W.region <| L.a rfl rfl <| L.nil <| X.seq <| W.seq <| W.seq <| W.region <| L.m rfl rfl <| L.call rfl (c_heavy_pantographlaw15 hL hb) rfl ?_
 rintro _ w1 ⟨rfl, hm1⟩
 replace hL := hL.gr hm1
 replace hv := hv.gr hm1
 replace hbd := hbd.gr hm1
 replace hm0 := hm0.trans hm1
 clear hm1
 refine L.m rfl rfl ?_
 cases hgd16 : (decide (150 < szCs cs))
 ·
  have hcc_ := hgd16
  refine L.on rfl rfl rfl (R1.move rfl) rfl <| L.callOn rfl rfl rfl rfl (c_many_pantographlaw15 hv hbv) rfl ?_
  rintro _ w2 ⟨b18, rfl, hb18, hm2⟩
  replace hL := hL.gr hm2
  replace hv := hv.gr hm2
  replace hbd := hbd.gr hm2
  replace hm0 := hm0.trans hm2
  clear hm2
  refine L.v (R1.pickF rfl rfl) rfl <| L.m rfl rfl ?_
  cases hgd20 : b18
  ·
   have hcc_ := hgd20
   refine L.on rfl rfl rfl (R1.move rfl) rfl <| L.on rfl rfl rfl (R1.lenLay rfl hL tyS22) rfl <| L.on rfl rfl rfl ((R1.gt rfl rfl).asB (c := (decide ((10 : Int) < (cs.length : Int)))) (rfl)) rfl <| L.v (R1.pickF rfl rfl) rfl <| L.nil <| X.seq <| W.cond rfl ?_ ?_
   ·
    intro hc24
    have hcc_ := hc24
    refine W.seq <| W.region <| L.a rfl rfl <| L.nil <| X.seq <| W.ret <| X.thenRet <| X.result1 rfl (.tmp rfl .nil) ?_
    exact ⟨rfl, hm0⟩
   ·
    intro hc24
    have hcc_ := hc24
    have hsm := sm150 (by simpa using hgd16)
    obtain ⟨hsv, hvl⟩ := (by first | exact hb18 rfl | exact hb18 hgd20 : (∀ q ∈ val, SmQ 3 q) ∧ val.length ≤ 100)
    have hsv3 := hsv
    replace hsv := sm316 hsv
    have hcl : cs.length ≤ 12 := by have h9 := of_decide_eq_false hc24; omega
    have hsmL : ∀ c ∈ cs, SmC 1099511627776 c := fun c hc => smC_up (hsm c hc) (by decide)
    refine W.skip <| X.seq <| W.seq <| W.region <| L.m rfl rfl <| L.m rfl rfl <| L.call rfl (c_none hL (by omega)) rfl ?_
    rintro v28 w3 ⟨hO, hm3⟩
    replace hL := hL.gr hm3
    replace hv := hv.gr hm3
    replace hbd := hbd.gr hm3
    replace hm0 := hm0.trans hm3
    clear hm3
    refine L.m rfl rfl <| L.v (R1.build (vs := [v28, .slice TV val.length tV]) rfl (built_S9 (lay_form' hO) ⟨_, _, _, rfl⟩ built_S2)) rfl <| L.call rfl (c_Phase (hL.sub (M' := []) (fun b hb => by cases hb)) (hO.sub (M' := []) (fun b hb => by cases hb)) (hv.sub (M' := []) (fun b hb => by cases hb)) (hbd.sub (M' := []) (fun b hb => by cases hb)) hsm hsv hcl) rfl ?_
    rintro _ w4 ⟨a31, b31, rfl, hA, hB, hm4⟩
    replace hL := hL.gr hm4
    replace hv := hv.gr hm4
    replace hbd := hbd.gr hm4
    replace hm0 := hm0.trans hm4
    clear hm4
    refine L.m rfl rfl <| L.v (R1.extract rfl rfl) rfl <| L.v (R1.extract rfl rfl) rfl <| L.v (R1.extract rfl rfl) rfl <| L.alloc tyZ26 rfl ?_
    intro g5 w5 hN5
    replace hL := hL.new hN5
    replace hv := hv.new hN5
    replace hbd := hbd.new hN5
    have hge_g5 := New.ge hN5 hm0.size
    replace hm0 := hm0.trans (hN5.mod.mono (by simp))
    replace hA := hA.new hN5
    replace hB := hB.new hN5
    have hb5 := hN5.blk
    clear hN5
    refine L.storeBox rfl rfl hb5 rfl (one_S (lay_form' hA) (lay_form' hB)) tyG26 ?_
    intro w6 hb5' hm6
    replace hL := hL.mod hm6 (by simp)
    replace hv := hv.mod hm6 (by simp)
    replace hbd := hbd.gr hm6
    replace hm0 := hm0.old1 hm6 hge_g5
    replace hA := hA.mod hm6 (by simp)
    replace hB := hB.mod hm6 (by simp)
    clear hm6
    replace hb5 := hb5'; clear hb5'
    refine L.a rfl rfl <| L.a rfl rfl <| L.nil <| X.seq <| W.seq <| W.seq <| W.region <| L.m rfl rfl <| L.v ((R1.ne rfl rfl).asB (c := (decide ((phZ cs (List.replicate cs.length (-1)) val).2.2 ≠ 0))) (rfl)) rfl <| L.nil <| X.seq ?_
    refine W.cond rfl ?_ ?_
    ·
     intro hc36
     try simp only [bq, ne_eq] at hc36
     refine W.seq <| W.region <| L.m rfl rfl <| L.m rfl rfl <| L.call rfl (c_none hL (by omega)) rfl ?_
     rintro v40 w7 ⟨hO3, hm7⟩
     replace hL := hL.gr hm7
     replace hv := hv.gr hm7
     replace hbd := hbd.gr hm7
     replace hm0 := hm0.trans hm7
     clear hm7
     refine L.m rfl rfl <| L.v (R1.build (vs := [v40, .slice TV val.length tV]) rfl (built_S9 (lay_form' hO3) ⟨_, _, _, rfl⟩ built_T2)) rfl <| L.call rfl (c_r15_Phase (hL.sub (M' := []) (fun b hb => by cases hb)) (hO3.sub (M' := []) (fun b hb => by cases hb)) (hv.sub (M' := []) (fun b hb => by cases hb)) (hbd.sub (M' := []) (fun b hb => by cases hb)) hsm hsv) rfl ?_
     rintro _ w8 ⟨a43, b43, rfl, hA3, hB3, hm8⟩
     replace hm0 := hm0.trans hm8
     clear hm8
     refine L.m rfl rfl <| L.v (R1.extract rfl rfl) rfl <| L.v (R1.extract rfl rfl) rfl <| L.v (R1.extract rfl rfl) rfl <| L.alloc tyZ32 rfl ?_
     intro g8 w9 hN8
     have hge_g8 := New.ge hN8 hm0.size
     replace hm0 := hm0.trans (hN8.mod.mono (by simp))
     replace hA3 := hA3.new hN8
     replace hB3 := hB3.new hN8
     have hb8 := hN8.blk
     clear hN8
     refine L.storeBox rfl rfl hb8 rfl (one_S (lay_form' hA3) (lay_form' hB3)) tyG32 ?_
     intro w10 hb8' hm10
     replace hm0 := hm0.old1 hm10 hge_g8
     clear hm10
     replace hb8 := hb8'; clear hb8'
     refine L.a rfl rfl <| L.a rfl rfl <| L.nil <| X.seq <| W.seq <| W.region <| L.m rfl rfl <| L.m rfl rfl <| L.v ((R1.eq rfl rfl).asB (c := true) (decide_eq_true rfl)) rfl <| L.m rfl rfl <| L.callOn rfl rfl rfl rfl (c_known15) rfl ?_
     rintro _ w11 ⟨rfl, hm11⟩
     replace hm0 := hm0.trans hm11
     clear hm11
     refine L.v (R1.pickT rfl rfl) rfl <| L.a rfl rfl <| L.nil <| X.seq <| W.ret <| X.thenRet <| X.result1 rfl (.tmp rfl .nil) ?_
     exact ⟨rfl, hm0⟩
    ·
     intro hc36
     try simp only [bq, ne_eq] at hc36
     have hok : (phZ cs (List.replicate cs.length (-1)) val).2.2 = 0 := by simpa using hc36
     refine W.skip <| X.seq <| W.seq <| W.region <| L.m rfl rfl <| L.v (R1.loadBox rfl hb5 tyG26) rfl <| L.call rfl (c_Phase (hL.sub (M' := []) (fun b hb => by cases hb)) (hA.sub (M' := []) (fun b hb => by cases hb)) (hB.sub (M' := []) (fun b hb => by cases hb)) (hbd.sub (M' := []) (fun b hb => by cases hb)) hsm (phZ_s16 cs (List.replicate cs.length (-1)) hv hsv3) hcl) rfl ?_
     rintro _ w12 ⟨a56, b56, rfl, hA2, hB2, hm12⟩
     replace hv := hv.gr hm12
     replace hbd := hbd.gr hm12
     replace hm0 := hm0.trans hm12
     replace hA := hA.gr hm12
     replace hB := hB.gr hm12
     replace hb5 := Blk.gr hb5 hm12
     clear hm12
     rw [phZ_again hok] at hA2 hB2 ⊢
     refine L.m rfl rfl <| L.v (R1.extract rfl rfl) rfl <| L.v (R1.extract rfl rfl) rfl <| L.v (R1.extract rfl rfl) rfl <| L.alloc tyZ26 rfl ?_
     intro g11 w13 hN11
     replace hv := hv.new hN11
     replace hbd := hbd.new hN11
     have hge_g11 := New.ge hN11 hm0.size
     replace hm0 := hm0.trans (hN11.mod.mono (by simp))
     replace hA := hA.new hN11
     replace hB := hB.new hN11
     have hne_g5_g11 := hb5.ne_ hN11
     replace hb5 := Blk.gr hb5 hN11.mod
     replace hA2 := hA2.new hN11
     replace hB2 := hB2.new hN11
     have hb11 := hN11.blk
     clear hN11
     refine L.storeBox rfl rfl hb11 rfl (one_S (lay_form' hA2) (lay_form' hB2)) tyG26 ?_
     intro w14 hb11' hm14
     replace hv := hv.mod hm14 (by simp)
     replace hbd := hbd.gr hm14
     replace hm0 := hm0.old1 hm14 hge_g11
     replace hA := hA.mod hm14 (by simp)
     replace hB := hB.mod hm14 (by simp)
     replace hb5 := Blk.far hb5 hm14 (by first | exact hne_g5_g11 | exact (hne_g11_g5).symm)
     replace hA2 := hA2.mod hm14 (by simp)
     replace hB2 := hB2.mod hm14 (by simp)
     clear hm14
     replace hb11 := hb11'; clear hb11'
     refine L.a rfl rfl <| L.a rfl rfl <| L.nil <| X.seq <| W.seq <| W.region <| L.m rfl rfl <| L.v ((R1.eq rfl rfl).asB (c := true) (decide_eq_true rfl)) rfl <| L.m rfl rfl <| L.on rfl rfl rfl (R1.move rfl) rfl <| L.on rfl rfl rfl ((R1.eq rfl rfl).asB (c := true) (decide_eq_true rfl)) rfl ?_
     refine L.v (R1.pickT rfl rfl) rfl <| L.m rfl rfl <| L.on rfl rfl rfl (R1.fieldAt rfl tyF26_0) rfl <| L.on rfl rfl rfl (R1.loadFld rfl hb5 rfl tyP23) rfl <| L.on rfl rfl rfl (R1.fieldAt rfl tyF26_0) rfl <| L.on rfl rfl rfl (R1.loadFld rfl hb11 rfl tyP23) rfl <| L.callOn rfl rfl rfl rfl (c_numbersEq hA hA2 rfl) rfl ?_
     rintro _ w15 ⟨rfl, hm15⟩
     replace hv := hv.gr hm15
     replace hbd := hbd.gr hm15
     replace hm0 := hm0.trans hm15
     replace hB := hB.gr hm15
     replace hb5 := Blk.gr hb5 hm15
     replace hB2 := hB2.gr hm15
     replace hb11 := Blk.gr hb11 hm15
     clear hm15
     refine L.v (R1.pickT rfl rfl) rfl <| L.m rfl rfl <| L.on rfl rfl rfl (R1.fieldAt rfl tyF26_1) rfl <| L.on rfl rfl rfl (R1.loadFld rfl hb5 rfl tyP24) rfl <| L.on rfl rfl rfl (R1.fieldAt rfl tyF26_1) rfl <| L.on rfl rfl rfl (R1.loadFld rfl hb11 rfl tyP24) rfl <| L.callOn rfl rfl rfl rfl (c_RatsEq (hB.sub (M' := []) (fun b hb => by cases hb)) (hB2.sub (M' := []) (fun b hb => by cases hb)) (hbd.sub (M' := []) (fun b hb => by cases hb)) (sm16k (phZ_s16 cs (List.replicate cs.length (-1)) hv hsv3))) rfl ?_
     rintro _ w16 ⟨rfl, hm16⟩
     replace hm0 := hm0.trans hm16
     clear hm16
     refine L.v (R1.pickT rfl rfl) rfl <| L.m rfl rfl <| L.callOn rfl rfl rfl rfl (c_known15) rfl ?_
     rintro _ w17 ⟨rfl, hm17⟩
     replace hm0 := hm0.trans hm17
     clear hm17
     refine L.v (R1.pickT rfl rfl) rfl <| L.a rfl rfl <| L.nil <| X.seq <| W.ret <| X.result1 rfl (.tmp rfl .nil) ?_
     exact ⟨rfl, hm0⟩
  ·
   have hcc_ := hgd20
   refine L.off rfl rfl rfl rfl rfl <| L.off rfl rfl rfl rfl rfl <| L.off rfl rfl rfl rfl rfl <| L.v (R1.pickT rfl rfl) rfl <| L.nil <| X.seq <| W.condT rfl <| W.seq <| W.region <| L.a rfl rfl <| L.nil ?_
   refine X.seq <| W.ret <| X.thenRet <| X.result1 rfl (.tmp rfl .nil) ?_
   exact ⟨rfl, hm0⟩
 ·
  have hcc_ := hgd16
  refine L.off rfl rfl rfl rfl rfl <| L.off rfl rfl rfl rfl rfl <| L.v (R1.pickT rfl rfl) rfl <| L.m rfl rfl <| L.off rfl rfl rfl rfl rfl <| L.off rfl rfl rfl rfl rfl <| L.off rfl rfl rfl rfl rfl <| L.v (R1.pickT rfl rfl) rfl <| L.nil <| X.seq <| W.condT rfl ?_
  refine W.seq <| W.region <| L.a rfl rfl <| L.nil <| X.seq <| W.ret <| X.thenRet <| X.result1 rfl (.tmp rfl .nil) ?_
  exact ⟨rfl, hm0⟩
end Go.Proofs.YtgpdjfalleadaaaGreat
