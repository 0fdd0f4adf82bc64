/- Walks: what the functions compute. -/
import Derived.Test.YtgpdjfalleadaaaGreatL5K
namespace Go.Proofs.YtgpdjfalleadaaaGreat
open Go.RowKit
set_option linter.unusedVariables false
set_option linter.unusedSimpArgs false
set_option maxRecDepth 10000
set_option maxHeartbeats 1000000 in
theorem c_SolvePhases {w : World} {vl vo vv : Value} {cs : List CR} {os : List Int} {val : List QR} (hL : Lay rdC [] w vl cs) (hO : Lay rdI [] w vo os) (hv : Lay rdQ [] w vv val) (hb : szCs cs ≤ 4194304) (hbv : szQs val ≤ 4194304) :
    Ret Tryz.prog 3 #[vl, .agg #[vo, vv]] w (fun r w' => r = .bool true ∧ Mod [] w w') := by
 have hbd : Bd [] w := fun m hm => by cases hm
 obtain ⟨TL, tL, rfl⟩ := hL.form
 obtain ⟨TO, tO, rfl⟩ := hO.form
 obtain ⟨TV, tV, rfl⟩ := hv.form
 have hmaxL := hL.max; unfold maxLen at hmaxL
 have hmaxO := hO.max; unfold maxLen at hmaxO
 have hmaxV := hv.max; unfold maxLen at hmaxV
 refine Ret.of (vs := [.slice TL cs.length tL, .agg #[.slice TO os.length tO, .slice TV val.length tV]]) (n := 72) Tryz.func3 rfl rfl rfl rfl ?_
 have hm0 : Mod [] w w := Mod.refl _ _
 refine W.seq <| W.region <| L.box rfl rfl ?_
 intro g3 w1 hN3
 replace hL := hL.new hN3
 replace hO := hO.new hN3
 replace hv := hv.new hN3
 replace hbd := hbd.new hN3
 replace hm0 := hm0.trans (hN3.mod.mono (by simp))
 have hb3 := hN3.blk
 clear hN3
 refine L.a rfl rfl <| L.nil <| X.seq <| W.seq <| W.seq <| W.region <| L.m rfl rfl <| L.call rfl (c_heavy_pantographlaw15 hL hb) rfl ?_
 rintro _ w2 ⟨rfl, hm2⟩
 replace hL := hL.gr hm2
 replace hO := hO.gr hm2
 replace hv := hv.gr hm2
 replace hbd := hbd.gr hm2
 replace hm0 := hm0.trans hm2
 replace hb3 := Blk.gr hb3 hm2
 clear hm2
 refine L.m rfl rfl ?_
 cases hgd13 : (decide (150 < szCs cs))
 ·
  have hcc_ := hgd13
  refine L.on rfl rfl rfl (R1.fieldAt rfl tyF26_1) rfl <| L.on rfl rfl rfl (R1.loadFld rfl hb3 rfl tyP24) rfl <| L.callOn rfl rfl rfl rfl (c_many_pantographlaw15 hv hbv) rfl ?_
  rintro _ w3 ⟨b16, rfl, hb16, hm3⟩
  replace hL := hL.gr hm3
  replace hO := hO.gr hm3
  replace hv := hv.gr hm3
  replace hbd := hbd.gr hm3
  replace hm0 := hm0.trans hm3
  replace hb3 := Blk.gr hb3 hm3
  clear hm3
  refine L.v (R1.pickF rfl rfl) rfl <| L.m rfl rfl ?_
  cases hgd18 : b16
  ·
   have hcc_ := hgd18
   refine L.on rfl rfl rfl (R1.move rfl) rfl <| L.on rfl rfl rfl (R1.lenLay rfl hL tyS22) rfl <| L.on rfl rfl rfl ((R1.gt rfl rfl).asB (c := (decide ((12 : Int) < (cs.length : Int)))) (rfl)) rfl <| L.v (R1.pickF rfl rfl) rfl <| L.m rfl rfl ?_
   cases hgd23 : (decide ((12 : Int) < (cs.length : Int)))
   ·
    have hcc_ := hgd23
    refine L.on rfl rfl rfl (R1.fieldAt rfl tyF26_0) rfl <| L.on rfl rfl rfl (R1.loadFld rfl hb3 rfl tyP23) rfl <| L.on rfl rfl rfl (R1.lenLay rfl hO tyS23) rfl <| L.on rfl rfl rfl ((R1.gt rfl rfl).asB (c := (decide ((20 : Int) < (os.length : Int)))) (rfl)) rfl <| L.v (R1.pickF rfl rfl) rfl <| L.nil <| X.seq <| W.cond rfl ?_ ?_
    ·
     intro hc28
     have hcc_ := hc28
     refine W.seq <| W.region <| L.a rfl rfl <| L.nil <| X.seq <| W.ret <| X.thenRet <| X.result1 rfl (.tmp rfl .nil) ?_
     exact ⟨rfl, hm0⟩
    ·
     intro hc28
     have hcc_ := hc28
     have hsm := sm150 (by simpa using hgd13)
     obtain ⟨hsv, hvl⟩ := (by first | exact hb16 rfl | exact hb16 hgd18 : (∀ q ∈ val, SmQ 3 q) ∧ val.length ≤ 100)
     have hsv3 := hsv
     replace hsv := sm316 hsv
     have hcl : cs.length ≤ 12 := by have h9 := of_decide_eq_false hgd23; omega
     have hsmL : ∀ c ∈ cs, SmC 1099511627776 c := fun c hc => smC_up (hsm c hc) (by decide)
     refine W.skip <| X.seq <| W.seq <| W.region <| L.m rfl rfl <| L.v (R1.loadBox rfl hb3 tyG26) rfl <| L.call rfl (c_Phase (hL.sub (M' := []) (fun b hb => by cases hb)) (hO.sub (M' := []) (fun b hb => by cases hb)) (hv.sub (M' := []) (fun b hb => by cases hb)) (hbd.sub (M' := []) (fun b hb => by cases hb)) hsm hsv hcl) rfl ?_
     rintro _ w4 ⟨a32, b32, rfl, hA, hB, hm4⟩
     replace hL := hL.gr hm4
     replace hO := hO.gr hm4
     replace hv := hv.gr hm4
     replace hbd := hbd.gr hm4
     replace hm0 := hm0.trans hm4
     replace hb3 := Blk.gr hb3 hm4
     clear hm4
     refine L.m rfl rfl <| L.v (R1.extract rfl rfl) rfl <| L.v (R1.extract rfl rfl) rfl <| L.v (R1.extract rfl rfl) rfl <| L.alloc tyZ26 rfl ?_
     intro g5 w5 hN5
     replace hL := hL.new hN5
     replace hO := hO.new hN5
     replace hv := hv.new hN5
     replace hbd := hbd.new hN5
     have hge_g5 := New.ge hN5 hm0.size
     replace hm0 := hm0.trans (hN5.mod.mono (by simp))
     have hne_g3_g5 := hb3.ne_ hN5
     replace hb3 := Blk.gr hb3 hN5.mod
     replace hA := hA.new hN5
     replace hB := hB.new hN5
     have hb5 := hN5.blk
     clear hN5
     refine L.storeBox rfl rfl hb5 rfl (one_S (lay_form' hA) (lay_form' hB)) tyG26 ?_
     intro w6 hb5' hm6
     replace hL := hL.mod hm6 (by simp)
     replace hO := hO.mod hm6 (by simp)
     replace hv := hv.mod hm6 (by simp)
     replace hbd := hbd.gr hm6
     replace hm0 := hm0.old1 hm6 hge_g5
     replace hb3 := Blk.far hb3 hm6 (by first | exact hne_g3_g5 | exact (hne_g5_g3).symm)
     replace hA := hA.mod hm6 (by simp)
     replace hB := hB.mod hm6 (by simp)
     clear hm6
     replace hb5 := hb5'; clear hb5'
     refine L.a rfl rfl <| L.a rfl rfl <| L.nil <| X.seq <| W.seq <| W.region <| L.m rfl rfl <| L.v (R1.fieldAt rfl tyF26_0) rfl <| L.v (R1.loadFld rfl hb3 rfl tyP23) rfl <| L.v (R1.fieldAt rfl tyF26_1) rfl <| L.v (R1.loadFld rfl hb3 rfl tyP24) rfl ?_
     refine L.v (R1.build (vs := [.slice TO os.length tO, .slice TV val.length tV]) rfl (built_T2 _ _ _ _ _ _)) rfl <| L.call rfl (c_r15_Phase (hL.sub (M' := []) (fun b hb => by cases hb)) (hO.sub (M' := []) (fun b hb => by cases hb)) (hv.sub (M' := []) (fun b hb => by cases hb)) (hbd.sub (M' := []) (fun b hb => by cases hb)) hsm hsv) rfl ?_
     rintro _ w7 ⟨a43, b43, rfl, hA2, hB2, hm7⟩
     replace hv := hv.gr hm7
     replace hbd := hbd.gr hm7
     replace hm0 := hm0.trans hm7
     replace hA := hA.gr hm7
     replace hB := hB.gr hm7
     replace hb5 := Blk.gr hb5 hm7
     clear hm7
     refine L.m rfl rfl <| L.v (R1.extract rfl rfl) rfl <| L.v (R1.extract rfl rfl) rfl <| L.v (R1.extract rfl rfl) rfl <| L.alloc tyZ32 rfl ?_
     intro g8 w8 hN8
     replace hv := hv.new hN8
     replace hbd := hbd.new hN8
     have hge_g8 := New.ge hN8 hm0.size
     replace hm0 := hm0.trans (hN8.mod.mono (by simp))
     replace hA := hA.new hN8
     replace hB := hB.new hN8
     have hne_g5_g8 := hb5.ne_ hN8
     replace hb5 := Blk.gr hb5 hN8.mod
     replace hA2 := hA2.new hN8
     replace hB2 := hB2.new hN8
     have hb8 := hN8.blk
     clear hN8
     refine L.storeBox rfl rfl hb8 rfl (one_S (lay_form' hA2) (lay_form' hB2)) tyG32 ?_
     intro w9 hb8' hm9
     replace hv := hv.mod hm9 (by simp)
     replace hbd := hbd.gr hm9
     replace hm0 := hm0.old1 hm9 hge_g8
     replace hA := hA.mod hm9 (by simp)
     replace hB := hB.mod hm9 (by simp)
     replace hb5 := Blk.far hb5 hm9 (by first | exact hne_g5_g8 | exact (hne_g8_g5).symm)
     replace hA2 := hA2.mod hm9 (by simp)
     replace hB2 := hB2.mod hm9 (by simp)
     clear hm9
     replace hb8 := hb8'; clear hb8'
     refine L.a rfl rfl <| L.a rfl rfl <| L.nil <| X.seq <| W.seq <| W.region <| L.v (R1.fieldAt rfl tyF26_0) rfl <| L.v (R1.loadFld rfl hb5 rfl tyP23) rfl <| L.v (R1.fieldAt rfl tyF32_0) rfl <| L.v (R1.loadFld rfl hb8 rfl tyP23) rfl <| L.call rfl (c_numbersEq hA hA2 rfl) rfl ?_
     rintro _ w10 ⟨rfl, hm10⟩
     replace hv := hv.gr hm10
     replace hbd := hbd.gr hm10
     replace hm0 := hm0.trans hm10
     replace hB := hB.gr hm10
     replace hb5 := Blk.gr hb5 hm10
     replace hB2 := hB2.gr hm10
     replace hb8 := Blk.gr hb8 hm10
     clear hm10
     refine L.m rfl rfl <| L.on rfl rfl rfl (R1.fieldAt rfl tyF26_1) rfl <| L.on rfl rfl rfl (R1.loadFld rfl hb5 rfl tyP24) rfl <| L.on rfl rfl rfl (R1.fieldAt rfl tyF32_1) rfl <| L.on rfl rfl rfl (R1.loadFld rfl hb8 rfl tyP24) rfl <| L.callOn rfl rfl rfl rfl (c_RatsEq (hB.sub (M' := []) (fun b hb => by cases hb)) (hB2.sub (M' := []) (fun b hb => by cases hb)) (hbd.sub (M' := []) (fun b hb => by cases hb)) (sm16k (phZ_s16 cs os hv hsv3))) rfl ?_
     rintro _ w11 ⟨rfl, hm11⟩
     replace hm0 := hm0.trans hm11
     clear hm11
     refine L.v (R1.pickT rfl rfl) rfl <| L.m rfl rfl <| L.on rfl rfl rfl (R1.move rfl) rfl <| L.on rfl rfl rfl (R1.move rfl) rfl <| L.on rfl rfl rfl ((R1.eq rfl rfl).asB (c := true) (decide_eq_true rfl)) rfl <| L.v (R1.pickT rfl rfl) rfl <| L.m rfl rfl <| L.on rfl rfl rfl (R1.move rfl) rfl <| L.on rfl rfl rfl (R1.move rfl) rfl <| L.on rfl rfl rfl ((R1.eq rfl rfl).asB (c := true) (decide_eq_true rfl)) rfl <| L.v (R1.pickT rfl rfl) rfl ?_
     refine L.m rfl rfl <| L.callOn rfl rfl rfl rfl (c_known15) rfl ?_
     rintro _ w12 ⟨rfl, hm12⟩
     replace hm0 := hm0.trans hm12
     clear hm12
     refine L.v (R1.pickT rfl rfl) rfl <| L.a rfl rfl <| L.nil <| X.seq <| W.ret <| X.result1 rfl (.tmp rfl .nil) ?_
     exact ⟨rfl, hm0⟩
   ·
    have hcc_ := hgd23
    refine L.off rfl rfl rfl rfl rfl <| L.off rfl rfl rfl rfl rfl <| L.off rfl rfl rfl rfl rfl <| L.off rfl rfl rfl rfl rfl <| L.v (R1.pickT rfl rfl) rfl <| L.nil <| X.seq <| W.condT rfl <| W.seq <| W.region <| L.a rfl rfl ?_
    refine L.nil <| X.seq <| W.ret <| X.thenRet <| X.result1 rfl (.tmp rfl .nil) ?_
    exact ⟨rfl, hm0⟩
  ·
   have hcc_ := hgd18
   refine L.off rfl rfl rfl rfl rfl <| L.off rfl rfl rfl rfl rfl <| L.off rfl rfl rfl rfl rfl <| L.v (R1.pickT rfl rfl) rfl <| L.m rfl rfl <| L.off rfl rfl rfl rfl rfl <| L.off rfl rfl rfl rfl rfl <| L.off rfl rfl rfl rfl rfl <| L.off rfl rfl rfl rfl rfl <| L.v (R1.pickT rfl rfl) rfl <| L.nil ?_
   refine X.seq <| W.condT rfl <| W.seq <| W.region <| L.a rfl rfl <| L.nil <| X.seq <| W.ret <| X.thenRet <| X.result1 rfl (.tmp rfl .nil) ?_
   exact ⟨rfl, hm0⟩
 ·
  have hcc_ := hgd13
  refine L.off rfl rfl rfl rfl rfl <| L.off rfl rfl rfl rfl rfl <| L.off rfl rfl rfl rfl rfl <| L.v (R1.pickT rfl rfl) rfl <| L.m rfl rfl <| L.off rfl rfl rfl rfl rfl <| L.off rfl rfl rfl rfl rfl <| L.off rfl rfl rfl rfl rfl <| L.v (R1.pickT rfl rfl) rfl <| L.m rfl rfl <| L.off rfl rfl rfl rfl rfl ?_
  refine L.off rfl rfl rfl rfl rfl <| L.off rfl rfl rfl rfl rfl <| L.off rfl rfl rfl rfl rfl <| L.v (R1.pickT rfl rfl) rfl <| L.nil <| X.seq <| W.condT rfl <| W.seq <| W.region <| L.a rfl rfl <| L.nil ?_
  refine X.seq <| W.ret <| X.thenRet <| X.result1 rfl (.tmp rfl .nil) ?_
  exact ⟨rfl, hm0⟩
end Go.Proofs.YtgpdjfalleadaaaGreat
