/- Walks: what the functions compute. -/
import Derived.Test.YtfpipaoobmcomaaL3K
namespace Go.Proofs.Ytfpipaoobmcomaa
open Go.RowKit
set_option linter.unusedVariables false
set_option linter.unusedSimpArgs false
set_option maxRecDepth 10000
set_option maxHeartbeats 1000000 in
theorem c_DeltaSettles {w : World} {vl vo : Value} {cs : List CR} {os : List Int} {z0 : Int} (hL : Lay rdC [] w vl cs) (hO : Lay rdI [] w vo os) (hb : szCs cs ≤ 4194304) :
    Ret Try.prog 9 #[vl, vo, .int .i64 z0] w (fun r w' => r = .bool true ∧ Mod [] w w') := by
 have hbd : Bd [] w := fun m hm => by cases hm
 obtain ⟨TL, tL, rfl⟩ := hL.form
 obtain ⟨TO, tO, rfl⟩ := hO.form
 have hmaxL := hL.max; unfold maxLen at hmaxL
 have hmaxO := hO.max; unfold maxLen at hmaxO
 refine Ret.of (vs := [.slice TL cs.length tL, .slice TO os.length tO, .int .i64 z0]) (n := 83) Try.func9 rfl rfl rfl rfl ?_
 have hm0 : Mod [] w w := Mod.refl _ _
 refine W.seq <| W.region <| L.v (R1.assign rfl) rfl <| L.nil <| X.seq <| W.seq <| W.seq <| W.region <| L.v (R1.move rfl) rfl <| L.call rfl (c_heavy_pantographlaw13 hL hb) rfl ?_
 rintro _ w1 ⟨rfl, hm1⟩
 replace hL := hL.gr hm1
 replace hO := hO.gr hm1
 replace hbd := hbd.gr hm1
 replace hm0 := hm0.trans hm1
 clear hm1
 refine L.v (R1.move rfl) rfl ?_
 cases hgd13 : (decide (150 < szCs cs))
 ·
  have hcc_ := hgd13
  refine L.on rfl rfl rfl (R1.move rfl) rfl <| L.on rfl rfl rfl (R1.lenLay rfl hL tyS22) rfl <| L.on rfl rfl rfl ((R1.gt rfl rfl).asB (c := (decide ((12 : Int) < (cs.length : Int)))) (rfl)) rfl <| L.v (R1.pickF rfl rfl) rfl <| L.v (R1.move rfl) rfl ?_
  cases hgd18 : (decide ((12 : Int) < (cs.length : Int)))
  ·
   have hcc_ := hgd18
   refine L.on rfl rfl rfl (R1.move rfl) rfl <| L.on rfl rfl rfl (R1.lenLay rfl hO tyS24) rfl <| L.on rfl rfl rfl ((R1.gt rfl rfl).asB (c := (decide ((20 : Int) < (os.length : Int)))) (rfl)) rfl <| L.v (R1.pickF rfl rfl) rfl <| L.nil <| X.seq <| W.cond rfl ?_ ?_
   ·
    intro hc22
    have hcc_ := hc22
    refine W.seq <| W.region <| L.v (R1.assign rfl) rfl <| L.nil <| X.seq <| W.ret <| X.thenRet <| X.result1 rfl (.tmp rfl .nil) ?_
    exact ⟨rfl, hm0⟩
   ·
    intro hc22
    have hcc_ := hc22
    have hsm := sm150 (by simpa using hgd13)
    have hcl : cs.length ≤ 12 := by have h9 := of_decide_eq_false hgd18; omega
    have hol : os.length ≤ 1000000 := by have h9 := of_decide_eq_false hc22; omega
    refine W.skip <| X.seq <| W.seq <| W.region <| L.v (R1.move rfl) rfl <| L.buildEmpty tyS24 rfl ?_
    intro g25 w2 hN25
    have hc : World.ownsRow w2 w.heap.size 3 1 (.slice (some ⟨g25, 0, none⟩) 0 0) 0 [] := ⟨rfl, .inr ⟨g25, 0, #[], rfl, New.ge hN25 hm0.size, hN25.blk, Nat.le_refl _, by decide, rfl, rfl⟩⟩
    replace hL := hL.new hN25
    replace hO := hO.new hN25
    replace hbd := hbd.new hN25
    replace hm0 := hm0.trans (hN25.mod.mono (by simp))
    clear hN25
    obtain ⟨v25, hv_v25⟩ : ∃ v, v = Value.slice (some ⟨g25, 0, none⟩) 0 0 := ⟨_, rfl⟩
    have hol_v25 : ownL v25 = [g25] := by rw [hv_v25]; rfl
    rw [← hv_v25] at hc ⊢
    replace hL := hL.sub (of_cons hol_v25)
    replace hO := hO.sub (of_cons hol_v25)
    replace hbd := hbd.sub (of_cons hol_v25)
    clear hv_v25 hol_v25
    refine L.v (R1.move rfl) rfl ?_
    have hrow := Lay.rowI hO
    refine L.append rfl rfl hc hrow (intsZ_one os) tyS24 tyZ3 (by omega) (by unfold maxLen; omega) hm0.size rfl ?_
    intro v27 w3 hc' hG27
    replace hL := hL.grew2 hG27 (by first | exact mem_own | (intro b hb; simp [hb]))
    replace hO := hO.grew2 hG27 (by first | exact mem_own | (intro b hb; simp [hb]))
    replace hbd := hbd.grew2 hG27 (by first | exact mem_own | (intro b hb; simp [hb]))
    replace hm0 := Mod.oldOwn hm0 hG27.mod hc
    replace hc := hc'; clear hc'
    clear hG27
    have hO2 := Lay.of_Z (M := []) (zs := os) (own_congr hc (Nat.zero_add _) (by simp)) (by simp)
    refine L.v (R1.move rfl) rfl <| L.call rfl (c_SettleL (hL.sub (M' := []) (fun b hb => by cases hb)) (hO2.sub (M' := []) (fun b hb => by cases hb)) (hbd.sub (M' := []) (fun b hb => by cases hb)) hsm hol hcl) rfl ?_
    rintro _ w4 ⟨v29, rfl, hR, hm4⟩
    replace hL := hL.gr hm4
    replace hO := hO.gr hm4
    replace hbd := hbd.gr hm4
    replace hm0 := hm0.trans hm4
    clear hm4
    refine L.v (R1.move rfl) rfl <| L.v (R1.extract rfl rfl) rfl <| L.v (R1.extract rfl rfl) rfl <| L.v (R1.assign rfl) rfl <| L.v (R1.assign rfl) rfl <| L.nil <| X.seq <| W.seq <| W.region <| L.v (R1.move rfl) rfl <| L.v (R1.move rfl) rfl ?_
    refine L.v (R1.move rfl) rfl <| L.call rfl (c_r13_SettleL (hL.sub (M' := []) (fun b hb => by cases hb)) (hO.sub (M' := []) (fun b hb => by cases hb)) (hbd.sub (M' := []) (fun b hb => by cases hb)) hsm hol) rfl ?_
    rintro _ w5 ⟨v36, rfl, hR2, hm5⟩
    replace hL := hL.gr hm5
    replace hO := hO.gr hm5
    replace hbd := hbd.gr hm5
    replace hm0 := hm0.trans hm5
    replace hR := hR.gr hm5
    clear hm5
    refine L.v (R1.move rfl) rfl <| L.v (R1.extract rfl rfl) rfl <| L.v (R1.extract rfl rfl) rfl <| L.v (R1.assign rfl) rfl <| L.v (R1.assign rfl) rfl <| L.nil <| X.seq <| W.seq <| W.region <| L.v (R1.move rfl) rfl <| L.v (R1.move rfl) rfl ?_
    refine L.call rfl (c_numbersEq hR hR2 rfl) rfl ?_
    rintro _ w6 ⟨rfl, hm6⟩
    replace hL := hL.gr hm6
    replace hO := hO.gr hm6
    replace hbd := hbd.gr hm6
    replace hm0 := hm0.trans hm6
    replace hR := hR.gr hm6
    replace hR2 := hR2.gr hm6
    clear hm6
    refine L.v (R1.move rfl) rfl <| L.on rfl rfl rfl (R1.move rfl) rfl <| L.on rfl rfl rfl (R1.move rfl) rfl <| L.on rfl rfl rfl ((R1.eqB rfl rfl tyB4).asB (c := true) (decide_eq_true rfl)) rfl <| L.v (R1.pickT rfl rfl) rfl <| L.v (R1.move rfl) rfl <| L.on rfl rfl rfl (R1.move rfl) rfl <| L.on rfl rfl rfl (R1.move rfl) rfl <| L.on rfl rfl rfl (R1.move rfl) rfl <| L.callOn rfl rfl rfl rfl (c_dIs (hL.sub (M' := []) (fun b hb => by cases hb)) (hO.sub (M' := []) (fun b hb => by cases hb)) (hbd.sub (M' := []) (fun b hb => by cases hb)) hsm) rfl ?_
    rintro _ w7 ⟨rfl, hm7⟩
    replace hL := hL.gr hm7
    replace hO := hO.gr hm7
    replace hbd := hbd.gr hm7
    replace hm0 := hm0.trans hm7
    replace hR := hR.gr hm7
    replace hR2 := hR2.gr hm7
    clear hm7
    refine L.on rfl rfl rfl (R1.move rfl) rfl <| L.on rfl rfl rfl (R1.move rfl) rfl <| L.on rfl rfl rfl (R1.move rfl) rfl <| L.callOn rfl rfl rfl rfl (c_r13_Is (hL.sub (M' := []) (fun b hb => by cases hb)) (hO.sub (M' := []) (fun b hb => by cases hb)) (hbd.sub (M' := []) (fun b hb => by cases hb)) hsm) rfl ?_
    rintro _ w8 ⟨rfl, hm8⟩
    replace hL := hL.gr hm8
    replace hO := hO.gr hm8
    replace hbd := hbd.gr hm8
    replace hm0 := hm0.trans hm8
    replace hR := hR.gr hm8
    replace hR2 := hR2.gr hm8
    clear hm8
    refine L.on rfl rfl rfl ((R1.eqB rfl rfl tyB4).asB (c := true) (decide_eq_true rfl)) rfl <| L.v (R1.pickT rfl rfl) rfl <| L.v (R1.move rfl) rfl <| L.on rfl rfl rfl (R1.move rfl) rfl <| L.on rfl rfl rfl (R1.move rfl) rfl <| L.on rfl rfl rfl (R1.move rfl) rfl <| L.callOn rfl rfl rfl rfl (c_dWalkL (hL.sub (M' := []) (fun b hb => by cases hb)) (hO.sub (M' := []) (fun b hb => by cases hb)) (hbd.sub (M' := []) (fun b hb => by cases hb)) hsm) rfl ?_
    rintro v62 w9 ⟨hW1, hm9⟩
    replace hL := hL.gr hm9
    replace hO := hO.gr hm9
    replace hbd := hbd.gr hm9
    replace hm0 := hm0.trans hm9
    replace hR := hR.gr hm9
    replace hR2 := hR2.gr hm9
    clear hm9
    refine L.on rfl rfl rfl (R1.move rfl) rfl <| L.on rfl rfl rfl (R1.move rfl) rfl <| L.on rfl rfl rfl (R1.move rfl) rfl <| L.callOn rfl rfl rfl rfl (c_r13_WalkL (hL.sub (M' := []) (fun b hb => by cases hb)) (hO.sub (M' := []) (fun b hb => by cases hb)) (hbd.sub (M' := []) (fun b hb => by cases hb)) hsm) rfl ?_
    rintro v66 w10 ⟨hW2, hm10⟩
    replace hL := hL.gr hm10
    replace hbd := hbd.gr hm10
    replace hm0 := hm0.trans hm10
    replace hR := hR.gr hm10
    replace hR2 := hR2.gr hm10
    replace hW1 := hW1.gr hm10
    clear hm10
    refine L.callOn rfl rfl rfl rfl (c_numbersEq hW1 hW2 rfl) rfl ?_
    rintro _ w11 ⟨rfl, hm11⟩
    replace hL := hL.gr hm11
    replace hbd := hbd.gr hm11
    replace hm0 := hm0.trans hm11
    replace hR := hR.gr hm11
    replace hR2 := hR2.gr hm11
    clear hm11
    refine L.v (R1.pickT rfl rfl) rfl <| L.v (R1.move rfl) rfl <| L.on rfl rfl rfl (R1.move rfl) rfl <| L.on rfl rfl rfl (R1.move rfl) rfl <| L.on rfl rfl rfl (R1.move rfl) rfl <| L.callOn rfl rfl rfl rfl (c_dWalkL (hL.sub (M' := []) (fun b hb => by cases hb)) (hR.sub (M' := []) (fun b hb => by cases hb)) (hbd.sub (M' := []) (fun b hb => by cases hb)) hsm) rfl ?_
    rintro v73 w12 ⟨hW3, hm12⟩
    replace hL := hL.gr hm12
    replace hbd := hbd.gr hm12
    replace hm0 := hm0.trans hm12
    replace hR2 := hR2.gr hm12
    clear hm12
    refine L.on rfl rfl rfl (R1.move rfl) rfl <| L.on rfl rfl rfl (R1.move rfl) rfl <| L.on rfl rfl rfl (R1.move rfl) rfl <| L.callOn rfl rfl rfl rfl (c_r13_WalkL (hL.sub (M' := []) (fun b hb => by cases hb)) (hR2.sub (M' := []) (fun b hb => by cases hb)) (hbd.sub (M' := []) (fun b hb => by cases hb)) hsm) rfl ?_
    rintro v77 w13 ⟨hW4, hm13⟩
    replace hm0 := hm0.trans hm13
    replace hW3 := hW3.gr hm13
    clear hm13
    refine L.callOn rfl rfl rfl rfl (c_numbersEq hW3 hW4 rfl) rfl ?_
    rintro _ w14 ⟨rfl, hm14⟩
    replace hm0 := hm0.trans hm14
    clear hm14
    refine L.v (R1.pickT rfl rfl) rfl <| L.v (R1.move rfl) rfl <| L.callOn rfl rfl rfl rfl (c_known13) rfl ?_
    rintro _ w15 ⟨rfl, hm15⟩
    replace hm0 := hm0.trans hm15
    clear hm15
    refine L.v (R1.pickT rfl rfl) rfl <| L.v (R1.assign rfl) rfl <| L.nil <| X.seq <| W.ret <| X.result1 rfl (.tmp rfl .nil) ?_
    exact ⟨rfl, hm0⟩
  ·
   have hcc_ := hgd18
   refine L.off rfl rfl rfl rfl rfl <| L.off rfl rfl rfl rfl rfl <| L.off rfl rfl rfl rfl rfl <| L.v (R1.pickT rfl rfl) rfl <| L.nil <| X.seq <| W.condT rfl <| W.seq <| W.region <| L.v (R1.assign rfl) rfl <| L.nil ?_
   refine X.seq <| W.ret <| X.thenRet <| X.result1 rfl (.tmp rfl .nil) ?_
   exact ⟨rfl, hm0⟩
 ·
  have hcc_ := hgd13
  refine L.off rfl rfl rfl rfl rfl <| L.off rfl rfl rfl rfl rfl <| L.off rfl rfl rfl rfl rfl <| L.v (R1.pickT rfl rfl) rfl <| L.v (R1.move rfl) rfl <| L.off rfl rfl rfl rfl rfl <| L.off rfl rfl rfl rfl rfl <| L.off rfl rfl rfl rfl rfl <| L.v (R1.pickT rfl rfl) rfl <| L.nil <| X.seq ?_
  refine W.condT rfl <| W.seq <| W.region <| L.v (R1.assign rfl) rfl <| L.nil <| X.seq <| W.ret <| X.thenRet <| X.result1 rfl (.tmp rfl .nil) ?_
  exact ⟨rfl, hm0⟩

end Go.Proofs.Ytfpipaoobmcomaa
