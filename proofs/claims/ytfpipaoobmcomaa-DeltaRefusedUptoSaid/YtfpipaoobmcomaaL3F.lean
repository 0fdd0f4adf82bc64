/- Walks: what the functions compute. -/
import Derived.Test.YtfpipaoobmcomaaL3K
namespace Go.Proofs.Ytfpipaoobmcomaa
open Go.RowKit
set_option linter.unusedVariables false
set_option linter.unusedSimpArgs false
set_option maxRecDepth 10000
set_option maxHeartbeats 1000000 in
theorem c_DeltaRefused {w : World} {vl vo : Value} {cs : List CR} {os : List Int} {z0 : Int} (hL : Lay rdC [] w vl cs) (hO : Lay rdI [] w vo os) (hb : szCs cs ≤ 4194304) :
    Ret Try.prog 10 #[vl, vo, .int .i64 z0] w (fun r w' => r = .bool true ∧ Mod [] w w') := by
 have hbd : Bd [] w := fun m hm => by cases hm
 obtain ⟨TL, tL, rfl⟩ := hL.form
 obtain ⟨TO, tO, rfl⟩ := hO.form
 have hmaxL := hL.max; unfold maxLen at hmaxL
 have hmaxO := hO.max; unfold maxLen at hmaxO
 refine Ret.of (vs := [.slice TL cs.length tL, .slice TO os.length tO, .int .i64 z0]) (n := 66) Try.func10 rfl rfl rfl rfl ?_
 have hm0 : Mod [] w w := Mod.refl _ _
 refine W.seq <| W.region <| L.v (R1.assign rfl) rfl <| L.nil <| X.seq <| W.seq <| W.seq <| W.region <| L.v (R1.move rfl) rfl <| L.call rfl (c_heavy_pantographlaw13 hL hb) rfl ?_
 rintro _ w1 ⟨rfl, hm1⟩
 replace hL := hL.gr hm1
 replace hO := hO.gr hm1
 replace hbd := hbd.gr hm1
 replace hm0 := hm0.trans hm1
 clear hm1
 refine L.v (R1.move rfl) rfl ?_
 cases hgd11 : (decide (150 < szCs cs))
 ·
  have hcc_ := hgd11
  refine L.on rfl rfl rfl (R1.move rfl) rfl <| L.on rfl rfl rfl (R1.lenLay rfl hL tyS22) rfl <| L.on rfl rfl rfl ((R1.gt rfl rfl).asB (c := (decide ((12 : Int) < (cs.length : Int)))) (rfl)) rfl <| L.v (R1.pickF rfl rfl) rfl <| L.v (R1.move rfl) rfl ?_
  cases hgd16 : (decide ((12 : Int) < (cs.length : Int)))
  ·
   have hcc_ := hgd16
   refine L.on rfl rfl rfl (R1.move rfl) rfl <| L.on rfl rfl rfl (R1.lenLay rfl hO tyS24) rfl <| L.on rfl rfl rfl ((R1.gt rfl rfl).asB (c := (decide ((20 : Int) < (os.length : Int)))) (rfl)) rfl <| L.v (R1.pickF rfl rfl) rfl <| L.v (R1.move rfl) rfl ?_
   cases hgd21 : (decide ((20 : Int) < (os.length : Int)))
   ·
    have hcc_ := hgd21
    have hsm := sm150 (by simpa using hgd11)
    have hcl : cs.length ≤ 12 := by have h9 := of_decide_eq_false hgd16; omega
    have hol : os.length ≤ 1000000 := by have h9 := of_decide_eq_false hgd21; omega
    refine L.on rfl rfl rfl (R1.move rfl) rfl <| L.on rfl rfl rfl (R1.move rfl) rfl <| L.on rfl rfl rfl (R1.move rfl) rfl <| L.callOn rfl rfl rfl rfl (c_r13_Is (hL.sub (M' := []) (fun b hb => by cases hb)) (hO.sub (M' := []) (fun b hb => by cases hb)) (hbd.sub (M' := []) (fun b hb => by cases hb)) hsm) rfl ?_
    rintro _ w2 ⟨rfl, hm2⟩
    replace hL := hL.gr hm2
    replace hO := hO.gr hm2
    replace hbd := hbd.gr hm2
    replace hm0 := hm0.trans hm2
    clear hm2
    refine L.v (R1.pickF rfl rfl) rfl <| L.nil <| X.seq <| W.cond rfl ?_ ?_
    ·
     intro hc26
     have hcc_ := hc26
     refine W.seq <| W.region <| L.v (R1.assign rfl) rfl <| L.nil <| X.seq <| W.ret <| X.thenRet <| X.result1 rfl (.tmp rfl .nil) ?_
     exact ⟨rfl, hm0⟩
    ·
     intro hc26
     have hcc_ := hc26
     have hch : ChB z0 cs os = false := hc26
     refine W.skip <| X.seq <| W.seq <| W.region <| L.v (R1.move rfl) rfl <| L.v (R1.move rfl) rfl <| L.v (R1.move rfl) rfl <| L.call rfl (c_SettleL (hL.sub (M' := []) (fun b hb => by cases hb)) (hO.sub (M' := []) (fun b hb => by cases hb)) (hbd.sub (M' := []) (fun b hb => by cases hb)) hsm hol hcl) rfl ?_
     rintro _ w3 ⟨v31, rfl, hR, hm3⟩
     replace hL := hL.gr hm3
     replace hO := hO.gr hm3
     replace hbd := hbd.gr hm3
     replace hm0 := hm0.trans hm3
     clear hm3
     refine L.v (R1.move rfl) rfl <| L.v (R1.extract rfl rfl) rfl <| L.v (R1.extract rfl rfl) rfl <| L.v (R1.assign rfl) rfl <| L.v (R1.assign rfl) rfl <| L.nil <| X.seq <| W.seq <| W.region <| L.v (R1.move rfl) rfl <| L.v ((R1.not rfl).asB (c := true) (by rw [hch]; rfl)) rfl ?_
     refine L.v (R1.move rfl) rfl <| L.on rfl rfl rfl (R1.move rfl) rfl <| L.on rfl rfl rfl (R1.move rfl) rfl <| L.callOn rfl rfl rfl rfl (c_numbersEq hR hO (setZ_no hch)) rfl ?_
     rintro _ w4 ⟨rfl, hm4⟩
     replace hL := hL.gr hm4
     replace hO := hO.gr hm4
     replace hbd := hbd.gr hm4
     replace hm0 := hm0.trans hm4
     clear hm4
     refine L.v (R1.pickT rfl rfl) rfl <| L.v (R1.move rfl) rfl <| L.on rfl rfl rfl (R1.move rfl) rfl <| L.on rfl rfl rfl (R1.move rfl) rfl <| L.on rfl rfl rfl (R1.move rfl) rfl <| L.callOn rfl rfl rfl rfl (c_dWalkL (hL.sub (M' := []) (fun b hb => by cases hb)) (hO.sub (M' := []) (fun b hb => by cases hb)) (hbd.sub (M' := []) (fun b hb => by cases hb)) hsm) rfl ?_
     rintro v45 w5 ⟨hW1, hm5⟩
     replace hL := hL.gr hm5
     replace hO := hO.gr hm5
     replace hbd := hbd.gr hm5
     replace hm0 := hm0.trans hm5
     clear hm5
     refine L.on rfl rfl rfl (R1.lenLay rfl hW1 tyS24) rfl <| L.on rfl rfl rfl ((R1.eq rfl rfl).asB (c := true) (by rw [walZ_no hch]; rfl)) rfl <| L.v (R1.pickT rfl rfl) rfl <| L.v (R1.move rfl) rfl <| L.on rfl rfl rfl (R1.move rfl) rfl <| L.on rfl rfl rfl (R1.move rfl) rfl <| L.on rfl rfl rfl (R1.move rfl) rfl <| L.callOn rfl rfl rfl rfl (c_dBlocked (z1 := 0) (hL.sub (M' := []) (fun b hb => by cases hb)) (hO.sub (M' := []) (fun b hb => by cases hb)) (hbd.sub (M' := []) (fun b hb => by cases hb)) hsm) rfl ?_
     rintro _ w6 ⟨rfl, hm6⟩
     replace hL := hL.gr hm6
     replace hO := hO.gr hm6
     replace hbd := hbd.gr hm6
     replace hm0 := hm0.trans hm6
     clear hm6
     refine L.on rfl rfl rfl ((R1.not rfl).asB (c := true) (by rw [blkZ_no hch]; rfl)) rfl <| L.v (R1.pickT rfl rfl) rfl <| L.v (R1.move rfl) rfl <| L.on rfl rfl rfl (R1.move rfl) rfl <| L.on rfl rfl rfl (R1.move rfl) rfl <| L.on rfl rfl rfl (R1.move rfl) rfl <| L.callOn rfl rfl rfl rfl (c_dIs (hL.sub (M' := []) (fun b hb => by cases hb)) (hO.sub (M' := []) (fun b hb => by cases hb)) (hbd.sub (M' := []) (fun b hb => by cases hb)) hsm) rfl ?_
     rintro _ w7 ⟨rfl, hm7⟩
     replace hm0 := hm0.trans hm7
     clear hm7
     refine L.on rfl rfl rfl ((R1.not rfl).asB (c := true) (by rw [hch]; rfl)) rfl <| L.v (R1.pickT rfl rfl) rfl <| L.v (R1.move rfl) rfl <| L.callOn rfl rfl rfl rfl (c_known13) rfl ?_
     rintro _ w8 ⟨rfl, hm8⟩
     replace hm0 := hm0.trans hm8
     clear hm8
     refine L.v (R1.pickT rfl rfl) rfl <| L.v (R1.assign rfl) rfl <| L.nil <| X.seq <| W.ret <| X.result1 rfl (.tmp rfl .nil) ?_
     exact ⟨rfl, hm0⟩
   ·
    have hcc_ := hgd21
    refine L.off rfl rfl rfl rfl rfl <| L.off rfl rfl rfl rfl rfl <| L.off rfl rfl rfl rfl rfl <| L.off rfl rfl rfl rfl rfl <| L.v (R1.pickT rfl rfl) rfl <| L.nil <| X.seq <| W.condT rfl <| W.seq <| W.region <| L.v (R1.assign rfl) rfl ?_
    refine L.nil <| X.seq <| W.ret <| X.thenRet <| X.result1 rfl (.tmp rfl .nil) ?_
    exact ⟨rfl, hm0⟩
  ·
   have hcc_ := hgd16
   refine L.off rfl rfl rfl rfl rfl <| L.off rfl rfl rfl rfl rfl <| L.off rfl rfl rfl rfl rfl <| L.v (R1.pickT rfl rfl) rfl <| L.v (R1.move rfl) rfl <| L.off rfl rfl rfl rfl rfl <| L.off rfl rfl rfl rfl rfl <| L.off rfl rfl rfl rfl rfl <| L.off rfl rfl rfl rfl rfl <| L.v (R1.pickT rfl rfl) rfl <| L.nil ?_
   refine X.seq <| W.condT rfl <| W.seq <| W.region <| L.v (R1.assign rfl) rfl <| L.nil <| X.seq <| W.ret <| X.thenRet <| X.result1 rfl (.tmp rfl .nil) ?_
   exact ⟨rfl, hm0⟩
 ·
  have hcc_ := hgd11
  refine L.off rfl rfl rfl rfl rfl <| L.off rfl rfl rfl rfl rfl <| L.off rfl rfl rfl rfl rfl <| L.v (R1.pickT rfl rfl) rfl <| L.v (R1.move rfl) rfl <| L.off rfl rfl rfl rfl rfl <| L.off rfl rfl rfl rfl rfl <| L.off rfl rfl rfl rfl rfl <| L.v (R1.pickT rfl rfl) rfl <| L.v (R1.move rfl) rfl <| L.off rfl rfl rfl rfl rfl ?_
  refine L.off rfl rfl rfl rfl rfl <| L.off rfl rfl rfl rfl rfl <| L.off rfl rfl rfl rfl rfl <| L.v (R1.pickT rfl rfl) rfl <| L.nil <| X.seq <| W.condT rfl <| W.seq <| W.region <| L.v (R1.assign rfl) rfl <| L.nil ?_
  refine X.seq <| W.ret <| X.thenRet <| X.result1 rfl (.tmp rfl .nil) ?_
  exact ⟨rfl, hm0⟩

end Go.Proofs.Ytfpipaoobmcomaa
