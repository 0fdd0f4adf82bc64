/- Walks: what the functions compute. -/
import Derived.Test.YtdfnkbdnnflcpaaL4K
namespace Go.Proofs.Ytdfnkbdnnflcpaa
open Go.RowKit
set_option linter.unusedVariables false
set_option linter.unusedSimpArgs false
set_option maxRecDepth 10000
set_option maxHeartbeats 1000000 in
theorem c_RunRuns {w : World} {vl vo vv : Value} {cs : List CR} {os : List Int} {val : List QR} (hL : Lay rdC [] w vl cs) (hO : Lay rdI [] w vo os) (hv : Lay rdQ [] w vv val) (hb : szCs cs ≤ 4194304) (hbv : szQs val ≤ 4194304) :
    Ret Try.prog 3 #[vl, vo, vv] w (fun r w' => r = .bool true ∧ Mod [] w w') := by
 have hbd : Bd [] w := fun m hm => by cases hm
 obtain ⟨TL, tL, rfl⟩ := hL.form
 obtain ⟨TO, tO, rfl⟩ := hO.form
 obtain ⟨TV, tV, rfl⟩ := hv.form
 have hcl := cs_len cs
 refine Ret.of (vs := [.slice TL cs.length tL, .slice TO os.length tO, .slice TV val.length tV]) (n := 74) Try.func3 rfl rfl rfl rfl ?_
 have hm0 : Mod [] w w := Mod.refl _ _
 refine W.seq <| W.region <| L.v (R1.assign rfl) rfl <| L.nil <| X.seq <| W.seq <| W.seq <| W.region <| L.v (R1.move rfl) rfl <| L.call rfl (c_heavy_pantographlaw14 hL hb) rfl ?_
 rintro _ w1 ⟨rfl, hm1⟩
 replace hL := hL.gr hm1
 replace hO := hO.gr hm1
 replace hv := hv.gr hm1
 replace hbd := hbd.gr hm1
 replace hm0 := hm0.trans hm1
 clear hm1
 refine L.v (R1.move rfl) rfl ?_
 cases hgd15 : (decide (150 < szCs cs))
 ·
  have hcc_ := hgd15
  refine L.on rfl rfl rfl (R1.move rfl) rfl <| L.callOn rfl rfl rfl rfl (c_many_pantographlaw14 hv hbv) rfl ?_
  rintro _ w2 ⟨b17, rfl, hb17, hm2⟩
  replace hL := hL.gr hm2
  replace hO := hO.gr hm2
  replace hv := hv.gr hm2
  replace hbd := hbd.gr hm2
  replace hm0 := hm0.trans hm2
  clear hm2
  refine L.v (R1.pickF rfl rfl) rfl <| L.v (R1.move rfl) rfl ?_
  cases hgd19 : b17
  ·
   have hcc_ := hgd19
   refine L.on rfl rfl rfl (R1.move rfl) rfl <| L.on rfl rfl rfl (R1.lenLay rfl hL tyS22) rfl <| L.on rfl rfl rfl ((R1.gt rfl rfl).asB (c := (decide ((12 : Int) < (cs.length : Int)))) (rfl)) rfl <| L.v (R1.pickF rfl rfl) rfl <| L.v (R1.move rfl) rfl ?_
   cases hgd24 : (decide ((12 : Int) < (cs.length : Int)))
   ·
    have hcc_ := hgd24
    refine L.on rfl rfl rfl (R1.move rfl) rfl <| L.on rfl rfl rfl (R1.lenLay rfl hO tyS23) rfl <| L.on rfl rfl rfl ((R1.gt rfl rfl).asB (c := (decide ((20 : Int) < (os.length : Int)))) (rfl)) rfl <| L.v (R1.pickF rfl rfl) rfl <| L.nil <| X.seq <| W.cond rfl ?_ ?_
    ·
     intro hc28
     have hcc_ := hc28
     refine W.seq <| W.region <| L.v (R1.assign rfl) rfl <| L.nil <| X.seq <| W.ret <| X.thenRet <| X.result1 rfl (.tmp rfl .nil) ?_
     exact ⟨rfl, hm0⟩
    ·
     intro hc28
     have hcc_ := hc28
     have hsm := sm150 (by simpa using hgd15)
     obtain ⟨hsv, hvl⟩ := (by first | exact hb17 rfl | exact hb17 hgd19 : (∀ q ∈ val, SmQ 3 q) ∧ val.length ≤ 100)
     have hsmL : ∀ c ∈ cs, SmC 1099511627776 c := fun c hc => smC_up (hsm c hc) (by decide)
     refine W.skip <| X.seq <| W.seq <| W.region <| L.v (R1.move rfl) rfl <| L.v (R1.move rfl) rfl <| L.v (R1.move rfl) rfl <| L.call rfl (c_Run hL hO hv hbd hsm hsv) rfl ?_
     rintro _ w3 ⟨v33, rfl, hR, hm3⟩
     replace hL := hL.gr hm3
     replace hO := hO.gr hm3
     replace hv := hv.gr hm3
     replace hbd := hbd.gr hm3
     replace hm0 := hm0.trans hm3
     clear hm3
     refine L.v (R1.move rfl) rfl <| L.v (R1.extract rfl rfl) rfl <| L.v (R1.extract rfl rfl) rfl <| L.v (R1.extract rfl rfl) rfl <| L.v (R1.assign rfl) rfl <| L.v (R1.assign rfl) rfl <| L.v (R1.assign rfl) rfl <| L.nil <| X.seq <| W.seq <| W.region ?_
     refine L.v (R1.move rfl) rfl <| L.v (R1.move rfl) rfl <| L.v (R1.move rfl) rfl <| L.call rfl (c_r14_Run hL hO hv hbd hsm hsv) rfl ?_
     rintro _ w4 ⟨v41, rfl, hR2, hm4⟩
     replace hL := hL.gr hm4
     replace hO := hO.gr hm4
     replace hv := hv.gr hm4
     replace hbd := hbd.gr hm4
     replace hm0 := hm0.trans hm4
     replace hR := hR.gr hm4
     clear hm4
     refine L.v (R1.move rfl) rfl <| L.v (R1.extract rfl rfl) rfl <| L.v (R1.extract rfl rfl) rfl <| L.v (R1.extract rfl rfl) rfl <| L.v (R1.assign rfl) rfl <| L.v (R1.assign rfl) rfl <| L.v (R1.assign rfl) rfl <| L.nil <| X.seq <| W.seq <| W.region ?_
     refine L.v (R1.move rfl) rfl <| L.v (R1.move rfl) rfl <| L.v (R1.move rfl) rfl <| L.v (R1.lenLay rfl hv tyS24) rfl <| L.call rfl (c_OrderL (z0 := (val.length : Int)) hL hO hbd hsmL) rfl ?_
     rintro v49 w5 ⟨hP1, hm5⟩
     replace hL := hL.gr hm5
     replace hO := hO.gr hm5
     replace hv := hv.gr hm5
     replace hbd := hbd.gr hm5
     replace hm0 := hm0.trans hm5
     replace hR := hR.gr hm5
     replace hR2 := hR2.gr hm5
     clear hm5
     refine L.v (R1.move rfl) rfl <| L.v (R1.move rfl) rfl <| L.v (R1.move rfl) rfl <| L.v (R1.lenLay rfl hv tyS24) rfl <| L.call rfl (c_r14_OrderL (z0 := (val.length : Int)) hL hO hbd hsmL) rfl ?_
     rintro v54 w6 ⟨hP2, hm6⟩
     replace hv := hv.gr hm6
     replace hbd := hbd.gr hm6
     replace hm0 := hm0.trans hm6
     replace hR := hR.gr hm6
     replace hR2 := hR2.gr hm6
     replace hP1 := hP1.gr hm6
     clear hm6
     refine L.call rfl (c_numbersEq hP1 hP2 rfl) rfl ?_
     rintro _ w7 ⟨rfl, hm7⟩
     replace hv := hv.gr hm7
     replace hbd := hbd.gr hm7
     replace hm0 := hm0.trans hm7
     replace hR := hR.gr hm7
     replace hR2 := hR2.gr hm7
     clear hm7
     refine L.v (R1.move rfl) rfl <| L.on rfl rfl rfl (R1.move rfl) rfl <| L.on rfl rfl rfl (R1.move rfl) rfl <| L.callOn rfl rfl rfl rfl (c_RatsEq hR hR2 hbd (runZ_sm cs os hv hsv)) rfl ?_
     rintro _ w8 ⟨rfl, hm8⟩
     replace hm0 := hm0.trans hm8
     clear hm8
     refine L.v (R1.pickT rfl rfl) rfl <| L.v (R1.move rfl) rfl <| L.on rfl rfl rfl (R1.move rfl) rfl <| L.on rfl rfl rfl (R1.move rfl) rfl <| L.on rfl rfl rfl ((R1.eq rfl rfl).asB (c := true) (decide_eq_true rfl)) rfl <| L.v (R1.pickT rfl rfl) rfl <| L.v (R1.move rfl) rfl <| L.on rfl rfl rfl (R1.move rfl) rfl <| L.on rfl rfl rfl (R1.move rfl) rfl <| L.on rfl rfl rfl ((R1.eq rfl rfl).asB (c := true) (decide_eq_true rfl)) rfl <| L.v (R1.pickT rfl rfl) rfl ?_
     refine L.v (R1.move rfl) rfl <| L.callOn rfl rfl rfl rfl (c_known14) rfl ?_
     rintro _ w9 ⟨rfl, hm9⟩
     replace hm0 := hm0.trans hm9
     clear hm9
     refine L.v (R1.pickT rfl rfl) rfl <| L.v (R1.assign rfl) rfl <| L.nil <| X.seq <| W.ret <| X.result1 rfl (.tmp rfl .nil) ?_
     exact ⟨rfl, hm0⟩
   ·
    have hcc_ := hgd24
    refine L.off rfl rfl rfl rfl rfl <| L.off rfl rfl rfl rfl rfl <| L.off rfl rfl rfl rfl rfl <| L.v (R1.pickT rfl rfl) rfl <| L.nil <| X.seq <| W.condT rfl <| W.seq <| W.region <| L.v (R1.assign rfl) rfl <| L.nil ?_
    refine X.seq <| W.ret <| X.thenRet <| X.result1 rfl (.tmp rfl .nil) ?_
    exact ⟨rfl, hm0⟩
  ·
   have hcc_ := hgd19
   refine L.off rfl rfl rfl rfl rfl <| L.off rfl rfl rfl rfl rfl <| L.off rfl rfl rfl rfl rfl <| L.v (R1.pickT rfl rfl) rfl <| L.v (R1.move rfl) rfl <| L.off rfl rfl rfl rfl rfl <| L.off rfl rfl rfl rfl rfl <| L.off rfl rfl rfl rfl rfl <| L.v (R1.pickT rfl rfl) rfl <| L.nil <| X.seq ?_
   refine W.condT rfl <| W.seq <| W.region <| L.v (R1.assign rfl) rfl <| L.nil <| X.seq <| W.ret <| X.thenRet <| X.result1 rfl (.tmp rfl .nil) ?_
   exact ⟨rfl, hm0⟩
 ·
  have hcc_ := hgd15
  refine L.off rfl rfl rfl rfl rfl <| L.off rfl rfl rfl rfl rfl <| L.v (R1.pickT rfl rfl) rfl <| L.v (R1.move rfl) rfl <| L.off rfl rfl rfl rfl rfl <| L.off rfl rfl rfl rfl rfl <| L.off rfl rfl rfl rfl rfl <| L.v (R1.pickT rfl rfl) rfl <| L.v (R1.move rfl) rfl <| L.off rfl rfl rfl rfl rfl <| L.off rfl rfl rfl rfl rfl ?_
  refine L.off rfl rfl rfl rfl rfl <| L.v (R1.pickT rfl rfl) rfl <| L.nil <| X.seq <| W.condT rfl <| W.seq <| W.region <| L.v (R1.assign rfl) rfl <| L.nil <| X.seq <| W.ret ?_
  refine X.thenRet <| X.result1 rfl (.tmp rfl .nil) ?_
  exact ⟨rfl, hm0⟩

end Go.Proofs.Ytdfnkbdnnflcpaa
