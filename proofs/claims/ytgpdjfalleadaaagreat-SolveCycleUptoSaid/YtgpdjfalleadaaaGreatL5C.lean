/- Walks: what the functions compute. -/
import Derived.Test.YtgpdjfalleadaaaGreatL5K
namespace Go.Proofs.YtgpdjfalleadaaaGreat
open Go.RowKit
set_option linter.unusedVariables false
set_option linter.unusedSimpArgs false
set_option maxRecDepth 10000
set_option maxHeartbeats 1000000 in
theorem c_SolveCycle {w : World} {vl vo vv : Value} {cs : List CR} {os : List Int} {val : List QR} (hL : Lay rdC [] w vl cs) (hO : Lay rdI [] w vo os) (hv : Lay rdQ [] w vv val) (hb : szCs cs ≤ 4194304) (hbv : szQs val ≤ 4194304) :
    Ret Tryz.prog 6 #[vl, .agg #[vo, vv]] w (fun r w' => r = .bool true ∧ Mod [] w w') := by
 have hbd : Bd [] w := fun m hm => by cases hm
 obtain ⟨TL, tL, rfl⟩ := hL.form
 obtain ⟨TO, tO, rfl⟩ := hO.form
 obtain ⟨TV, tV, rfl⟩ := hv.form
 have hmaxL := hL.max; unfold maxLen at hmaxL
 have hmaxO := hO.max; unfold maxLen at hmaxO
 have hmaxV := hv.max; unfold maxLen at hmaxV
 refine Ret.of (vs := [.slice TL cs.length tL, .agg #[.slice TO os.length tO, .slice TV val.length tV]]) (n := 95) Tryz.func6 rfl rfl rfl rfl ?_
 have hm0 : Mod [] w w := Mod.refl _ _
 refine W.seq <| W.region <| L.box rfl rfl ?_
 intro g3 w1 hN3
 replace hL := hL.new hN3
 replace hO := hO.new hN3
 replace hv := hv.new hN3
 replace hbd := hbd.new hN3
 replace hm0 := hm0.trans (hN3.mod.mono (by simp))
 have hb3 := hN3.blk
 clear hN3
 refine L.a rfl rfl <| L.nil <| X.seq <| W.seq <| W.region <| L.v (R1.fieldAt rfl tyF26_1) rfl <| L.v (R1.loadFld rfl hb3 rfl tyP24) rfl <| L.v (R1.lenLay rfl hv tyS24) rfl <| L.a rfl rfl <| L.nil <| X.seq ?_
 refine W.seq <| W.seq <| W.region <| L.m rfl rfl <| L.call rfl (c_heavy_pantographlaw15 hL hb) rfl ?_
 rintro _ w2 ⟨rfl, hm2⟩
 replace hL := hL.gr hm2
 replace hO := hO.gr hm2
 replace hv := hv.gr hm2
 replace hbd := hbd.gr hm2
 replace hm0 := hm0.trans hm2
 replace hb3 := Blk.gr hb3 hm2
 clear hm2
 refine L.m rfl rfl ?_
 cases hgd18 : (decide (150 < szCs cs))
 ·
  have hcc_ := hgd18
  refine L.on rfl rfl rfl (R1.fieldAt rfl tyF26_1) rfl <| L.on rfl rfl rfl (R1.loadFld rfl hb3 rfl tyP24) rfl <| L.callOn rfl rfl rfl rfl (c_many_pantographlaw15 hv hbv) rfl ?_
  rintro _ w3 ⟨b21, rfl, hb21, hm3⟩
  replace hL := hL.gr hm3
  replace hO := hO.gr hm3
  replace hv := hv.gr hm3
  replace hbd := hbd.gr hm3
  replace hm0 := hm0.trans hm3
  replace hb3 := Blk.gr hb3 hm3
  clear hm3
  refine L.v (R1.pickF rfl rfl) rfl <| L.m rfl rfl ?_
  cases hgd23 : b21
  ·
   have hcc_ := hgd23
   refine L.on rfl rfl rfl (R1.move rfl) rfl <| L.on rfl rfl rfl (R1.lenLay rfl hL tyS22) rfl <| L.on rfl rfl rfl ((R1.gt rfl rfl).asB (c := (decide ((12 : Int) < (cs.length : Int)))) (rfl)) rfl <| L.v (R1.pickF rfl rfl) rfl <| L.m rfl rfl ?_
   cases hgd28 : (decide ((12 : Int) < (cs.length : Int)))
   ·
    have hcc_ := hgd28
    refine L.on rfl rfl rfl (R1.fieldAt rfl tyF26_0) rfl <| L.on rfl rfl rfl (R1.loadFld rfl hb3 rfl tyP23) rfl <| L.on rfl rfl rfl (R1.lenLay rfl hO tyS23) rfl <| L.on rfl rfl rfl (R1.move rfl) rfl <| L.on rfl rfl rfl (R1.lenLay rfl hL tyS22) rfl <| L.on rfl rfl rfl ((R1.ne rfl rfl).asB (c := (decide ((os.length : Int) ≠ (cs.length : Int)))) (rfl)) rfl <| L.v (R1.pickF rfl rfl) rfl <| L.nil <| X.seq <| W.cond rfl ?_ ?_
    ·
     intro hc35
     have hcc_ := hc35
     refine W.seq <| W.region <| L.a rfl rfl <| L.nil <| X.seq <| W.ret <| X.thenRet <| X.result1 rfl (.tmp rfl .nil) ?_
     exact ⟨rfl, hm0⟩
    ·
     intro hc35
     have hcc_ := hc35
     have hsm := sm150 (by simpa using hgd18)
     obtain ⟨hsv, hvl⟩ := (by first | exact hb21 rfl | exact hb21 hgd23 : (∀ q ∈ val, SmQ 3 q) ∧ val.length ≤ 100)
     have hsv3 := hsv
     replace hsv := sm316 hsv
     have hcl : cs.length ≤ 12 := by have h9 := of_decide_eq_false hgd28; omega
     have hsmL : ∀ c ∈ cs, SmC 1099511627776 c := fun c hc => smC_up (hsm c hc) (by decide)
     have hlen : os.length = cs.length := by have h9 := of_decide_eq_false hc35; omega
     refine W.skip <| X.seq <| W.seq <| W.region <| L.m rfl rfl <| L.v (R1.loadBox rfl hb3 tyG26) rfl <| L.call rfl (c_Phase (hL.sub (M' := []) (fun b hb => by cases hb)) (hO.sub (M' := []) (fun b hb => by cases hb)) (hv.sub (M' := []) (fun b hb => by cases hb)) (hbd.sub (M' := []) (fun b hb => by cases hb)) hsm hsv hcl) rfl ?_
     rintro _ w4 ⟨a39, b39, rfl, hA, hB, hm4⟩
     replace hL := hL.gr hm4
     replace hO := hO.gr hm4
     replace hv := hv.gr hm4
     replace hbd := hbd.gr hm4
     replace hm0 := hm0.trans hm4
     replace hb3 := Blk.gr hb3 hm4
     clear hm4
     refine L.m rfl rfl <| L.v (R1.extract rfl rfl) rfl <| L.v (R1.extract rfl rfl) rfl <| L.v (R1.extract rfl rfl) rfl <| L.alloc tyZ26 rfl ?_
     intro g6 w5 hN6
     replace hL := hL.new hN6
     replace hO := hO.new hN6
     replace hv := hv.new hN6
     replace hbd := hbd.new hN6
     have hge_g6 := New.ge hN6 hm0.size
     replace hm0 := hm0.trans (hN6.mod.mono (by simp))
     have hne_g3_g6 := hb3.ne_ hN6
     replace hb3 := Blk.gr hb3 hN6.mod
     replace hA := hA.new hN6
     replace hB := hB.new hN6
     have hb6 := hN6.blk
     clear hN6
     refine L.storeBox rfl rfl hb6 rfl (one_S (lay_form' hA) (lay_form' hB)) tyG26 ?_
     intro w6 hb6' hm6
     replace hL := hL.mod hm6 (by simp)
     replace hO := hO.mod hm6 (by simp)
     replace hv := hv.mod hm6 (by simp)
     replace hbd := hbd.gr hm6
     replace hm0 := hm0.old1 hm6 hge_g6
     replace hb3 := Blk.far hb3 hm6 (by first | exact hne_g3_g6 | exact (hne_g6_g3).symm)
     replace hA := hA.mod hm6 (by simp)
     replace hB := hB.mod hm6 (by simp)
     clear hm6
     replace hb6 := hb6'; clear hb6'
     refine L.a rfl rfl <| L.a rfl rfl <| L.nil <| X.seq <| W.seq <| W.region <| L.m rfl rfl <| L.m rfl rfl <| L.call rfl (c_r11_First hL hbd hsmL) rfl ?_
     rintro _ w7 ⟨rfl, hm7⟩
     replace hL := hL.gr hm7
     replace hO := hO.gr hm7
     replace hv := hv.gr hm7
     replace hbd := hbd.gr hm7
     replace hm0 := hm0.trans hm7
     replace hb3 := Blk.gr hb3 hm7
     replace hA := hA.gr hm7
     replace hB := hB.gr hm7
     replace hb6 := Blk.gr hb6 hm7
     clear hm7
     refine L.a rfl rfl <| L.nil <| X.seq <| W.seq <| W.seq <| W.region <| L.m rfl rfl <| L.v ((R1.eq rfl rfl).asB (c := (decide ((phZ cs os val).2.2 = 1))) (rfl)) rfl <| L.nil <| X.seq <| W.cond rfl ?_ ?_
     ·
      intro hc47
      try simp only [bq, ne_eq] at hc47
      refine W.seq <| W.region <| L.m rfl rfl <| L.v (R1.fieldAt rfl tyF26_0) rfl <| L.v (R1.loadFld rfl hb3 rfl tyP23) rfl <| L.v (R1.fieldAt rfl tyF26_1) rfl <| L.v (R1.loadFld rfl hb3 rfl tyP24) rfl <| L.v (R1.build (vs := [.slice TO os.length tO, .slice TV val.length tV]) rfl (built_T2 _ _ _ _ _ _)) rfl <| L.call rfl (c_r15_Phase (hL.sub (M' := []) (fun b hb => by cases hb)) (hO.sub (M' := []) (fun b hb => by cases hb)) (hv.sub (M' := []) (fun b hb => by cases hb)) (hbd.sub (M' := []) (fun b hb => by cases hb)) hsm hsv) rfl ?_
      rintro _ w8 ⟨a55, b55, rfl, hA2, hB2, hm8⟩
      replace hm0 := hm0.trans hm8
      clear hm8
      refine L.m rfl rfl <| L.v (R1.extract rfl rfl) rfl <| L.v (R1.extract rfl rfl) rfl <| L.v (R1.extract rfl rfl) rfl <| L.alloc tyZ32 rfl ?_
      intro g10 w9 hN10
      have hge_g10 := New.ge hN10 hm0.size
      replace hm0 := hm0.trans (hN10.mod.mono (by simp))
      replace hA2 := hA2.new hN10
      replace hB2 := hB2.new hN10
      have hb10 := hN10.blk
      clear hN10
      refine L.storeBox rfl rfl hb10 rfl (one_S (lay_form' hA2) (lay_form' hB2)) tyG32 ?_
      intro w10 hb10' hm10
      replace hm0 := hm0.old1 hm10 hge_g10
      clear hm10
      replace hb10 := hb10'; clear hb10'
      refine L.a rfl rfl <| L.a rfl rfl <| L.nil <| X.seq <| W.seq <| W.region <| L.m rfl rfl <| L.v ((R1.eq rfl rfl).asB (c := true) (decide_eq_true hc47)) rfl <| L.m rfl rfl <| L.on rfl rfl rfl (R1.move rfl) rfl <| L.on rfl rfl rfl ((R1.eq rfl rfl).asB (c := true) (decide_eq_true ((phZ_cyc hlen).1 hc47))) rfl ?_
      refine L.v (R1.pickT rfl rfl) rfl <| L.m rfl rfl <| L.callOn rfl rfl rfl rfl (c_known15) rfl ?_
      rintro _ w11 ⟨rfl, hm11⟩
      replace hm0 := hm0.trans hm11
      clear hm11
      refine L.v (R1.pickT rfl rfl) rfl <| L.a rfl rfl <| L.nil <| X.seq <| W.ret <| X.thenRet <| X.result1 rfl (.tmp rfl .nil) ?_
      exact ⟨rfl, hm0⟩
     ·
      intro hc47
      try simp only [bq, ne_eq] at hc47
      have hcy := (phZ_cyc hlen).2 hc47
      refine W.skip <| X.seq <| W.seq <| W.region <| L.m rfl rfl <| L.v ((R1.eq rfl rfl).asB (c := (decide ((phZ cs os val).2.2 = 9))) (rfl)) rfl <| L.m rfl rfl <| L.v ((R1.ge rfl rfl).asB (c := (decide (firstW (List.range (held (val.length : Int))) (wsOf (held (val.length : Int)) cs) 0 ≠ none))) (fi_geq _)) rfl <| L.v ((R1.eqB rfl rfl tyB4).asB (c := true) (by rw [beq_iff_eq]; exact decide_eq_decide.2 hcy.1)) rfl <| L.m rfl rfl <| L.on rfl rfl rfl (R1.move rfl) rfl ?_
      refine L.on rfl rfl rfl ((R1.lt rfl rfl).asB (c := (decide (firstW (List.range (held (val.length : Int))) (wsOf (held (val.length : Int)) cs) 0 = none))) (fi_neg _)) rfl <| L.on rfl rfl rfl (R1.move rfl) rfl ?_
      cases hgd76 : (decide (firstW (List.range (held (val.length : Int))) (wsOf (held (val.length : Int)) cs) 0 = none))
      ·
       try simp only [bq, ne_eq] at hgd76
       refine L.on rfl rfl rfl (R1.move rfl) rfl <| L.on rfl rfl rfl (R1.move rfl) rfl <| L.on rfl rfl rfl ((R1.eq rfl rfl).asB (c := true) (decide_eq_true (hcy.2 hgd76).1)) rfl <| L.on rfl rfl rfl (R1.move rfl) rfl <| L.on rfl rfl rfl (R1.fieldAt rfl tyF26_0) rfl <| L.on rfl rfl rfl (R1.loadFld rfl hb6 rfl tyP23) rfl <| L.on rfl rfl rfl (R1.lenLay rfl hA tyS23) rfl <| L.on rfl rfl rfl (R1.fieldAt rfl tyF26_1) rfl <| L.on rfl rfl rfl (R1.loadFld rfl hb6 rfl tyP24) rfl <| L.on rfl rfl rfl (R1.lenLay rfl hB tyS24) rfl <| L.on rfl rfl rfl (R1.addI rfl rfl (by rw [(hcy.2 hgd76).2]; decide)) rfl ?_
       refine L.on rfl rfl rfl ((R1.eq rfl rfl).asB (c := true) (by rw [(hcy.2 hgd76).2]; rfl)) rfl <| L.on rfl rfl rfl (R1.pickT rfl rfl) rfl <| L.on rfl rfl rfl (R1.pickF rfl rfl) rfl <| L.v (R1.pickT rfl rfl) rfl <| L.m rfl rfl <| L.callOn rfl rfl rfl rfl (c_known15) rfl ?_
       rintro _ w12 ⟨rfl, hm12⟩
       replace hm0 := hm0.trans hm12
       clear hm12
       refine L.v (R1.pickT rfl rfl) rfl <| L.a rfl rfl <| L.nil <| X.seq <| W.ret <| X.result1 rfl (.tmp rfl .nil) ?_
       exact ⟨rfl, hm0⟩
      ·
       try simp only [bq, ne_eq] at hgd76
       refine L.off rfl rfl rfl rfl rfl <| L.off rfl rfl rfl rfl rfl <| L.off rfl rfl rfl rfl rfl <| L.off rfl rfl rfl rfl rfl <| L.offU rfl rfl rfl rfl <| L.offU rfl rfl rfl rfl <| L.offU rfl rfl rfl rfl <| L.offU rfl rfl rfl rfl <| L.offU rfl rfl rfl rfl <| L.offU rfl rfl rfl rfl <| L.offU rfl rfl rfl rfl ?_
       refine L.offU rfl rfl rfl rfl <| L.off rfl rfl rfl rfl rfl <| L.on rfl rfl rfl (R1.pickT rfl rfl) rfl <| L.v (R1.pickT rfl rfl) rfl <| L.m rfl rfl <| L.callOn rfl rfl rfl rfl (c_known15) rfl ?_
       rintro _ w13 ⟨rfl, hm13⟩
       replace hm0 := hm0.trans hm13
       clear hm13
       refine L.v (R1.pickT rfl rfl) rfl <| L.a rfl rfl <| L.nil <| X.seq <| W.ret <| X.result1 rfl (.tmp rfl .nil) ?_
       exact ⟨rfl, hm0⟩
   ·
    have hcc_ := hgd28
    refine L.off rfl rfl rfl rfl rfl <| L.off rfl rfl rfl rfl rfl <| L.off rfl rfl rfl rfl rfl <| L.off rfl rfl rfl rfl rfl <| L.off rfl rfl rfl rfl rfl <| L.off rfl rfl rfl rfl rfl <| L.v (R1.pickT rfl rfl) rfl <| L.nil <| X.seq <| W.condT rfl <| W.seq ?_
    refine W.region <| L.a rfl rfl <| L.nil <| X.seq <| W.ret <| X.thenRet <| X.result1 rfl (.tmp rfl .nil) ?_
    exact ⟨rfl, hm0⟩
  ·
   have hcc_ := hgd23
   refine L.off rfl rfl rfl rfl rfl <| L.off rfl rfl rfl rfl rfl <| L.off rfl rfl rfl rfl rfl <| L.v (R1.pickT rfl rfl) rfl <| L.m rfl rfl <| L.off rfl rfl rfl rfl rfl <| L.off rfl rfl rfl rfl rfl <| L.off rfl rfl rfl rfl rfl <| L.off rfl rfl rfl rfl rfl <| L.off rfl rfl rfl rfl rfl <| L.off rfl rfl rfl rfl rfl ?_
   refine L.v (R1.pickT rfl rfl) rfl <| L.nil <| X.seq <| W.condT rfl <| W.seq <| W.region <| L.a rfl rfl <| L.nil <| X.seq <| W.ret <| X.thenRet ?_
   refine X.result1 rfl (.tmp rfl .nil) ?_
   exact ⟨rfl, hm0⟩
 ·
  have hcc_ := hgd18
  refine L.off rfl rfl rfl rfl rfl <| L.off rfl rfl rfl rfl rfl <| L.off rfl rfl rfl rfl rfl <| L.v (R1.pickT rfl rfl) rfl <| L.m rfl rfl <| L.off rfl rfl rfl rfl rfl <| L.off rfl rfl rfl rfl rfl <| L.off rfl rfl rfl rfl rfl <| L.v (R1.pickT rfl rfl) rfl <| L.m rfl rfl <| L.off rfl rfl rfl rfl rfl ?_
  refine L.off rfl rfl rfl rfl rfl <| L.off rfl rfl rfl rfl rfl <| L.off rfl rfl rfl rfl rfl <| L.off rfl rfl rfl rfl rfl <| L.off rfl rfl rfl rfl rfl <| L.v (R1.pickT rfl rfl) rfl <| L.nil <| X.seq <| W.condT rfl <| W.seq <| W.region ?_
  refine L.a rfl rfl <| L.nil <| X.seq <| W.ret <| X.thenRet <| X.result1 rfl (.tmp rfl .nil) ?_
  exact ⟨rfl, hm0⟩
end Go.Proofs.YtgpdjfalleadaaaGreat
