/- Walks: what the functions compute. -/
import Derived.Test.YtfpipaoobmcomaaL3K
namespace Go.Proofs.Ytfpipaoobmcomaa
open Go.RowKit
set_option linter.unusedVariables false
set_option linter.unusedSimpArgs false
set_option maxRecDepth 10000
set_option maxHeartbeats 1000000 in
theorem c_DeltaAgain {w : World} {vl : Value} {cs : List CR} {z0 : Int} (hL : Lay rdC [] w vl cs) (hb : szCs cs ≤ 4194304) :
    Ret Try.prog 3 #[vl, .int .i64 z0] w (fun r w' => r = .bool true ∧ Mod [] w w') := by
 have hbd : Bd [] w := fun m hm => by cases hm
 obtain ⟨TL, tL, rfl⟩ := hL.form
 have hmaxL := hL.max; unfold maxLen at hmaxL
 refine Ret.of (vs := [.slice TL cs.length tL, .int .i64 z0]) (n := 60) Try.func3 rfl rfl rfl rfl ?_
 have hm0 : Mod [] w w := Mod.refl _ _
 refine W.seq <| W.region <| L.v (R1.assign rfl) rfl <| L.nil <| X.seq <| W.seq <| W.seq <| W.region <| L.v (R1.move rfl) rfl <| L.call rfl (c_heavy_pantographlaw13 hL hb) rfl ?_
 rintro _ w1 ⟨rfl, hm1⟩
 replace hL := hL.gr hm1
 replace hbd := hbd.gr hm1
 replace hm0 := hm0.trans hm1
 clear hm1
 refine L.v (R1.move rfl) rfl ?_
 cases hgd13 : (decide (150 < szCs cs))
 ·
  have hcc_ := hgd13
  refine L.on rfl rfl rfl (R1.move rfl) rfl <| L.on rfl rfl rfl (R1.lenLay rfl hL tyS22) rfl <| L.on rfl rfl rfl ((R1.gt rfl rfl).asB (c := (decide ((12 : Int) < (cs.length : Int)))) (rfl)) rfl <| L.v (R1.pickF rfl rfl) rfl <| L.nil <| X.seq <| W.cond rfl ?_ ?_
  ·
   intro hc17
   have hcc_ := hc17
   refine W.seq <| W.region <| L.v (R1.assign rfl) rfl <| L.nil <| X.seq <| W.ret <| X.thenRet <| X.result1 rfl (.tmp rfl .nil) ?_
   exact ⟨rfl, hm0⟩
  ·
   intro hc17
   have hcc_ := hc17
   have hsm := sm150 (by simpa using hgd13)
   have hcl : cs.length ≤ 12 := by have h9 := of_decide_eq_false hc17; omega
   refine W.skip <| X.seq <| W.seq <| W.region <| L.v (R1.assign rfl) rfl <| L.nil <| X.seq <| W.seq <| W.seq <| W.region <| L.v (R1.assign rfl) rfl ?_
   refine L.nil <| X.seq <| W.block <| W.loop (ι := Nat × Value) (fun (i, u) => [(0, .slice TL cs.length tL), (1, .int .i64 z0), (5, u), (6, .int .i64 ((i : Nat) : Int))]) (fun (i, u) w_ => Lay rdC (ownL u ++ []) w_ (.slice TL cs.length tL) cs ∧ w_.ownsRow w.heap.size 3 1 u i (intsZ (List.replicate i (-1))) ∧ i ≤ cs.length ∧ Bd (ownL u ++ []) w_ ∧ Mod [] w w_) (fun (i, u) => cs.length - i) (0, .slice none 0 0) ?_ ?_ ?_
   · exact ⟨rfl, rfl, rfl, rfl, trivial⟩
   ·
    exact ⟨hL.sub (by intro b hb; first | exact hb | (simp only [mq] at hb ⊢; grind)), own_nil _ _ _ _, Nat.zero_le _, hbd.sub (by intro b hb; first | exact hb | (simp only [mq] at hb ⊢; grind)), hm0⟩
   ·
    rintro ⟨i, u⟩ w2 ⟨hL, ho, hi, hbd, hm0⟩
    refine W.seq <| W.seq <| W.region <| L.v (R1.move rfl) rfl <| L.v (R1.move rfl) rfl <| L.v (R1.lenLay rfl hL tyS22) rfl <| L.v (R1.lt rfl rfl) rfl <| L.nil <| X.seq <| W.cond rfl ?_ ?_
    ·
     intro hc21
     try simp only [bq, ne_eq] at hc21
     refine W.skip <| X.seq <| W.seq <| W.block <| W.region <| L.v (R1.move rfl) rfl <| L.build1 rfl rfl tyS24 tyZ3 rfl ?_
     intro g25 w3 hN25
     replace hL := hL.gr hN25.mod
     replace ho := own_gr ho hN25.mod (by simp)
     replace hbd := hbd.gr hN25.mod
     replace hm0 := hm0.trans hN25.mod
     have hrow : Sl [] w3 1 (.slice (some ⟨g25, 0, none⟩) 1 1) 1 [.int .i64 (-1)] := Sl.of_blk hN25.blk 0 (Nat.le_refl _) (by decide) rfl (by simp) (fun j hj => by simp)
     clear hN25
     refine L.append rfl rfl ho hrow (by simp [Value.oneCell']) tyS24 tyZ3 (by omega) (by unfold maxLen; omega) hm0.size rfl ?_
     intro v26 w4 ho26' hG26
     replace hL := hL.grew2 hG26 (by first | exact mem_own | (intro b hb; simp [hb]))
     replace hbd := hbd.grew2 hG26 (by first | exact mem_own | (intro b hb; simp [hb]))
     replace hm0 := Mod.oldOwn hm0 hG26.mod ho
     replace ho := ho26'; clear ho26'
     clear hG26
     refine L.v (R1.assign rfl) rfl <| L.nil <| X.blockEnd <| X.seq <| W.region <| L.v (R1.move rfl) rfl <| L.v (R1.addI (b := 1) rfl rfl (by omega)) rfl <| L.v (R1.assign rfl) rfl <| L.nil <| X.next (i + 1, v26) ?_ ?_ ?_
     · exact ⟨rfl, rfl, rfl, rfl, trivial⟩
     ·
      exact ⟨hL.sub (by intro b hb; first | exact hb | (simp only [mq] at hb ⊢; grind)), own_congr ho rfl (by simp [intsZ, List.replicate_succ']), by omega, hbd.sub (by intro b hb; first | exact hb | (simp only [mq] at hb ⊢; grind)), hm0⟩
     · first | omega | (dsimp only; omega)
    ·
     intro hc21
     try simp only [bq, ne_eq] at hc21
     obtain rfl : i = cs.length := by omega
     have hO := Lay.of_Z (M := []) ho (by simp)
     have hol : (List.replicate cs.length (-1)).length ≤ 1000000 := by rw [List.length_replicate]; omega
     refine W.exit <| X.thenExit <| X.nextExit <| X.here <| X.seq <| W.seq <| W.region <| L.v (R1.move rfl) rfl <| L.v (R1.move rfl) rfl <| L.v (R1.move rfl) rfl <| L.call rfl (c_SettleL (hL.sub (M' := []) (fun b hb => by cases hb)) (hO.sub (M' := []) (fun b hb => by cases hb)) (hbd.sub (M' := []) (fun b hb => by cases hb)) hsm hol hcl) rfl ?_
     rintro _ w5 ⟨v31, rfl, hR, hm5⟩
     replace hL := hL.gr hm5
     replace hbd := hbd.gr hm5
     replace hm0 := hm0.trans hm5
     replace hO := hO.gr hm5
     clear hm5
     refine L.v (R1.move rfl) rfl <| L.v (R1.extract rfl rfl) rfl <| L.v (R1.extract rfl rfl) rfl <| L.v (R1.assign rfl) rfl <| L.v (R1.assign rfl) rfl <| L.nil <| X.seq <| W.seq <| W.seq <| W.region <| L.v (R1.move rfl) rfl ?_
     refine L.v (R1.not rfl) rfl <| L.nil <| X.seq <| W.cond rfl ?_ ?_
     ·
      intro hc35
      simp only [Bool.not_eq_true', Bool.not_eq_false'] at hc35
      refine W.seq <| W.region <| L.v (R1.move rfl) rfl <| L.v (R1.move rfl) rfl <| L.v (R1.move rfl) rfl <| L.call rfl (c_r13_Is (hL.sub (M' := []) (fun b hb => by cases hb)) (hO.sub (M' := []) (fun b hb => by cases hb)) (hbd.sub (M' := []) (fun b hb => by cases hb)) hsm) rfl ?_
      rintro _ w6 ⟨rfl, hm6⟩
      replace hm0 := hm0.trans hm6
      clear hm6
      refine L.v ((R1.not rfl).asB (c := true) (by rw [hc35]; rfl)) rfl <| L.v (R1.move rfl) rfl <| L.callOn rfl rfl rfl rfl (c_known13) rfl ?_
      rintro _ w7 ⟨rfl, hm7⟩
      replace hm0 := hm0.trans hm7
      clear hm7
      refine L.v (R1.pickT rfl rfl) rfl <| L.v (R1.assign rfl) rfl <| L.nil <| X.seq <| W.ret <| X.thenRet <| X.result1 rfl (.tmp rfl .nil) ?_
      exact ⟨rfl, hm0⟩
     ·
      intro hc35
      simp only [Bool.not_eq_true', Bool.not_eq_false'] at hc35
      refine W.skip <| X.seq <| W.seq <| W.region <| L.v (R1.move rfl) rfl <| L.v (R1.move rfl) rfl <| L.v (R1.move rfl) rfl <| L.call rfl (c_SettleL (hL.sub (M' := []) (fun b hb => by cases hb)) (hR.sub (M' := []) (fun b hb => by cases hb)) (hbd.sub (M' := []) (fun b hb => by cases hb)) hsm (by rw [setZ_len hc35]; omega) hcl) rfl ?_
      rintro _ w8 ⟨v48, rfl, hR2, hm8⟩
      replace hm0 := hm0.trans hm8
      replace hR := hR.gr hm8
      clear hm8
      rw [setZ_again hc35] at hR2
      rw [chb_set hc35]
      refine L.v (R1.move rfl) rfl <| L.v (R1.extract rfl rfl) rfl <| L.v (R1.extract rfl rfl) rfl <| L.v (R1.assign rfl) rfl <| L.v (R1.assign rfl) rfl <| L.nil <| X.seq <| W.seq <| W.region <| L.v (R1.move rfl) rfl <| L.v (R1.move rfl) rfl ?_
      refine L.on rfl rfl rfl (R1.move rfl) rfl <| L.on rfl rfl rfl (R1.move rfl) rfl <| L.callOn rfl rfl rfl rfl (c_numbersEq hR hR2 rfl) rfl ?_
      rintro _ w9 ⟨rfl, hm9⟩
      replace hm0 := hm0.trans hm9
      clear hm9
      refine L.v (R1.pickT rfl rfl) rfl <| L.v (R1.move rfl) rfl <| L.callOn rfl rfl rfl rfl (c_known13) rfl ?_
      rintro _ w10 ⟨rfl, hm10⟩
      replace hm0 := hm0.trans hm10
      clear hm10
      refine L.v (R1.pickT rfl rfl) rfl <| L.v (R1.assign rfl) rfl <| L.nil <| X.seq <| W.ret <| X.result1 rfl (.tmp rfl .nil) ?_
      exact ⟨rfl, hm0⟩
 ·
  have hcc_ := hgd13
  refine L.off rfl rfl rfl rfl rfl <| L.off rfl rfl rfl rfl rfl <| L.off rfl rfl rfl rfl rfl <| L.v (R1.pickT rfl rfl) rfl <| L.nil <| X.seq <| W.condT rfl <| W.seq <| W.region <| L.v (R1.assign rfl) rfl <| L.nil ?_
  refine X.seq <| W.ret <| X.thenRet <| X.result1 rfl (.tmp rfl .nil) ?_
  exact ⟨rfl, hm0⟩

end Go.Proofs.Ytfpipaoobmcomaa
