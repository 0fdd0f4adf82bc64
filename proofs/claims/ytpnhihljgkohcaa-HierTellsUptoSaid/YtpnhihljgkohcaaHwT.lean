/- Walks: what the functions compute. -/
import Derived.Test.YtpnhihljgkohcaaHkA
namespace Go.Proofs.Ytpnhihljgkohcaa
open Go.RowKit
set_option linter.unusedVariables false
set_option linter.unusedSimpArgs false
set_option maxRecDepth 10000
set_option maxHeartbeats 1000000 in
theorem c_HierTells {w : World} {vl vb vv : Value} {cs : List CR} {bs val : List QR} (hL : Lay rdC [] w vl cs) (hvb : Lay rdQ [] w vb bs) (hv : Lay rdQ [] w vv val) (hb : szCs cs ≤ 4194304) (hbb : szQs bs ≤ 4194304) (hbv : szQs val ≤ 4194304) :
    Ret Try.prog 6 #[vl, vb, vv] w (fun r w' => r = .bool true ∧ Mod [] w w') := by
 have hbd : Bd [] w := fun m hm => by cases hm
 obtain ⟨TL, tL, rfl⟩ := hL.form
 obtain ⟨TB, tB, rfl⟩ := hvb.form
 obtain ⟨TV, tV, rfl⟩ := hv.form
 have hcl := cs_len cs
 refine Ret.of (vs := [.slice TL cs.length tL, .slice TB bs.length tB, .slice TV val.length tV]) (n := 68) Try.func6 rfl rfl rfl rfl ?_
 have hm0 : Mod [] w w := Mod.refl _ _
 refine W.seq <| W.region <| L.v (R1.assign rfl) rfl <| L.nil <| X.seq <| W.seq <| W.seq <| W.region <| L.v (R1.move rfl) rfl <| L.call rfl (c_heavy_pantographlaw12 hL (hb)) rfl ?_
 rintro _ w1 ⟨rfl, hm1⟩
 replace hL := hL.gr hm1
 replace hvb := hvb.gr hm1
 replace hv := hv.gr hm1
 replace hbd := hbd.gr hm1
 replace hm0 := hm0.trans hm1
 clear hm1
 refine L.v (R1.move rfl) rfl ?_
 cases hgd12 : (decide (150 < szCs cs))
 ·
  have hcc_ := hgd12
  refine L.on rfl rfl rfl (R1.move rfl) rfl <| L.callOn rfl rfl rfl rfl (c_many_pantographlaw12 hvb (hbb)) rfl ?_
  rintro _ w2 ⟨b14, rfl, hb14, hm2⟩
  replace hL := hL.gr hm2
  replace hvb := hvb.gr hm2
  replace hv := hv.gr hm2
  replace hbd := hbd.gr hm2
  replace hm0 := hm0.trans hm2
  clear hm2
  refine L.v (R1.pickF rfl rfl) rfl <| L.v (R1.move rfl) rfl ?_
  cases hgd16 : b14
  ·
   have hcc_ := hgd16
   refine L.on rfl rfl rfl (R1.move rfl) rfl <| L.callOn rfl rfl rfl rfl (c_many_pantographlaw12 hv (hbv)) rfl ?_
   rintro _ w3 ⟨b18, rfl, hb18, hm3⟩
   replace hL := hL.gr hm3
   replace hvb := hvb.gr hm3
   replace hv := hv.gr hm3
   replace hbd := hbd.gr hm3
   replace hm0 := hm0.trans hm3
   clear hm3
   refine L.v (R1.pickF rfl rfl) rfl <| L.v (R1.move rfl) rfl ?_
   cases hgd20 : b18
   ·
    have hcc_ := hgd20
    refine L.on rfl rfl rfl (R1.move rfl) rfl <| L.on rfl rfl rfl (R1.lenLay rfl hv tyS23) rfl <| L.on rfl rfl rfl ((R1.gt rfl rfl).asB (c := decide (6 < (val.length : Int))) (rfl)) rfl <| L.v (R1.pickF rfl rfl) rfl <| L.v (R1.move rfl) rfl ?_
    cases hgd25 : decide (6 < (val.length : Int))
    ·
     simp only [bq] at hgd25
     refine L.on rfl rfl rfl (R1.move rfl) rfl <| L.on rfl rfl rfl (R1.lenLay rfl hL tyS22) rfl <| L.on rfl rfl rfl ((R1.gt rfl rfl).asB (c := decide (8 < (cs.length : Int))) (rfl)) rfl <| L.v (R1.pickF rfl rfl) rfl <| L.nil <| X.seq <| W.cond rfl ?_ ?_
     ·
      intro hc29
      simp only [bq] at hc29
      refine W.seq <| W.region <| L.v (R1.assign rfl) rfl <| L.nil <| X.seq <| W.ret <| X.thenRet <| X.result1 rfl (.tmp rfl .nil) ?_
      exact ⟨rfl, hm0⟩
     ·
      intro hc29
      simp only [bq] at hc29
      have hsm := sm150 (by simpa using hgd12)
      obtain ⟨hqb, _⟩ := hb14 hgd16
      obtain ⟨hqv, _⟩ := hb18 hgd20
      have hle : cs.length ≤ 1000 := by have h9 : ¬ 150 < szCs cs := (by simpa using hgd12); omega
      refine W.skip <| X.seq <| W.seq <| W.region <| L.v (R1.move rfl) rfl <| L.v (R1.move rfl) rfl <| L.call rfl (c_Levels hL hv hbd hsm (sm310 hqv) (by omega) (by omega)) rfl ?_
      rintro v32 w4 ⟨ha, hm4⟩
      replace hL := hL.gr hm4
      replace hvb := hvb.gr hm4
      replace hv := hv.gr hm4
      replace hbd := hbd.gr hm4
      replace hm0 := hm0.trans hm4
      clear hm4
      obtain ⟨ls, hls⟩ : ∃ ls, ls = (levs val.length val cs).map fun (x : Nat) => (x : Int) := ⟨_, rfl⟩
      rw [← hls] at ha
      refine L.v (R1.move rfl) rfl <| L.v (R1.move rfl) rfl <| L.call rfl (c_Levels12 hL hv hbd hsm (sm310 hqv) (by omega) (by omega)) rfl ?_
      rintro v35 w5 ⟨hc, hm5⟩
      replace hL := hL.gr hm5
      replace hvb := hvb.gr hm5
      replace hv := hv.gr hm5
      replace hbd := hbd.gr hm5
      replace hm0 := hm0.trans hm5
      replace ha := ha.gr hm5
      clear hm5
      rw [← hls] at hc
      have hl4 : ls.length = 4 := by rw [hls, List.length_map, levs_len]
      refine L.v (R1.assign rfl) rfl <| L.v (R1.assign rfl) rfl <| L.nil <| X.seq <| W.seq <| W.seq <| W.region <| L.v (R1.move rfl) rfl <| L.v (R1.lenLay rfl ha tyS42) rfl <| L.v (R1.move rfl) rfl <| L.v (R1.lenLay rfl hc tyS42) rfl ?_
      refine L.v ((R1.ne rfl rfl).asB (c := false) (decide_eq_false (by simp))) rfl <| L.nil <| X.seq <| W.condF rfl <| W.skip <| X.seq <| W.seq <| W.seq <| W.region <| L.v (R1.assign rfl) rfl <| L.nil ?_
      refine X.seq <| W.block <| W.loop (ι := Nat) (fun i => [(0, .slice TL cs.length tL), (1, .slice TB bs.length tB), (2, .slice TV val.length tV), (7, v32), (8, v35), (9, .int .i64 (i : Int))]) (fun i w_ => Lay rdC [] w_ (.slice TL cs.length tL) cs ∧ Lay rdQ [] w_ (.slice TB bs.length tB) bs ∧ Lay rdQ [] w_ (.slice TV val.length tV) val ∧ Lay rdI [] w_ v32 ls ∧ Lay rdI [] w_ v35 ls ∧ Bd [] w_ ∧ Mod [] w w_ ∧ i ≤ ls.length) (fun i => ls.length - i) 0 ?_ ?_ ?_
      · exact ⟨rfl, rfl, rfl, rfl, rfl, rfl, trivial⟩
      ·
       exact ⟨hL.sub (by intro b hb; first | exact hb | (simp only [mq] at hb ⊢; grind)), hvb.sub (by intro b hb; first | exact hb | (simp only [mq] at hb ⊢; grind)), hv.sub (by intro b hb; first | exact hb | (simp only [mq] at hb ⊢; grind)), ha.sub (by intro b hb; first | exact hb | (simp only [mq] at hb ⊢; grind)), hc.sub (by intro b hb; first | exact hb | (simp only [mq] at hb ⊢; grind)), hbd.sub (by intro b hb; first | exact hb | (simp only [mq] at hb ⊢; grind)), hm0, Nat.zero_le _⟩
      ·
       rintro i w6 ⟨hL, hvb, hv, ha, hc, hbd, hm0, hi⟩
       refine W.seq <| W.seq <| W.region <| L.v (R1.move rfl) rfl <| L.v (R1.move rfl) rfl <| L.v (R1.lenLay rfl ha tyS42) rfl <| L.v (R1.lt rfl rfl) rfl <| L.nil <| X.seq <| W.cond rfl ?_ ?_
       ·
        intro hc44
        try simp only [bq, ne_eq] at hc44
        refine W.skip <| X.seq <| W.seq <| W.block <| W.seq <| W.drawW (T := []) rfl (by decide +kernel) (NoHang.then (NoHang.block (NoHang.then (NoHang.next (NoHang.block (NoHang.then NoHang.post)))))) (fun w7 hm7 => ?_)
        replace hL := hL.gr hm7
        replace hvb := hvb.gr hm7
        replace hv := hv.gr hm7
        replace ha := ha.gr hm7
        replace hc := hc.gr hm7
        replace hbd := hbd.gr hm7
        replace hm0 := hm0.trans hm7
        have hS1 : Mod [] w7 w7 := Mod.refl _ _
        clear hm7
        refine D.take 0 rfl (by decide +kernel) (fun w_ hS => (R1.move rfl)) hS1 rfl <| D.take 1 rfl (by decide +kernel) (fun w_ hS => (R1.move rfl)) hS1 rfl <| D.take 2 rfl (by decide +kernel) (fun w_ hS => (R1.atLay (j := i) rfl rfl (Lay.gr ha hS) tyS42 rfl (by omega))) hS1 rfl <| D.take 3 rfl (by decide +kernel) (fun w_ hS => (R1.loadLI rfl (Lay.gr ha hS) tyP3 (by omega) rfl)) hS1 rfl <| D.take 4 rfl (by decide +kernel) (fun w_ hS => (R1.move rfl)) hS1 rfl <| D.take 5 rfl (by decide +kernel) (fun w_ hS => (R1.move rfl)) hS1 rfl <| D.take 6 rfl (by decide +kernel) (fun w_ hS => (R1.atLay (j := i) rfl rfl (Lay.gr hc hS) tyS42 rfl (by omega))) hS1 rfl <| D.take 7 rfl (by decide +kernel) (fun w_ hS => (R1.loadLI rfl (Lay.gr hc hS) tyP3 (by omega) rfl)) hS1 rfl <| D.take 8 rfl (by decide +kernel) (fun w_ hS => ((R1.ne rfl rfl).asB (c := false) (decide_eq_false (by simp)))) hS1 rfl <| D.done (by decide +kernel) ?_ _
        refine X.seq <| W.condF rfl <| W.skip <| X.blockEnd <| X.seq <| W.region <| L.v (R1.move rfl) rfl <| L.v (R1.addI (b := 1) rfl rfl (by omega)) rfl <| L.v (R1.assign rfl) rfl <| L.nil <| X.next (i + 1) ?_ ?_ ?_
        · exact ⟨rfl, rfl, rfl, rfl, rfl, rfl, trivial⟩
        ·
         exact ⟨hL.sub (by intro b hb; first | exact hb | (simp only [mq] at hb ⊢; grind)), hvb.sub (by intro b hb; first | exact hb | (simp only [mq] at hb ⊢; grind)), hv.sub (by intro b hb; first | exact hb | (simp only [mq] at hb ⊢; grind)), ha.sub (by intro b hb; first | exact hb | (simp only [mq] at hb ⊢; grind)), hc.sub (by intro b hb; first | exact hb | (simp only [mq] at hb ⊢; grind)), hbd.sub (by intro b hb; first | exact hb | (simp only [mq] at hb ⊢; grind)), hm0, by omega⟩
        · first | omega | (dsimp only; omega)
       ·
        intro hc44
        try simp only [bq, ne_eq] at hc44
        obtain rfl : i = ls.length := by omega
        refine W.exit <| X.thenExit <| X.nextExit <| X.here <| X.seq <| W.seq <| W.region <| L.v (R1.move rfl) rfl <| L.v (R1.move rfl) rfl <| L.v (R1.move rfl) rfl <| L.call rfl (c_Beaten hL hvb hv hbd hsm hqb (sm310 hqv) hle (by omega) (oks_al hvb hqb hsm (by omega))) rfl ?_
        rintro _ w8 ⟨z59, rfl, hBt59, hm8⟩
        replace hL := hL.gr hm8
        replace hvb := hvb.gr hm8
        replace hv := hv.gr hm8
        replace hbd := hbd.gr hm8
        replace hm0 := hm0.trans hm8
        clear hm8
        refine L.v (R1.move rfl) rfl <| L.v (R1.move rfl) rfl <| L.v (R1.move rfl) rfl <| L.call rfl (c_Beaten12 hL hvb hv hbd hsm hqb (sm310 hqv) hle (by omega) (oks_al hvb hqb hsm (by omega))) rfl ?_
        rintro _ w9 ⟨z63, rfl, hBt63, hm9⟩
        replace hm0 := hm0.trans hm9
        clear hm9
        refine L.v ((R1.eq rfl rfl).asB (c := true) (decide_eq_true (hBt59.uniq hBt63))) rfl <| L.v (R1.move rfl) rfl <| L.callOn rfl rfl rfl rfl (c_known12) rfl ?_
        rintro _ w10 ⟨rfl, hm10⟩
        replace hm0 := hm0.trans hm10
        clear hm10
        refine L.v (R1.pickT rfl rfl) rfl <| L.v (R1.assign rfl) rfl <| L.nil <| X.seq <| W.ret <| X.result1 rfl (.tmp rfl .nil) ?_
        exact ⟨rfl, hm0⟩
    ·
     simp only [bq] at hgd25
     refine L.off rfl rfl rfl rfl rfl <| L.off rfl rfl rfl rfl rfl <| L.off rfl rfl rfl rfl rfl <| L.v (R1.pickT rfl rfl) rfl <| L.nil <| X.seq <| W.condT rfl <| W.seq <| W.region <| L.v (R1.assign rfl) rfl <| L.nil ?_
     refine X.seq <| W.ret <| X.thenRet <| X.result1 rfl (.tmp rfl .nil) ?_
     exact ⟨rfl, hm0⟩
   ·
    have hcc_ := hgd20
    refine L.off rfl rfl rfl rfl rfl <| L.off rfl rfl rfl rfl rfl <| L.off rfl rfl rfl rfl rfl <| L.v (R1.pickT rfl rfl) rfl <| L.v (R1.move rfl) rfl <| L.off rfl rfl rfl rfl rfl <| L.off rfl rfl rfl rfl rfl <| L.off rfl rfl rfl rfl rfl <| L.v (R1.pickT rfl rfl) rfl <| L.nil <| X.seq ?_
    refine W.condT rfl <| W.seq <| W.region <| L.v (R1.assign rfl) rfl <| L.nil <| X.seq <| W.ret <| X.thenRet <| X.result1 rfl (.tmp rfl .nil) ?_
    exact ⟨rfl, hm0⟩
  ·
   have hcc_ := hgd16
   refine L.off rfl rfl rfl rfl rfl <| L.off rfl rfl rfl rfl rfl <| L.v (R1.pickT rfl rfl) rfl <| L.v (R1.move rfl) rfl <| L.off rfl rfl rfl rfl rfl <| L.off rfl rfl rfl rfl rfl <| L.off rfl rfl rfl rfl rfl <| L.v (R1.pickT rfl rfl) rfl <| L.v (R1.move rfl) rfl <| L.off rfl rfl rfl rfl rfl <| L.off rfl rfl rfl rfl rfl ?_
   refine L.off rfl rfl rfl rfl rfl <| L.v (R1.pickT rfl rfl) rfl <| L.nil <| X.seq <| W.condT rfl <| W.seq <| W.region <| L.v (R1.assign rfl) rfl <| L.nil <| X.seq <| W.ret ?_
   refine X.thenRet <| X.result1 rfl (.tmp rfl .nil) ?_
   exact ⟨rfl, hm0⟩
 ·
  have hcc_ := hgd12
  refine L.off rfl rfl rfl rfl rfl <| L.off rfl rfl rfl rfl rfl <| L.v (R1.pickT rfl rfl) rfl <| L.v (R1.move rfl) rfl <| L.off rfl rfl rfl rfl rfl <| L.off rfl rfl rfl rfl rfl <| L.v (R1.pickT rfl rfl) rfl <| L.v (R1.move rfl) rfl <| L.off rfl rfl rfl rfl rfl <| L.off rfl rfl rfl rfl rfl <| L.off rfl rfl rfl rfl rfl ?_
  refine L.v (R1.pickT rfl rfl) rfl <| L.v (R1.move rfl) rfl <| L.off rfl rfl rfl rfl rfl <| L.off rfl rfl rfl rfl rfl <| L.off rfl rfl rfl rfl rfl <| L.v (R1.pickT rfl rfl) rfl <| L.nil <| X.seq <| W.condT rfl <| W.seq <| W.region ?_
  refine L.v (R1.assign rfl) rfl <| L.nil <| X.seq <| W.ret <| X.thenRet <| X.result1 rfl (.tmp rfl .nil) ?_
  exact ⟨rfl, hm0⟩

end Go.Proofs.Ytpnhihljgkohcaa
