/- Walks: what the functions compute. -/
import Derived.Test.YtpnhihljgkohcaaHkA
namespace Go.Proofs.Ytpnhihljgkohcaa
open Go.RowKit
set_option linter.unusedVariables false
set_option linter.unusedSimpArgs false
set_option maxRecDepth 10000
set_option maxHeartbeats 2000000 in
theorem c_HierAll {w : World} {vl vv : Value} {cs : List CR} {val : List QR} (hL : Lay rdC [] w vl cs) (hv : Lay rdQ [] w vv val) (hb : szCs cs ≤ 4194304) (hbv : szQs val ≤ 4194304) :
    Ret Try.prog 7 #[vl, vv] w (fun r w' => r = .bool true ∧ Mod [] w w') := by
 have hbd : Bd [] w := fun m hm => by cases hm
 obtain ⟨TL, tL, rfl⟩ := hL.form
 obtain ⟨TV, tV, rfl⟩ := hv.form
 have hcl := cs_len cs
 refine Ret.of (vs := [.slice TL cs.length tL, .slice TV val.length tV]) (n := 82) Try.func7 rfl rfl rfl rfl ?_
 have hm0 : Mod [] w w := Mod.refl _ _
 refine W.seq <| W.region <| L.v (R1.assign rfl) rfl <| L.nil <| X.seq <| W.seq <| W.region <| L.v (R1.move rfl) rfl <| L.v (R1.lenLay rfl hv tyS23) rfl <| L.v (R1.assign rfl) rfl <| L.nil ?_
 refine X.seq <| W.seq <| W.seq <| W.region <| L.v (R1.move rfl) rfl <| L.call rfl (c_heavy_pantographlaw12 hL (hb)) rfl ?_
 rintro _ w1 ⟨rfl, hm1⟩
 replace hL := hL.gr hm1
 replace hv := hv.gr hm1
 replace hbd := hbd.gr hm1
 replace hm0 := hm0.trans hm1
 clear hm1
 refine L.v (R1.move rfl) rfl ?_
 cases hgd13 : (decide (150 < szCs cs))
 ·
  have hcc_ := hgd13
  refine L.on rfl rfl rfl (R1.move rfl) rfl <| L.callOn rfl rfl rfl rfl (c_many_pantographlaw12 hv (hbv)) rfl ?_
  rintro _ w2 ⟨b15, rfl, hb15, hm2⟩
  replace hL := hL.gr hm2
  replace hv := hv.gr hm2
  replace hbd := hbd.gr hm2
  replace hm0 := hm0.trans hm2
  clear hm2
  refine L.v (R1.pickF rfl rfl) rfl <| L.v (R1.move rfl) rfl ?_
  cases hgd17 : b15
  ·
   have hcc_ := hgd17
   refine L.on rfl rfl rfl (R1.move rfl) rfl <| L.on rfl rfl rfl ((R1.gt rfl rfl).asB (c := decide (8 < (val.length : Int))) (rfl)) rfl <| L.v (R1.pickF rfl rfl) rfl <| L.nil <| X.seq <| W.cond rfl ?_ ?_
   ·
    intro hc20
    simp only [bq] at hc20
    refine W.seq <| W.region <| L.v (R1.assign rfl) rfl <| L.nil <| X.seq <| W.ret <| X.thenRet <| X.result1 rfl (.tmp rfl .nil) ?_
    exact ⟨rfl, hm0⟩
   ·
    intro hc20
    simp only [bq] at hc20
    have hsm := sm150 (by simpa using hgd13)
    obtain ⟨hqv, _⟩ := hb15 hgd17
    have hle : cs.length ≤ 1000 := by have h9 : ¬ 150 < szCs cs := (by simpa using hgd13); omega
    refine W.skip <| X.seq <| W.seq <| W.region <| L.v (R1.assign rfl) rfl <| L.nil <| X.seq <| W.seq <| W.seq <| W.region <| L.v (R1.assign rfl) rfl ?_
    refine L.nil <| X.seq <| W.block <| W.loop (ι := Nat × Value × List (List Value)) (fun (i, u, css) => [(0, .slice TL cs.length tL), (1, .slice TV val.length tV), (5, .int .i64 (val.length : Int)), (6, u), (7, .int .i64 (i : Int))]) (fun (i, u, css) w_ => Lay rdC (ownL u ++ []) w_ (.slice TL cs.length tL) cs ∧ Lay rdQ (ownL u ++ []) w_ (.slice TV val.length tV) val ∧ w_.ownsRow w.heap.size 33 5 u ((cs.take i).filter (fun o => isC o (val.length : Int) && hB val o)).length css.flatten ∧ LayL rdC (ownL u ++ []) w_ css ((cs.take i).filter (fun o => isC o (val.length : Int) && hB val o)) ∧ Bd (ownL u ++ []) w_ ∧ Mod [] w w_ ∧ i ≤ cs.length) (fun (i, u, css) => cs.length - i) (0, .slice none 0 0, []) ?_ ?_ ?_
    · exact ⟨rfl, rfl, rfl, rfl, rfl, trivial⟩
    ·
     exact ⟨hL.sub (by intro b hb; first | exact hb | (simp only [mq] at hb ⊢; grind)), hv.sub (by intro b hb; first | exact hb | (simp only [mq] at hb ⊢; grind)), own_nil _ _ _ _, LayL.nil, hbd.sub (by intro b hb; first | exact hb | (simp only [mq] at hb ⊢; grind)), hm0, Nat.zero_le _⟩
    ·
     rintro ⟨i, u, css⟩ w3 ⟨hL, hv, ho, hl, hbd, hm0, hi⟩
     refine W.seq <| W.seq <| W.region <| L.v (R1.move rfl) rfl <| L.v (R1.move rfl) rfl <| L.v (R1.lenLay rfl hL tyS22) rfl <| L.v (R1.lt rfl rfl) rfl <| L.nil <| X.seq <| W.cond rfl ?_ ?_
     ·
      intro hc24
      try simp only [bq, ne_eq] at hc24
      refine W.skip <| X.seq <| W.seq <| W.block <| W.seq <| W.region <| L.v (R1.move rfl) rfl <| L.v (R1.move rfl) rfl <| L.v (R1.atLay (j := i) rfl rfl hL tyS22 rfl (by omega)) rfl ?_
      obtain ⟨z30, cs30, hz30, hE30, vt30, ds30, rfl, ht30, vn30, vd30, rfl, hn30, hd30⟩ := Lay.elemQ hL (j := i) (by omega)
      obtain ⟨T30, t30, rfl⟩ := ht30.form
      obtain ⟨A30, c30, rfl⟩ := hn30.form
      obtain ⟨B30, e30, rfl⟩ := hd30.form
      refine L.v (R1.loadE rfl hE30 tyG33) rfl <| L.v (R1.move rfl) rfl <| L.call rfl (c_ref8_Is ht30 hn30 hd30 (n := (val.length : Int)) (by omega) hbd ((hsm _ (List.mem_of_getElem? hz30)).mono (by decide))) rfl ?_
      rintro _ w4 ⟨rfl, hm4⟩
      replace hL := hL.gr hm4
      replace hv := hv.gr hm4
      replace ho := own_gr ho hm4 (by simp)
      replace hl := hl.gr hm4
      replace hbd := hbd.gr hm4
      replace hm0 := hm0.trans hm4
      replace ht30 := ht30.gr hm4
      replace hn30 := hn30.gr hm4
      replace hd30 := hd30.gr hm4
      clear hm4
      refine L.v (R1.move rfl) rfl ?_
      cases hgd33 : (isC z30 (val.length : Int))
      ·
       have hcc_ := hgd33
       refine L.off rfl rfl rfl rfl rfl <| L.off rfl rfl rfl rfl rfl <| L.off rfl rfl rfl rfl rfl <| L.off rfl rfl rfl rfl rfl <| L.off rfl rfl rfl rfl rfl <| L.off rfl rfl rfl rfl rfl <| L.v (R1.pickF rfl rfl) rfl <| L.nil <| X.seq <| W.condF rfl <| W.skip ?_
       refine X.blockEnd <| X.seq <| W.region <| L.v (R1.move rfl) rfl <| L.v (R1.addI (b := 1) rfl rfl (by omega)) rfl <| L.v (R1.assign rfl) rfl <| L.nil <| X.next (i + 1, u, css) ?_ ?_ ?_
       · exact ⟨rfl, rfl, rfl, rfl, rfl, trivial⟩
       ·
        have hcn : (isC z30 (val.length : Int) && hB val z30) = false := by unfold hB; rw [hgd33]; rfl
        exact ⟨hL.sub (by intro b hb; first | exact hb | (simp only [mq] at hb ⊢; grind)), hv.sub (by intro b hb; first | exact hb | (simp only [mq] at hb ⊢; grind)), own_congr ho (by rw [hf_no (p := (fun o => isC o (val.length : Int) && hB val o)) hz30 hcn]) rfl, by rw [hf_no (p := (fun o => isC o (val.length : Int) && hB val o)) hz30 hcn]; exact hl.sub (by intro b hb; first | exact hb | (simp only [mq] at hb ⊢; grind)), hbd.sub (by intro b hb; first | exact hb | (simp only [mq] at hb ⊢; grind)), hm0, by omega⟩
       · first | omega | (dsimp only; omega)
      ·
       have hcc_ := hgd33
       refine L.on rfl rfl rfl (R1.move rfl) rfl <| L.on rfl rfl rfl (R1.move rfl) rfl <| L.on rfl rfl rfl (R1.atLay (j := i) rfl rfl hL tyS22 rfl (by omega)) rfl ?_
       obtain ⟨z37, cs37, hz37, hE37, vt37, ds37, rfl, ht37, vn37, vd37, rfl, hn37, hd37⟩ := Lay.elemQ hL (j := i) (by omega)
       obtain ⟨T37, t37, rfl⟩ := ht37.form
       obtain ⟨A37, c37, rfl⟩ := hn37.form
       obtain ⟨B37, e37, rfl⟩ := hd37.form
       obtain rfl : z30 = z37 := by have h9 := hz37; rw [hz30] at h9; injection h9
       refine L.on rfl rfl rfl (R1.loadE rfl hE37 tyG33) rfl <| L.on rfl rfl rfl (R1.move rfl) rfl <| L.callOn rfl rfl rfl rfl (c_Holds10 ht37 hn37 hd37 hv hbd ((hsm _ (List.mem_of_getElem? hz30)).mono (by decide)) (sm_mono3 hqv)) rfl ?_
       rintro _ w5 ⟨rfl, hm5⟩
       replace hL := hL.gr hm5
       replace hv := hv.gr hm5
       replace ho := own_gr ho hm5 (by simp)
       replace hl := hl.gr hm5
       replace hbd := hbd.gr hm5
       replace hm0 := hm0.trans hm5
       replace ht30 := ht30.gr hm5
       replace hn30 := hn30.gr hm5
       replace hd30 := hd30.gr hm5
       replace ht37 := ht37.gr hm5
       replace hn37 := hn37.gr hm5
       replace hd37 := hd37.gr hm5
       clear hm5
       refine L.v (R1.pickT rfl rfl) rfl <| L.nil <| X.seq <| W.cond rfl ?_ ?_
       ·
        intro hc40
        have hcc_ := hc40
        refine W.region <| L.v (R1.move rfl) rfl <| L.v (R1.move rfl) rfl <| L.v (R1.move rfl) rfl <| L.v (R1.atLay (j := i) rfl rfl hL tyS22 rfl (by omega)) rfl ?_
        obtain ⟨z45, cs45, hz45, hE45, vt45, ds45, rfl, ht45, vn45, vd45, rfl, hn45, hd45⟩ := Lay.elemQ hL (j := i) (by omega)
        obtain ⟨T45, t45, rfl⟩ := ht45.form
        obtain ⟨A45, c45, rfl⟩ := hn45.form
        obtain ⟨B45, e45, rfl⟩ := hd45.form
        obtain rfl : z30 = z45 := by have h9 := hz45; rw [hz30] at h9; injection h9
        refine L.v (R1.loadE rfl hE45 tyG33) rfl <| L.buildSlice (cells := [.int .i64 z30.st, .slice T45 z30.ts.length t45, .bool z30.k.s, .slice A45 z30.k.n.length c45, .slice B45 z30.k.d.length e45]) rfl tyS22 tyZ33 (fillK1 _ _ _ _ _ _ _ _ _ _ _) (by decide) (by decide) rfl ?_
        intro g46 w6 hN46
        replace hL := hL.gr hN46.mod
        replace hv := hv.gr hN46.mod
        replace ho := own_gr ho hN46.mod (by simp)
        replace hl := hl.gr hN46.mod
        replace hbd := hbd.gr hN46.mod
        replace hm0 := hm0.trans hN46.mod
        replace ht30 := ht30.gr hN46.mod
        replace hn30 := hn30.gr hN46.mod
        replace hd30 := hd30.gr hN46.mod
        replace ht37 := ht37.gr hN46.mod
        replace hn37 := hn37.gr hN46.mod
        replace hd37 := hd37.gr hN46.mod
        replace ht45 := ht45.gr hN46.mod
        replace hn45 := hn45.gr hN46.mod
        replace hd45 := hd45.gr hN46.mod
        have hrow : Sl [] w6 5 (.slice (some ⟨g46, 0, none⟩) 1 1) 1 [.int .i64 z30.st, .slice T45 z30.ts.length t45, .bool z30.k.s, .slice A45 z30.k.n.length c45, .slice B45 z30.k.d.length e45] := Sl.of_blk hN46.blk 0 (Nat.le_refl _) (by decide) rfl (by simp) (fun j hj => by simp)
        clear hN46
        have hbl : ((cs.take i).filter (fun o => isC o (val.length : Int) && hB val o)).length ≤ cs.length := Nat.le_trans (List.length_filter_le _ _) (by rw [List.length_take]; omega)
        refine L.append rfl rfl ho hrow (by intro c hc; simp only [List.mem_cons, List.not_mem_nil, or_false] at hc; rcases hc with rfl | rfl | rfl | rfl | rfl <;> rfl) tyS22 tyZ33 (by omega) (by unfold maxLen; omega) hm0.size rfl ?_
        intro v47 w7 ho47' hG47
        replace hL := hL.grew2 hG47 (by first | exact mem_own | (intro b hb; simp [hb]))
        replace hv := hv.grew2 hG47 (by first | exact mem_own | (intro b hb; simp [hb]))
        replace hl := hl.grew2 hG47 (by first | exact mem_own | (intro b hb; simp [hb]))
        replace hbd := hbd.grew2 hG47 (by first | exact mem_own | (intro b hb; simp [hb]))
        replace hm0 := Mod.oldOwn hm0 hG47.mod ho
        replace ht30 := ht30.grew2 hG47 (by first | exact mem_own | (intro b hb; simp [hb]))
        replace hn30 := hn30.grew2 hG47 (by first | exact mem_own | (intro b hb; simp [hb]))
        replace hd30 := hd30.grew2 hG47 (by first | exact mem_own | (intro b hb; simp [hb]))
        replace ht37 := ht37.grew2 hG47 (by first | exact mem_own | (intro b hb; simp [hb]))
        replace hn37 := hn37.grew2 hG47 (by first | exact mem_own | (intro b hb; simp [hb]))
        replace hd37 := hd37.grew2 hG47 (by first | exact mem_own | (intro b hb; simp [hb]))
        replace ht45 := ht45.grew2 hG47 (by first | exact mem_own | (intro b hb; simp [hb]))
        replace hn45 := hn45.grew2 hG47 (by first | exact mem_own | (intro b hb; simp [hb]))
        replace hd45 := hd45.grew2 hG47 (by first | exact mem_own | (intro b hb; simp [hb]))
        replace ho := ho47'; clear ho47'
        clear hG47
        refine L.v (R1.assign rfl) rfl <| L.nil <| X.blockEnd <| X.seq <| W.region <| L.v (R1.move rfl) rfl <| L.v (R1.addI (b := 1) rfl rfl (by omega)) rfl <| L.v (R1.assign rfl) rfl <| L.nil <| X.next (i + 1, v47, css ++ [[.int .i64 z30.st, .slice T45 z30.ts.length t45, .bool z30.k.s, .slice A45 z30.k.n.length c45, .slice B45 z30.k.d.length e45]]) ?_ ?_ ?_
        · exact ⟨rfl, rfl, rfl, rfl, rfl, trivial⟩
        ·
         have hcn : (isC z30 (val.length : Int) && hB val z30) = true := by unfold hB; rw [hgd33, hc40]; rfl
         exact ⟨hL.sub (by intro b hb; first | exact hb | (simp only [mq] at hb ⊢; grind)), hv.sub (by intro b hb; first | exact hb | (simp only [mq] at hb ⊢; grind)), own_congr ho (by rw [hf_yes (p := (fun o => isC o (val.length : Int) && hB val o)) hz30 hcn]; simp) (by simp), by rw [hf_yes (p := (fun o => isC o (val.length : Int) && hB val o)) hz30 hcn]; exact (hl.sub (by intro b hb; first | exact hb | (simp only [mq] at hb ⊢; grind))).append (LayL.one _ z30 (rdC_mk (ht45.sub (by intro b hb; first | exact hb | (simp only [mq] at hb ⊢; grind))) (hn45.sub (by intro b hb; first | exact hb | (simp only [mq] at hb ⊢; grind))) (hd45.sub (by intro b hb; first | exact hb | (simp only [mq] at hb ⊢; grind))))), hbd.sub (by intro b hb; first | exact hb | (simp only [mq] at hb ⊢; grind)), hm0, by omega⟩
        · first | omega | (dsimp only; omega)
       ·
        intro hc40
        have hcc_ := hc40
        refine W.skip <| X.blockEnd <| X.seq <| W.region <| L.v (R1.move rfl) rfl <| L.v (R1.addI (b := 1) rfl rfl (by omega)) rfl <| L.v (R1.assign rfl) rfl <| L.nil <| X.next (i + 1, u, css) ?_ ?_ ?_
        · exact ⟨rfl, rfl, rfl, rfl, rfl, trivial⟩
        ·
         have hcn : (isC z30 (val.length : Int) && hB val z30) = false := by unfold hB; rw [hgd33, hc40]; rfl
         exact ⟨hL.sub (by intro b hb; first | exact hb | (simp only [mq] at hb ⊢; grind)), hv.sub (by intro b hb; first | exact hb | (simp only [mq] at hb ⊢; grind)), own_congr ho (by rw [hf_no (p := (fun o => isC o (val.length : Int) && hB val o)) hz30 hcn]) rfl, by rw [hf_no (p := (fun o => isC o (val.length : Int) && hB val o)) hz30 hcn]; exact hl.sub (by intro b hb; first | exact hb | (simp only [mq] at hb ⊢; grind)), hbd.sub (by intro b hb; first | exact hb | (simp only [mq] at hb ⊢; grind)), hm0, by omega⟩
        · first | omega | (dsimp only; omega)
     ·
      intro hc24
      try simp only [bq, ne_eq] at hc24
      obtain rfl : i = cs.length := by omega
      rw [List.take_length] at ho hl
      have hM : Lay rdC [] w3 u (cs.filter (fun o => isC o (val.length : Int) && hB val o)) := Lay.of_own ho (hl.sub (fun b hb => by cases hb)) (by simp)
      replace hv := hv.sub (M' := []) (fun b hb => by cases hb)
      replace hbd := hbd.sub (M' := []) (fun b hb => by cases hb)
      have hsmM : ∀ c ∈ (cs.filter (fun o => isC o (val.length : Int) && hB val o)), SmC 150 c := fun c h9 => hsm c (List.mem_filter.1 h9).1
      have hallM : ∀ c ∈ (cs.filter (fun o => isC o (val.length : Int) && hB val o)), hB val c = true := fun c h9 => by have h8 := (List.mem_filter.1 h9).2; simp only [Bool.and_eq_true] at h8; exact h8.2
      have hlM : (cs.filter (fun o => isC o (val.length : Int) && hB val o)).length ≤ 1000000 := Nat.le_trans (List.length_filter_le _ _) (by omega)
      have hlM2 : (cs.filter (fun o => isC o (val.length : Int) && hB val o)).length ≤ 1000 := Nat.le_trans (List.length_filter_le _ _) (by omega)
      refine W.exit <| X.thenExit <| X.nextExit <| X.here <| X.seq <| W.seq <| W.region <| L.v (R1.move rfl) rfl <| L.v (R1.move rfl) rfl <| L.call rfl (c_Levels hM hv hbd hsmM (sm310 hqv) hlM (by omega)) rfl ?_
      rintro v50 w8 ⟨hlv, hm8⟩
      replace hv := hv.gr hm8
      replace hbd := hbd.gr hm8
      replace hm0 := hm0.trans hm8
      replace hM := hM.gr hm8
      clear hm8
      rw [levs_all hallM] at hlv
      replace hlv : Lay rdI _ _ _ [(0 : Int), 0, 0, 0] := hlv
      refine L.v (R1.assign rfl) rfl <| L.nil <| X.seq <| W.seq <| W.drawW (T := []) rfl (by decide +kernel) (NoHang.then NoHang.post) (fun w9 hm9 => ?_)
      replace hv := hv.gr hm9
      replace hbd := hbd.gr hm9
      replace hm0 := hm0.trans hm9
      replace hM := hM.gr hm9
      replace hlv := hlv.gr hm9
      have hS1 : Mod [] w9 w9 := Mod.refl _ _
      clear hm9
      refine D.take 0 rfl (by decide +kernel) (fun w_ hS => (R1.move rfl)) hS1 rfl <| D.take 1 rfl (by decide +kernel) (fun w_ hS => (R1.lenLay rfl (Lay.gr hlv hS) tyS42)) hS1 rfl <| D.take 2 rfl (by decide +kernel) (fun w_ hS => ((R1.eq rfl rfl).asB (c := true) (decide_eq_true rfl))) hS1 rfl <| D.take 3 rfl (by decide +kernel) (fun w_ hS => (R1.move rfl)) hS1 rfl <| D.takeOn 4 rfl rfl rfl rfl (by decide +kernel) (fun w_ hS => (R1.move rfl)) hS1 rfl <| D.takeOn 5 rfl rfl rfl rfl (by decide +kernel) (fun w_ hS => (R1.atLay (j := 0) rfl rfl (Lay.gr hlv hS) tyS42 rfl (by decide))) hS1 rfl <| D.takeOn 6 rfl rfl rfl rfl (by decide +kernel) (fun w_ hS => (R1.loadLI rfl (Lay.gr hlv hS) tyP3 (by decide) rfl)) hS1 rfl <| D.takeOn 7 rfl rfl rfl rfl (by decide +kernel) (fun w_ hS => (R1.move rfl)) hS1 rfl <| D.takeOn 8 rfl rfl rfl rfl (by decide +kernel) (fun w_ hS => (R1.atLay (j := 1) rfl rfl (Lay.gr hlv hS) tyS42 rfl (by decide))) hS1 rfl <| D.takeOn 9 rfl rfl rfl rfl (by decide +kernel) (fun w_ hS => (R1.loadLI rfl (Lay.gr hlv hS) tyP3 (by decide) rfl)) hS1 rfl <| D.takeOn 10 rfl rfl rfl rfl (by decide +kernel) (fun w_ hS => ((R1.add rfl rfl).as (j := 0) (by decide))) hS1 rfl ?_
      refine D.takeOn 11 rfl rfl rfl rfl (by decide +kernel) (fun w_ hS => (R1.move rfl)) hS1 rfl <| D.takeOn 12 rfl rfl rfl rfl (by decide +kernel) (fun w_ hS => (R1.atLay (j := 2) rfl rfl (Lay.gr hlv hS) tyS42 rfl (by decide))) hS1 rfl <| D.takeOn 13 rfl rfl rfl rfl (by decide +kernel) (fun w_ hS => (R1.loadLI rfl (Lay.gr hlv hS) tyP3 (by decide) rfl)) hS1 rfl <| D.takeOn 14 rfl rfl rfl rfl (by decide +kernel) (fun w_ hS => ((R1.add rfl rfl).as (j := 0) (by decide))) hS1 rfl <| D.takeOn 15 rfl rfl rfl rfl (by decide +kernel) (fun w_ hS => (R1.move rfl)) hS1 rfl <| D.takeOn 16 rfl rfl rfl rfl (by decide +kernel) (fun w_ hS => (R1.atLay (j := 3) rfl rfl (Lay.gr hlv hS) tyS42 rfl (by decide))) hS1 rfl <| D.takeOn 17 rfl rfl rfl rfl (by decide +kernel) (fun w_ hS => (R1.loadLI rfl (Lay.gr hlv hS) tyP3 (by decide) rfl)) hS1 rfl <| D.takeOn 18 rfl rfl rfl rfl (by decide +kernel) (fun w_ hS => ((R1.add rfl rfl).as (j := 0) (by decide))) hS1 rfl <| D.takeOn 19 rfl rfl rfl rfl (by decide +kernel) (fun w_ hS => ((R1.eq rfl rfl).asB (c := true) (decide_eq_true rfl))) hS1 rfl <| D.take 20 rfl (by decide +kernel) (fun w_ hS => (R1.pickT rfl rfl)) hS1 rfl <| D.take 21 rfl (by decide +kernel) (fun w_ hS => (R1.move rfl)) hS1 rfl ?_
      refine D.takeOn 22 rfl rfl rfl rfl (by decide +kernel) (fun w_ hS => (R1.move rfl)) hS1 rfl <| D.takeOn 23 rfl rfl rfl rfl (by decide +kernel) (fun w_ hS => (R1.move rfl)) hS1 rfl <| D.takeOn 24 rfl rfl rfl rfl (by decide +kernel) (fun w_ hS => (R1.move rfl)) hS1 rfl <| D.one 25 rfl (by decide +kernel) (fun hX => ?_)
      refine L.callOn rfl rfl rfl rfl (c_Beaten hM hv hv hbd hsmM hqv (sm310 hqv) (by omega) (by omega) (oks_al hv hqv hsmM (by omega))) rfl ?_
      rintro _ w10 ⟨z76, rfl, hBt76, hm10⟩
      replace hm0 := hm0.trans hm10
      replace hS1 := hS1.trans hm10
      clear hm10
      refine L.nil (hX _ _ ⟨.inr hS1, ?_⟩)
      refine D.takeOn 26 rfl rfl rfl rfl (by decide +kernel) (fun w_ hS => ((R1.eq rfl rfl).asB (c := true) (decide_eq_true (beat_all hBt76 hallM (fun _ _ => rfl))))) hS1 rfl <| D.take 27 rfl (by decide +kernel) (fun w_ hS => (R1.pickT rfl rfl)) hS1 rfl <| D.take 28 rfl (by decide +kernel) (fun w_ hS => (R1.move rfl)) hS1 rfl <| D.one 29 rfl (by decide +kernel) (fun hX => ?_)
      refine L.callOn rfl rfl rfl rfl (c_known12) rfl ?_
      rintro _ w11 ⟨rfl, hm11⟩
      replace hm0 := hm0.trans hm11
      replace hS1 := hS1.trans hm11
      clear hm11
      refine L.nil (hX _ _ ⟨.inr hS1, ?_⟩)
      refine D.take 30 rfl (by decide +kernel) (fun w_ hS => (R1.pickT rfl rfl)) hS1 rfl <| D.take 31 rfl (by decide +kernel) (fun w_ hS => (R1.assign rfl)) hS1 rfl <| D.done (by decide +kernel) ?_ _
      refine X.seq <| W.ret <| X.result1 rfl (.tmp rfl .nil) ?_
      exact ⟨rfl, hm0⟩
  ·
   have hcc_ := hgd17
   refine L.off rfl rfl rfl rfl rfl <| L.off rfl rfl rfl rfl rfl <| L.v (R1.pickT rfl rfl) rfl <| L.nil <| X.seq <| W.condT rfl <| W.seq <| W.region <| L.v (R1.assign rfl) rfl <| L.nil <| X.seq ?_
   refine W.ret <| X.thenRet <| X.result1 rfl (.tmp rfl .nil) ?_
   exact ⟨rfl, hm0⟩
 ·
  have hcc_ := hgd13
  refine L.off rfl rfl rfl rfl rfl <| L.off rfl rfl rfl rfl rfl <| L.v (R1.pickT rfl rfl) rfl <| L.v (R1.move rfl) rfl <| L.off rfl rfl rfl rfl rfl <| L.off rfl rfl rfl rfl rfl <| L.v (R1.pickT rfl rfl) rfl <| L.nil <| X.seq <| W.condT rfl <| W.seq ?_
  refine W.region <| L.v (R1.assign rfl) rfl <| L.nil <| X.seq <| W.ret <| X.thenRet <| X.result1 rfl (.tmp rfl .nil) ?_
  exact ⟨rfl, hm0⟩

end Go.Proofs.Ytpnhihljgkohcaa
