/- Walks: what the functions compute. -/
import Derived.Test.YtpnhihljgkohcaaHkA
namespace Go.Proofs.Ytpnhihljgkohcaa
open Go.RowKit
set_option linter.unusedVariables false
set_option linter.unusedSimpArgs false
set_option maxRecDepth 10000
set_option maxHeartbeats 2000000 in
theorem c_HierBest {w : World} {vl vb vv vo : Value} {cs : List CR} {bs val other : List QR} (hL : Lay rdC [] w vl cs) (hvb : Lay rdQ [] w vb bs) (hv : Lay rdQ [] w vv val) (hb : szCs cs ≤ 4194304) (hbb : szQs bs ≤ 4194304) (hbv : szQs val ≤ 4194304) (ho : Lay rdQ [] w vo other) (hbo_ : szQs other ≤ 4194304) :
    Ret Try.prog 3 #[vl, vb, vv, vo] w (fun r w' => r = .bool true ∧ Mod [] w w') := by
 have hbd : Bd [] w := fun m hm => by cases hm
 obtain ⟨TL, tL, rfl⟩ := hL.form
 obtain ⟨TB, tB, rfl⟩ := hvb.form
 obtain ⟨TV, tV, rfl⟩ := hv.form
 have hcl := cs_len cs
 obtain ⟨TO, tO, rfl⟩ := ho.form
 refine Ret.of (vs := [.slice TL cs.length tL, .slice TB bs.length tB, .slice TV val.length tV, .slice TO other.length tO]) (n := 113) Try.func3 rfl rfl rfl rfl ?_
 have hm0 : Mod [] w w := Mod.refl _ _
 refine W.seq <| W.region <| L.v (R1.assign rfl) rfl <| L.nil <| X.seq <| W.seq <| W.region <| L.v (R1.move rfl) rfl <| L.v (R1.lenLay rfl hv tyS23) rfl <| L.v (R1.assign rfl) rfl <| L.nil ?_
 refine X.seq <| W.seq <| W.seq <| W.region <| L.v (R1.move rfl) rfl <| L.call rfl (c_heavy_pantographlaw12 hL (hb)) rfl ?_
 rintro _ w1 ⟨rfl, hm1⟩
 replace hL := hL.gr hm1
 replace hvb := hvb.gr hm1
 replace hv := hv.gr hm1
 replace hbd := hbd.gr hm1
 replace ho := ho.gr hm1
 replace hm0 := hm0.trans hm1
 clear hm1
 refine L.v (R1.move rfl) rfl ?_
 cases hgd19 : (decide (150 < szCs cs))
 ·
  have hcc_ := hgd19
  refine L.on rfl rfl rfl (R1.move rfl) rfl <| L.callOn rfl rfl rfl rfl (c_many_pantographlaw12 hvb (hbb)) rfl ?_
  rintro _ w2 ⟨b21, rfl, hb21, hm2⟩
  replace hL := hL.gr hm2
  replace hvb := hvb.gr hm2
  replace hv := hv.gr hm2
  replace hbd := hbd.gr hm2
  replace ho := ho.gr hm2
  replace hm0 := hm0.trans hm2
  clear hm2
  refine L.v (R1.pickF rfl rfl) rfl <| L.v (R1.move rfl) rfl ?_
  cases hgd23 : b21
  ·
   have hcc_ := hgd23
   refine L.on rfl rfl rfl (R1.move rfl) rfl <| L.callOn rfl rfl rfl rfl (c_many_pantographlaw12 hv (hbv)) rfl ?_
   rintro _ w3 ⟨b25, rfl, hb25, hm3⟩
   replace hL := hL.gr hm3
   replace hvb := hvb.gr hm3
   replace hv := hv.gr hm3
   replace hbd := hbd.gr hm3
   replace ho := ho.gr hm3
   replace hm0 := hm0.trans hm3
   clear hm3
   refine L.v (R1.pickF rfl rfl) rfl <| L.v (R1.move rfl) rfl ?_
   cases hgd27 : b25
   ·
    have hcc_ := hgd27
    refine L.on rfl rfl rfl (R1.move rfl) rfl <| L.callOn rfl rfl rfl rfl (c_many_pantographlaw12 ho (hbo_)) rfl ?_
    rintro _ w4 ⟨b29, rfl, hb29, hm4⟩
    replace hL := hL.gr hm4
    replace hvb := hvb.gr hm4
    replace hv := hv.gr hm4
    replace hbd := hbd.gr hm4
    replace ho := ho.gr hm4
    replace hm0 := hm0.trans hm4
    clear hm4
    refine L.v (R1.pickF rfl rfl) rfl <| L.v (R1.move rfl) rfl ?_
    cases hgd31 : b29
    ·
     have hcc_ := hgd31
     refine L.on rfl rfl rfl (R1.move rfl) rfl <| L.on rfl rfl rfl ((R1.gt rfl rfl).asB (c := decide (6 < (val.length : Int))) (rfl)) rfl <| L.v (R1.pickF rfl rfl) rfl <| L.v (R1.move rfl) rfl ?_
     cases hgd35 : decide (6 < (val.length : Int))
     ·
      simp only [bq] at hgd35
      refine L.on rfl rfl rfl (R1.move rfl) rfl <| L.on rfl rfl rfl (R1.lenLay rfl hL tyS22) rfl <| L.on rfl rfl rfl ((R1.gt rfl rfl).asB (c := decide (8 < (cs.length : Int))) (rfl)) rfl <| L.v (R1.pickF rfl rfl) rfl <| L.v (R1.move rfl) rfl ?_
      cases hgd40 : decide (8 < (cs.length : Int))
      ·
       simp only [bq] at hgd40
       refine L.on rfl rfl rfl (R1.move rfl) rfl <| L.on rfl rfl rfl (R1.lenLay rfl ho tyS23) rfl <| L.on rfl rfl rfl (R1.move rfl) rfl <| L.on rfl rfl rfl ((R1.ne rfl rfl).asB (c := decide ((other.length : Int) ≠ (val.length : Int))) (rfl)) rfl <| L.v (R1.pickF rfl rfl) rfl <| L.nil <| X.seq <| W.cond rfl ?_ ?_
       ·
        intro hc45
        simp only [bq] at hc45
        refine W.seq <| W.region <| L.v (R1.assign rfl) rfl <| L.nil <| X.seq <| W.ret <| X.thenRet <| X.result1 rfl (.tmp rfl .nil) ?_
        exact ⟨rfl, hm0⟩
       ·
        intro hc45
        simp only [bq] at hc45
        have hsm := sm150 (by simpa using hgd19)
        obtain ⟨hqb, _⟩ := hb21 hgd23
        obtain ⟨hqv, _⟩ := hb25 hgd27
        have hle : cs.length ≤ 1000 := by have h9 : ¬ 150 < szCs cs := (by simpa using hgd19); omega
        obtain ⟨hqo, _⟩ := hb29 hgd31
        refine W.skip <| X.seq <| W.seq <| W.seq <| W.region <| L.v (R1.move rfl) rfl <| L.v (R1.move rfl) rfl <| L.v (R1.move rfl) rfl <| L.call rfl (c_Beaten hL hvb hv hbd hsm hqb (sm310 hqv) hle (by omega) (oks_al hvb hqb hsm (by omega))) rfl ?_
        rintro _ w5 ⟨z49, rfl, hBt49, hm5⟩
        replace hL := hL.gr hm5
        replace hvb := hvb.gr hm5
        replace hv := hv.gr hm5
        replace hbd := hbd.gr hm5
        replace ho := ho.gr hm5
        replace hm0 := hm0.trans hm5
        clear hm5
        refine L.v ((R1.ge rfl rfl).asB (c := decide (0 ≤ z49)) (rfl)) rfl <| L.nil <| X.seq <| W.cond rfl ?_ ?_
        ·
         intro hc50
         simp only [bq] at hc50
         refine W.seq <| W.region <| L.v (R1.move rfl) rfl <| L.v (R1.move rfl) rfl <| L.v (R1.move rfl) rfl <| L.call rfl (c_Beaten12 hL hvb hv hbd hsm hqb (sm310 hqv) hle (by omega) (oks_al hvb hqb hsm (by omega))) rfl ?_
         rintro _ w6 ⟨z54, rfl, hBt54, hm6⟩
         replace hm0 := hm0.trans hm6
         clear hm6
         refine L.v ((R1.ge rfl rfl).asB (c := true) (decide_eq_true (by rw [hBt54.uniq hBt49]; omega))) rfl <| L.v (R1.move rfl) rfl <| L.callOn rfl rfl rfl rfl (c_known12) rfl ?_
         rintro _ w7 ⟨rfl, hm7⟩
         replace hm0 := hm0.trans hm7
         clear hm7
         refine L.v (R1.pickT rfl rfl) rfl <| L.v (R1.assign rfl) rfl <| L.nil <| X.seq <| W.ret <| X.thenRet <| X.result1 rfl (.tmp rfl .nil) ?_
         exact ⟨rfl, hm0⟩
        ·
         intro hc50
         simp only [bq] at hc50
         refine W.skip <| X.seq <| W.seq <| W.seq <| W.region <| L.v (R1.assign rfl) rfl <| L.nil <| X.seq <| W.block <| W.loop (ι := Nat) (fun s => [(0, .slice TL cs.length tL), (2, .slice TV val.length tV), (3, .slice TO other.length tO), (9, .int .i64 (val.length : Int)), (10, .int .i64 (s : Int))]) (fun s w_ => Lay rdC [] w_ (.slice TL cs.length tL) cs ∧ Lay rdQ [] w_ (.slice TV val.length tV) val ∧ Lay rdQ [] w_ (.slice TO other.length tO) other ∧ Bd [] w_ ∧ Mod [] w w_ ∧ s ≤ 4) (fun s => 4 - s) 0 ?_ ?_ ?_
         · exact ⟨rfl, rfl, rfl, rfl, rfl, trivial⟩
         ·
          exact ⟨hL.sub (by intro b hb; first | exact hb | (simp only [mq] at hb ⊢; grind)), hv.sub (by intro b hb; first | exact hb | (simp only [mq] at hb ⊢; grind)), ho.sub (by intro b hb; first | exact hb | (simp only [mq] at hb ⊢; grind)), hbd.sub (by intro b hb; first | exact hb | (simp only [mq] at hb ⊢; grind)), hm0, by decide⟩
         ·
          rintro s w8 ⟨hL, hv, ho, hbd, hm0, hs⟩
          refine W.seq <| W.seq <| W.region <| L.v (R1.move rfl) rfl <| L.v (R1.le rfl rfl) rfl <| L.nil <| X.seq <| W.cond rfl ?_ ?_
          ·
           intro hc60
           try simp only [bq, ne_eq] at hc60
           refine W.skip <| X.seq <| W.seq <| W.block <| W.seq <| W.region <| L.v (R1.assign rfl) rfl <| L.nil <| X.seq <| W.seq <| W.seq ?_
           refine W.region <| L.v (R1.assign rfl) rfl <| L.nil <| X.seq <| W.block <| W.loop (ι := Nat × Bool) (fun (i, mo) => [(0, .slice TL cs.length tL), (2, .slice TV val.length tV), (3, .slice TO other.length tO), (9, .int .i64 (val.length : Int)), (10, .int .i64 (s : Int)), (11, .bool mo), (12, .int .i64 (i : Int))]) (fun (i, mo) w_ => Lay rdC [] w_ (.slice TL cs.length tL) cs ∧ Lay rdQ [] w_ (.slice TV val.length tV) val ∧ Lay rdQ [] w_ (.slice TO other.length tO) other ∧ Bd [] w_ ∧ Mod [] w w_ ∧ i ≤ cs.length ∧ InvB val.length val other cs (s : Int) i mo) (fun (i, mo) => cs.length - i) (0, false) ?_ ?_ ?_
           · exact ⟨rfl, rfl, rfl, rfl, rfl, rfl, rfl, trivial⟩
           ·
            exact ⟨hL.sub (by intro b hb; first | exact hb | (simp only [mq] at hb ⊢; grind)), hv.sub (by intro b hb; first | exact hb | (simp only [mq] at hb ⊢; grind)), ho.sub (by intro b hb; first | exact hb | (simp only [mq] at hb ⊢; grind)), hbd.sub (by intro b hb; first | exact hb | (simp only [mq] at hb ⊢; grind)), hm0, Nat.zero_le _, InvB.start _ _ _ _ _⟩
           ·
            rintro ⟨i, mo⟩ w9 ⟨hL, hv, ho, hbd, hm0, hi, hinv⟩
            refine W.seq <| W.seq <| W.region <| L.v (R1.move rfl) rfl <| L.v (R1.move rfl) rfl <| L.v (R1.lenLay rfl hL tyS22) rfl <| L.v (R1.lt rfl rfl) rfl <| L.nil <| X.seq <| W.cond rfl ?_ ?_
            ·
             intro hc66
             try simp only [bq, ne_eq] at hc66
             refine W.skip <| X.seq <| W.seq <| W.block <| W.seq <| W.seq <| W.region <| L.v (R1.move rfl) rfl <| L.v (R1.move rfl) rfl <| L.v (R1.atLay (j := i) rfl rfl hL tyS22 rfl (by omega)) rfl <| L.v (R1.fieldAddr rfl tyF33_0) rfl ?_
             obtain ⟨z73, cs73, hz73, hE73, vt73, ds73, rfl, ht73, vn73, vd73, rfl, hn73, hd73⟩ := Lay.elemQ hL (j := i) (by omega)
             obtain ⟨T73, t73, rfl⟩ := ht73.form
             obtain ⟨A73, c73, rfl⟩ := hn73.form
             obtain ⟨B73, e73, rfl⟩ := hd73.form
             refine L.v (R1.loadEF rfl hE73 rfl tyP3) rfl <| L.v (R1.move rfl) rfl <| L.v ((R1.gt rfl rfl).asB (c := decide ((s : Int) < z73.st)) (rfl)) rfl <| L.v (R1.move rfl) rfl ?_
             cases hgd76 : decide ((s : Int) < z73.st)
             ·
              simp only [bq] at hgd76
              refine L.on rfl rfl rfl (R1.move rfl) rfl <| L.on rfl rfl rfl (R1.move rfl) rfl <| L.on rfl rfl rfl (R1.atLay (j := i) rfl rfl hL tyS22 rfl (by omega)) rfl ?_
              obtain ⟨z80, cs80, hz80, hE80, vt80, ds80, rfl, ht80, vn80, vd80, rfl, hn80, hd80⟩ := Lay.elemQ hL (j := i) (by omega)
              obtain ⟨T80, t80, rfl⟩ := ht80.form
              obtain ⟨A80, c80, rfl⟩ := hn80.form
              obtain ⟨B80, e80, rfl⟩ := hd80.form
              obtain rfl : z73 = z80 := by have h9 := hz80; rw [hz73] at h9; injection h9
              refine L.on rfl rfl rfl (R1.loadE rfl hE80 tyG33) rfl <| L.on rfl rfl rfl (R1.move rfl) rfl <| L.callOn rfl rfl rfl rfl (c_ref8_Is ht80 hn80 hd80 (n := (val.length : Int)) (by omega) hbd ((hsm _ (List.mem_of_getElem? hz73)).mono (by decide))) rfl ?_
              rintro _ w10 ⟨rfl, hm10⟩
              replace hL := hL.gr hm10
              replace hv := hv.gr hm10
              replace ho := ho.gr hm10
              replace hbd := hbd.gr hm10
              replace hm0 := hm0.trans hm10
              clear hm10
              refine L.on rfl rfl rfl (R1.not rfl) rfl <| L.v (R1.pickF rfl rfl) rfl <| L.nil <| X.seq <| W.cond rfl ?_ ?_
              ·
               intro hc84
               have hic0_ := hc84
               have hic : isC z73 (val.length : Int) = false := by simpa using hic0_
               refine W.exit <| X.thenExit <| X.here <| X.seq <| W.region <| L.v (R1.move rfl) rfl <| L.v (R1.addI (b := 1) rfl rfl (by omega)) rfl <| L.v (R1.assign rfl) rfl <| L.nil <| X.next (i + 1, mo) ?_ ?_ ?_
               · exact ⟨rfl, rfl, rfl, rfl, rfl, rfl, rfl, trivial⟩
               ·
                exact ⟨hL.sub (by intro b hb; first | exact hb | (simp only [mq] at hb ⊢; grind)), hv.sub (by intro b hb; first | exact hb | (simp only [mq] at hb ⊢; grind)), ho.sub (by intro b hb; first | exact hb | (simp only [mq] at hb ⊢; grind)), hbd.sub (by intro b hb; first | exact hb | (simp only [mq] at hb ⊢; grind)), hm0, by omega, hinv.step hz73 (fun _ h9 _ => by rw [hic] at h9; cases h9) (fun h9 => .inl h9)⟩
               · first | omega | (dsimp only; omega)
              ·
               intro hc84
               have hic0_ := hc84
               have hic : isC z73 (val.length : Int) = true := by simpa using hic0_
               refine W.skip <| X.seq <| W.seq <| W.drawW (T := []) rfl (by decide +kernel) (NoHang.then (NoHang.block (NoHang.then (NoHang.next (NoHang.block (NoHang.then (NoHang.block (NoHang.then (NoHang.next (NoHang.block (NoHang.then NoHang.post))))))))))) (fun w11 hm11 => ?_)
               replace hL := hL.gr hm11
               replace hv := hv.gr hm11
               replace ho := ho.gr hm11
               replace hbd := hbd.gr hm11
               replace hm0 := hm0.trans hm11
               have hS1 : Mod [] w11 w11 := Mod.refl _ _
               clear hm11
               refine D.take 0 rfl (by decide +kernel) (fun w_ hS => (R1.move rfl)) hS1 rfl <| D.take 1 rfl (by decide +kernel) (fun w_ hS => (R1.move rfl)) hS1 rfl <| D.take 2 rfl (by decide +kernel) (fun w_ hS => (R1.atLay (j := i) rfl rfl (Lay.gr hL hS) tyS22 rfl (by omega))) hS1 rfl ?_
               obtain ⟨z88, cs88, hz88, hE88, vt88, ds88, rfl, ht88, vn88, vd88, rfl, hn88, hd88⟩ := Lay.elemQ hL (j := i) (by omega)
               obtain ⟨T88, t88, rfl⟩ := ht88.form
               obtain ⟨A88, c88, rfl⟩ := hn88.form
               obtain ⟨B88, e88, rfl⟩ := hd88.form
               obtain rfl : z73 = z88 := by have h9 := hz88; rw [hz73] at h9; injection h9
               refine D.take 3 rfl (by decide +kernel) (fun w_ hS => (R1.loadE rfl (SlE.gr hE88 hS) tyG33)) hS1 rfl <| D.take 4 rfl (by decide +kernel) (fun w_ hS => (R1.move rfl)) hS1 rfl <| D.take 6 rfl (by decide +kernel) (fun w_ hS => (R1.move rfl)) hS1 rfl <| D.take 7 rfl (by decide +kernel) (fun w_ hS => (R1.move rfl)) hS1 rfl <| D.take 8 rfl (by decide +kernel) (fun w_ hS => (R1.atLay (j := i) rfl rfl (Lay.gr hL hS) tyS22 rfl (by omega))) hS1 rfl ?_
               obtain ⟨z94, cs94, hz94, hE94, vt94, ds94, rfl, ht94, vn94, vd94, rfl, hn94, hd94⟩ := Lay.elemQ hL (j := i) (by omega)
               obtain ⟨T94, t94, rfl⟩ := ht94.form
               obtain ⟨A94, c94, rfl⟩ := hn94.form
               obtain ⟨B94, e94, rfl⟩ := hd94.form
               obtain rfl : z73 = z94 := by have h9 := hz94; rw [hz73] at h9; injection h9
               refine D.take 9 rfl (by decide +kernel) (fun w_ hS => (R1.loadE rfl (SlE.gr hE94 hS) tyG33)) hS1 rfl <| D.take 10 rfl (by decide +kernel) (fun w_ hS => (R1.move rfl)) hS1 rfl <| D.one 5 rfl (by decide +kernel) (fun hX => ?_)
               refine L.call rfl (c_Holds10 ht88 hn88 hd88 hv hbd ((hsm _ (List.mem_of_getElem? hz73)).mono (by decide)) (sm_mono3 hqv)) rfl ?_
               rintro _ w12 ⟨rfl, hm12⟩
               replace hL := hL.gr hm12
               replace hv := hv.gr hm12
               replace ho := ho.gr hm12
               replace hbd := hbd.gr hm12
               replace hm0 := hm0.trans hm12
               replace ht94 := ht94.gr hm12
               replace hn94 := hn94.gr hm12
               replace hd94 := hd94.gr hm12
               replace hS1 := hS1.trans hm12
               clear hm12
               refine L.nil (hX _ _ ⟨.inr hS1, ?_⟩)
               refine D.one 11 rfl (by decide +kernel) (fun hX => ?_)
               refine L.call rfl (c_Holds10 ht94 hn94 hd94 ho hbd ((hsm _ (List.mem_of_getElem? hz73)).mono (by decide)) (sm_mono3 hqo)) rfl ?_
               rintro _ w13 ⟨rfl, hm13⟩
               replace hL := hL.gr hm13
               replace hv := hv.gr hm13
               replace ho := ho.gr hm13
               replace hbd := hbd.gr hm13
               replace hm0 := hm0.trans hm13
               replace hS1 := hS1.trans hm13
               clear hm13
               refine L.nil (hX _ _ ⟨.inr hS1, ?_⟩)
               refine D.take 12 rfl (by decide +kernel) (fun w_ hS => (R1.assign rfl)) hS1 rfl <| D.take 13 rfl (by decide +kernel) (fun w_ hS => (R1.assign rfl)) hS1 rfl <| D.done (by decide +kernel) ?_ _
               refine X.seq <| W.seq <| W.seq <| W.region <| L.v (R1.move rfl) rfl <| L.v (R1.move rfl) rfl ?_
               cases hgd98 : (decide (atG val z73.ts (QR.val z73.k) = 0))
               ·
                have hcc_ := hgd98
                refine L.off rfl rfl rfl rfl rfl <| L.off rfl rfl rfl rfl rfl <| L.v (R1.pickF rfl rfl) rfl <| L.nil <| X.seq <| W.condF rfl <| W.skip <| X.seq <| W.region <| L.v (R1.move rfl) rfl <| L.v (R1.move rfl) rfl ?_
                cases hgd104 : mo
                ·
                 have hcc_ := hgd104
                 refine L.on rfl rfl rfl (R1.move rfl) rfl <| L.on rfl rfl rfl (R1.move rfl) rfl ?_
                 cases hgd106 : (decide (atG other z73.ts (QR.val z73.k) = 0))
                 ·
                  have hcc_ := hgd106
                  refine L.off rfl rfl rfl rfl rfl <| L.off rfl rfl rfl rfl rfl <| L.on rfl rfl rfl (R1.pickF rfl rfl) rfl <| L.v (R1.pickF rfl rfl) rfl <| L.v (R1.assign rfl) rfl <| L.nil <| X.blockEnd <| X.seq <| W.region <| L.v (R1.move rfl) rfl <| L.v (R1.addI (b := 1) rfl rfl (by omega)) rfl ?_
                  refine L.v (R1.assign rfl) rfl <| L.nil <| X.next (i + 1, false) ?_ ?_ ?_
                  · exact ⟨rfl, rfl, rfl, rfl, rfl, rfl, rfl, trivial⟩
                  ·
                   exact ⟨hL.sub (by intro b hb; first | exact hb | (simp only [mq] at hb ⊢; grind)), hv.sub (by intro b hb; first | exact hb | (simp only [mq] at hb ⊢; grind)), ho.sub (by intro b hb; first | exact hb | (simp only [mq] at hb ⊢; grind)), hbd.sub (by intro b hb; first | exact hb | (simp only [mq] at hb ⊢; grind)), hm0, by omega, hinv.step hz73 (fun _ _ h9 => by have h8 : hB val z73 = false := hgd98; rw [h8] at h9; cases h9) (fun h9 => by cases h9)⟩
                  · first | omega | (dsimp only; omega)
                 ·
                  have hcc_ := hgd106
                  refine L.on rfl rfl rfl (R1.move rfl) rfl <| L.on rfl rfl rfl (R1.not rfl) rfl <| L.on rfl rfl rfl (R1.pickT rfl rfl) rfl <| L.v (R1.pickF rfl rfl) rfl <| L.v (R1.assign rfl) rfl <| L.nil <| X.blockEnd <| X.seq <| W.region <| L.v (R1.move rfl) rfl <| L.v (R1.addI (b := 1) rfl rfl (by omega)) rfl ?_
                  refine L.v (R1.assign rfl) rfl <| L.nil <| X.next (i + 1, true) ?_ ?_ ?_
                  · exact ⟨rfl, rfl, rfl, rfl, rfl, rfl, rfl, trivial⟩
                  ·
                   exact ⟨hL.sub (by intro b hb; first | exact hb | (simp only [mq] at hb ⊢; grind)), hv.sub (by intro b hb; first | exact hb | (simp only [mq] at hb ⊢; grind)), ho.sub (by intro b hb; first | exact hb | (simp only [mq] at hb ⊢; grind)), hbd.sub (by intro b hb; first | exact hb | (simp only [mq] at hb ⊢; grind)), hm0, by omega, hinv.step hz73 (fun _ _ h9 => by have h8 : hB val z73 = false := hgd98; rw [h8] at h9; cases h9) (fun _ => .inr ⟨by omega, hic, hgd106, hgd98⟩)⟩
                  · first | omega | (dsimp only; omega)
                ·
                 have hcc_ := hgd104
                 refine L.off rfl rfl rfl rfl rfl <| L.off rfl rfl rfl rfl rfl <| L.offU rfl rfl rfl rfl <| L.offU rfl rfl rfl rfl <| L.off rfl rfl rfl rfl rfl <| L.v (R1.pickT rfl rfl) rfl <| L.v (R1.assign rfl) rfl <| L.nil <| X.blockEnd <| X.seq <| W.region ?_
                 refine L.v (R1.move rfl) rfl <| L.v (R1.addI (b := 1) rfl rfl (by omega)) rfl <| L.v (R1.assign rfl) rfl <| L.nil <| X.next (i + 1, true) ?_ ?_ ?_
                 · exact ⟨rfl, rfl, rfl, rfl, rfl, rfl, rfl, trivial⟩
                 ·
                  exact ⟨hL.sub (by intro b hb; first | exact hb | (simp only [mq] at hb ⊢; grind)), hv.sub (by intro b hb; first | exact hb | (simp only [mq] at hb ⊢; grind)), ho.sub (by intro b hb; first | exact hb | (simp only [mq] at hb ⊢; grind)), hbd.sub (by intro b hb; first | exact hb | (simp only [mq] at hb ⊢; grind)), hm0, by omega, hinv.step hz73 (fun _ _ h9 => by have h8 : hB val z73 = false := hgd98; rw [h8] at h9; cases h9) (fun _ => .inl hgd104)⟩
                 · first | omega | (dsimp only; omega)
               ·
                have hcc_ := hgd98
                refine L.on rfl rfl rfl (R1.move rfl) rfl <| L.on rfl rfl rfl (R1.not rfl) rfl <| L.v (R1.pickT rfl rfl) rfl <| L.nil <| X.seq <| W.cond rfl ?_ ?_
                ·
                 intro hc101
                 have hcc_ := hc101
                 refine W.seq <| W.region <| L.call rfl (c_known12) rfl ?_
                 rintro _ w14 ⟨rfl, hm14⟩
                 replace hm0 := hm0.trans hm14
                 clear hm14
                 refine L.v (R1.assign rfl) rfl <| L.nil <| X.seq <| W.ret <| X.thenRet <| X.blockRet <| X.thenRet <| X.nextRet <| X.blockRet <| X.thenRet <| X.blockRet ?_
                 refine X.thenRet <| X.nextRet <| X.blockRet <| X.thenRet <| X.result1 rfl (.tmp rfl .nil) ?_
                 exact ⟨rfl, hm0⟩
                ·
                 intro hc101
                 have hcc_ := hc101
                 have hbo : hB other z73 = true := by simpa [hB] using hcc_
                 refine W.skip <| X.seq <| W.region <| L.v (R1.move rfl) rfl <| L.v (R1.move rfl) rfl ?_
                 cases hgd104 : mo
                 ·
                  have hcc_ := hgd104
                  refine L.on rfl rfl rfl (R1.move rfl) rfl <| L.on rfl rfl rfl (R1.move rfl) rfl ?_
                  cases hgd106 : (decide (atG other z73.ts (QR.val z73.k) = 0))
                  ·
                   have hcc_ := hgd106
                   refine L.off rfl rfl rfl rfl rfl <| L.off rfl rfl rfl rfl rfl <| L.on rfl rfl rfl (R1.pickF rfl rfl) rfl <| L.v (R1.pickF rfl rfl) rfl <| L.v (R1.assign rfl) rfl <| L.nil <| X.blockEnd <| X.seq <| W.region <| L.v (R1.move rfl) rfl <| L.v (R1.addI (b := 1) rfl rfl (by omega)) rfl ?_
                   refine L.v (R1.assign rfl) rfl <| L.nil <| X.next (i + 1, false) ?_ ?_ ?_
                   · exact ⟨rfl, rfl, rfl, rfl, rfl, rfl, rfl, trivial⟩
                   ·
                    exact ⟨hL.sub (by intro b hb; first | exact hb | (simp only [mq] at hb ⊢; grind)), hv.sub (by intro b hb; first | exact hb | (simp only [mq] at hb ⊢; grind)), ho.sub (by intro b hb; first | exact hb | (simp only [mq] at hb ⊢; grind)), hbd.sub (by intro b hb; first | exact hb | (simp only [mq] at hb ⊢; grind)), hm0, by omega, hinv.step hz73 (fun _ _ _ => hbo) (fun h9 => by cases h9)⟩
                   · first | omega | (dsimp only; omega)
                  ·
                   have hcc_ := hgd106
                   refine L.on rfl rfl rfl (R1.move rfl) rfl <| L.on rfl rfl rfl (R1.not rfl) rfl <| L.on rfl rfl rfl (R1.pickT rfl rfl) rfl <| L.v (R1.pickF rfl rfl) rfl <| L.v (R1.assign rfl) rfl <| L.nil <| X.blockEnd <| X.seq <| W.region <| L.v (R1.move rfl) rfl <| L.v (R1.addI (b := 1) rfl rfl (by omega)) rfl ?_
                   refine L.v (R1.assign rfl) rfl <| L.nil <| X.next (i + 1, false) ?_ ?_ ?_
                   · exact ⟨rfl, rfl, rfl, rfl, rfl, rfl, rfl, trivial⟩
                   ·
                    exact ⟨hL.sub (by intro b hb; first | exact hb | (simp only [mq] at hb ⊢; grind)), hv.sub (by intro b hb; first | exact hb | (simp only [mq] at hb ⊢; grind)), ho.sub (by intro b hb; first | exact hb | (simp only [mq] at hb ⊢; grind)), hbd.sub (by intro b hb; first | exact hb | (simp only [mq] at hb ⊢; grind)), hm0, by omega, hinv.step hz73 (fun _ _ _ => hbo) (fun h9 => by cases h9)⟩
                   · first | omega | (dsimp only; omega)
                 ·
                  have hcc_ := hgd104
                  refine L.off rfl rfl rfl rfl rfl <| L.off rfl rfl rfl rfl rfl <| L.offU rfl rfl rfl rfl <| L.offU rfl rfl rfl rfl <| L.off rfl rfl rfl rfl rfl <| L.v (R1.pickT rfl rfl) rfl <| L.v (R1.assign rfl) rfl <| L.nil <| X.blockEnd <| X.seq <| W.region ?_
                  refine L.v (R1.move rfl) rfl <| L.v (R1.addI (b := 1) rfl rfl (by omega)) rfl <| L.v (R1.assign rfl) rfl <| L.nil <| X.next (i + 1, true) ?_ ?_ ?_
                  · exact ⟨rfl, rfl, rfl, rfl, rfl, rfl, rfl, trivial⟩
                  ·
                   exact ⟨hL.sub (by intro b hb; first | exact hb | (simp only [mq] at hb ⊢; grind)), hv.sub (by intro b hb; first | exact hb | (simp only [mq] at hb ⊢; grind)), ho.sub (by intro b hb; first | exact hb | (simp only [mq] at hb ⊢; grind)), hbd.sub (by intro b hb; first | exact hb | (simp only [mq] at hb ⊢; grind)), hm0, by omega, hinv.step hz73 (fun _ _ _ => hbo) (fun _ => .inl hgd104)⟩
                  · first | omega | (dsimp only; omega)
             ·
              simp only [bq] at hgd76
              refine L.off rfl rfl rfl rfl rfl <| L.off rfl rfl rfl rfl rfl <| L.off rfl rfl rfl rfl rfl <| L.off rfl rfl rfl rfl rfl <| L.off rfl rfl rfl rfl rfl <| L.off rfl rfl rfl rfl rfl <| L.off rfl rfl rfl rfl rfl <| L.v (R1.pickT rfl rfl) rfl <| L.nil <| X.seq <| W.condT rfl ?_
              refine W.exit <| X.thenExit <| X.here <| X.seq <| W.region <| L.v (R1.move rfl) rfl <| L.v (R1.addI (b := 1) rfl rfl (by omega)) rfl <| L.v (R1.assign rfl) rfl <| L.nil <| X.next (i + 1, mo) ?_ ?_ ?_
              · exact ⟨rfl, rfl, rfl, rfl, rfl, rfl, rfl, trivial⟩
              ·
               exact ⟨hL.sub (by intro b hb; first | exact hb | (simp only [mq] at hb ⊢; grind)), hv.sub (by intro b hb; first | exact hb | (simp only [mq] at hb ⊢; grind)), ho.sub (by intro b hb; first | exact hb | (simp only [mq] at hb ⊢; grind)), hbd.sub (by intro b hb; first | exact hb | (simp only [mq] at hb ⊢; grind)), hm0, by omega, hinv.step hz73 (fun h9 _ _ => absurd h9 (by omega)) (fun h9 => .inl h9)⟩
              · first | omega | (dsimp only; omega)
            ·
             intro hc66
             try simp only [bq, ne_eq] at hc66
             obtain rfl : i = cs.length := by omega
             refine W.exit <| X.thenExit <| X.nextExit <| X.here <| X.seq <| W.seq <| W.region <| L.v (R1.move rfl) rfl <| L.nil <| X.seq <| W.cond rfl ?_ ?_
             ·
              intro hc111
              try simp only [bq, ne_eq] at hc111
              have h9 := hinv.no hBt49 (by omega) (by omega)
              rw [h9] at hc111; cases hc111
             ·
              intro hc111
              try simp only [bq, ne_eq] at hc111
              refine W.skip <| X.blockEnd <| X.seq <| W.region <| L.v (R1.move rfl) rfl <| L.v (R1.addI (b := 1) rfl rfl (by omega)) rfl <| L.v (R1.assign rfl) rfl <| L.nil <| X.next (s + 1) ?_ ?_ ?_
              · exact ⟨rfl, rfl, rfl, rfl, rfl, trivial⟩
              ·
               exact ⟨hL.sub (by intro b hb; first | exact hb | (simp only [mq] at hb ⊢; grind)), hv.sub (by intro b hb; first | exact hb | (simp only [mq] at hb ⊢; grind)), ho.sub (by intro b hb; first | exact hb | (simp only [mq] at hb ⊢; grind)), hbd.sub (by intro b hb; first | exact hb | (simp only [mq] at hb ⊢; grind)), hm0, by omega⟩
              · first | omega | (dsimp only; omega)
          ·
           intro hc60
           try simp only [bq, ne_eq] at hc60
           refine W.exit <| X.thenExit <| X.nextExit <| X.here <| X.seq <| W.seq <| W.region <| L.call rfl (c_known12) rfl ?_
           rintro _ w15 ⟨rfl, hm15⟩
           replace hm0 := hm0.trans hm15
           clear hm15
           refine L.v (R1.assign rfl) rfl <| L.nil <| X.seq <| W.ret <| X.result1 rfl (.tmp rfl .nil) ?_
           exact ⟨rfl, hm0⟩
      ·
       simp only [bq] at hgd40
       refine L.off rfl rfl rfl rfl rfl <| L.off rfl rfl rfl rfl rfl <| L.off rfl rfl rfl rfl rfl <| L.off rfl rfl rfl rfl rfl <| L.v (R1.pickT rfl rfl) rfl <| L.nil <| X.seq <| W.condT rfl <| W.seq <| W.region <| L.v (R1.assign rfl) rfl ?_
       refine L.nil <| X.seq <| W.ret <| X.thenRet <| X.result1 rfl (.tmp rfl .nil) ?_
       exact ⟨rfl, hm0⟩
     ·
      simp only [bq] at hgd35
      refine L.off rfl rfl rfl rfl rfl <| L.off rfl rfl rfl rfl rfl <| L.off rfl rfl rfl rfl rfl <| L.v (R1.pickT rfl rfl) rfl <| L.v (R1.move rfl) rfl <| L.off rfl rfl rfl rfl rfl <| L.off rfl rfl rfl rfl rfl <| L.off rfl rfl rfl rfl rfl <| L.off rfl rfl rfl rfl rfl <| L.v (R1.pickT rfl rfl) rfl <| L.nil ?_
      refine X.seq <| W.condT rfl <| W.seq <| W.region <| L.v (R1.assign rfl) rfl <| L.nil <| X.seq <| W.ret <| X.thenRet <| X.result1 rfl (.tmp rfl .nil) ?_
      exact ⟨rfl, hm0⟩
    ·
     have hcc_ := hgd31
     refine L.off rfl rfl rfl rfl rfl <| L.off rfl rfl rfl rfl rfl <| L.v (R1.pickT rfl rfl) rfl <| L.v (R1.move rfl) rfl <| L.off rfl rfl rfl rfl rfl <| L.off rfl rfl rfl rfl rfl <| L.off rfl rfl rfl rfl rfl <| L.v (R1.pickT rfl rfl) rfl <| L.v (R1.move rfl) rfl <| L.off rfl rfl rfl rfl rfl <| L.off rfl rfl rfl rfl rfl ?_
     refine L.off rfl rfl rfl rfl rfl <| L.off rfl rfl rfl rfl rfl <| L.v (R1.pickT rfl rfl) rfl <| L.nil <| X.seq <| W.condT rfl <| W.seq <| W.region <| L.v (R1.assign rfl) rfl <| L.nil <| X.seq ?_
     refine W.ret <| X.thenRet <| X.result1 rfl (.tmp rfl .nil) ?_
     exact ⟨rfl, hm0⟩
   ·
    have hcc_ := hgd27
    refine L.off rfl rfl rfl rfl rfl <| L.off rfl rfl rfl rfl rfl <| L.v (R1.pickT rfl rfl) rfl <| L.v (R1.move rfl) rfl <| L.off rfl rfl rfl rfl rfl <| L.off rfl rfl rfl rfl rfl <| L.v (R1.pickT rfl rfl) rfl <| L.v (R1.move rfl) rfl <| L.off rfl rfl rfl rfl rfl <| L.off rfl rfl rfl rfl rfl <| L.off rfl rfl rfl rfl rfl ?_
    refine L.v (R1.pickT rfl rfl) rfl <| L.v (R1.move rfl) rfl <| L.off rfl rfl rfl rfl rfl <| L.off rfl rfl rfl rfl rfl <| L.off rfl rfl rfl rfl rfl <| L.off rfl rfl rfl rfl rfl <| L.v (R1.pickT rfl rfl) rfl <| L.nil <| X.seq <| W.condT rfl <| W.seq ?_
    refine W.region <| L.v (R1.assign rfl) rfl <| L.nil <| X.seq <| W.ret <| X.thenRet <| X.result1 rfl (.tmp rfl .nil) ?_
    exact ⟨rfl, hm0⟩
  ·
   have hcc_ := hgd23
   refine L.off rfl rfl rfl rfl rfl <| L.off rfl rfl rfl rfl rfl <| L.v (R1.pickT rfl rfl) rfl <| L.v (R1.move rfl) rfl <| L.off rfl rfl rfl rfl rfl <| L.off rfl rfl rfl rfl rfl <| L.v (R1.pickT rfl rfl) rfl <| L.v (R1.move rfl) rfl <| L.off rfl rfl rfl rfl rfl <| L.off rfl rfl rfl rfl rfl <| L.v (R1.pickT rfl rfl) rfl ?_
   refine L.v (R1.move rfl) rfl <| L.off rfl rfl rfl rfl rfl <| L.off rfl rfl rfl rfl rfl <| L.off rfl rfl rfl rfl rfl <| L.v (R1.pickT rfl rfl) rfl <| L.v (R1.move rfl) rfl <| L.off rfl rfl rfl rfl rfl <| L.off rfl rfl rfl rfl rfl <| L.off rfl rfl rfl rfl rfl <| L.off rfl rfl rfl rfl rfl <| L.v (R1.pickT rfl rfl) rfl ?_
   refine L.nil <| X.seq <| W.condT rfl <| W.seq <| W.region <| L.v (R1.assign rfl) rfl <| L.nil <| X.seq <| W.ret <| X.thenRet <| X.result1 rfl (.tmp rfl .nil) ?_
   exact ⟨rfl, hm0⟩
 ·
  have hcc_ := hgd19
  refine L.off rfl rfl rfl rfl rfl <| L.off rfl rfl rfl rfl rfl <| L.v (R1.pickT rfl rfl) rfl <| L.v (R1.move rfl) rfl <| L.off rfl rfl rfl rfl rfl <| L.off rfl rfl rfl rfl rfl <| L.v (R1.pickT rfl rfl) rfl <| L.v (R1.move rfl) rfl <| L.off rfl rfl rfl rfl rfl <| L.off rfl rfl rfl rfl rfl <| L.v (R1.pickT rfl rfl) rfl ?_
  refine L.v (R1.move rfl) rfl <| L.off rfl rfl rfl rfl rfl <| L.off rfl rfl rfl rfl rfl <| L.v (R1.pickT rfl rfl) rfl <| L.v (R1.move rfl) rfl <| L.off rfl rfl rfl rfl rfl <| L.off rfl rfl rfl rfl rfl <| L.off rfl rfl rfl rfl rfl <| L.v (R1.pickT rfl rfl) rfl <| L.v (R1.move rfl) rfl <| L.off rfl rfl rfl rfl rfl ?_
  refine L.off rfl rfl rfl rfl rfl <| L.off rfl rfl rfl rfl rfl <| L.off rfl rfl rfl rfl rfl <| L.v (R1.pickT rfl rfl) rfl <| L.nil <| X.seq <| W.condT rfl <| W.seq <| W.region <| L.v (R1.assign rfl) rfl <| L.nil ?_
  refine X.seq <| W.ret <| X.thenRet <| X.result1 rfl (.tmp rfl .nil) ?_
  exact ⟨rfl, hm0⟩

end Go.Proofs.Ytpnhihljgkohcaa
