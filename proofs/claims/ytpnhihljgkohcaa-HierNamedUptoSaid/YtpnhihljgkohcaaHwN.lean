/- Walks: what the functions compute. -/
import Derived.Test.YtpnhihljgkohcaaHkA
namespace Go.Proofs.Ytpnhihljgkohcaa
open Go.RowKit
set_option linter.unusedVariables false
set_option linter.unusedSimpArgs false
set_option maxRecDepth 10000
set_option maxHeartbeats 2000000 in
theorem c_HierNamed {w : World} {vl vb vv : Value} {cs : List CR} {bs val : List QR} (hL : Lay rdC [] w vl cs) (hvb : Lay rdQ [] w vb bs) (hv : Lay rdQ [] w vv val) (hb : szCs cs ≤ 4194304) (hbb : szQs bs ≤ 4194304) (hbv : szQs val ≤ 4194304) :
    Ret Try.prog 5 #[vl, vb, vv] w (fun r w' => r = .bool true ∧ Mod [] w w') := by
 have hbd : Bd [] w := fun m hm => by cases hm
 obtain ⟨TL, tL, rfl⟩ := hL.form
 obtain ⟨TB, tB, rfl⟩ := hvb.form
 obtain ⟨TV, tV, rfl⟩ := hv.form
 have hcl := cs_len cs
 refine Ret.of (vs := [.slice TL cs.length tL, .slice TB bs.length tB, .slice TV val.length tV]) (n := 129) Try.func5 rfl rfl rfl rfl ?_
 have hm0 : Mod [] w w := Mod.refl _ _
 refine W.seq <| W.region <| L.v (R1.assign rfl) rfl <| L.nil <| X.seq <| W.seq <| W.region <| L.v (R1.move rfl) rfl <| L.v (R1.lenLay rfl hv tyS23) rfl <| L.v (R1.assign rfl) rfl <| L.nil ?_
 refine X.seq <| W.seq <| W.seq <| W.region <| L.v (R1.move rfl) rfl <| L.call rfl (c_heavy_pantographlaw12 hL (hb)) rfl ?_
 rintro _ w1 ⟨rfl, hm1⟩
 replace hL := hL.gr hm1
 replace hvb := hvb.gr hm1
 replace hv := hv.gr hm1
 replace hbd := hbd.gr hm1
 replace hm0 := hm0.trans hm1
 clear hm1
 refine L.v (R1.move rfl) rfl ?_
 cases hgd15 : (decide (150 < szCs cs))
 ·
  have hcc_ := hgd15
  refine L.on rfl rfl rfl (R1.move rfl) rfl <| L.callOn rfl rfl rfl rfl (c_many_pantographlaw12 hvb (hbb)) rfl ?_
  rintro _ w2 ⟨b17, rfl, hb17, hm2⟩
  replace hL := hL.gr hm2
  replace hvb := hvb.gr hm2
  replace hv := hv.gr hm2
  replace hbd := hbd.gr hm2
  replace hm0 := hm0.trans hm2
  clear hm2
  refine L.v (R1.pickF rfl rfl) rfl <| L.v (R1.move rfl) rfl ?_
  cases hgd19 : b17
  ·
   have hcc_ := hgd19
   refine L.on rfl rfl rfl (R1.move rfl) rfl <| L.callOn rfl rfl rfl rfl (c_many_pantographlaw12 hv (hbv)) rfl ?_
   rintro _ w3 ⟨b21, rfl, hb21, hm3⟩
   replace hL := hL.gr hm3
   replace hvb := hvb.gr hm3
   replace hv := hv.gr hm3
   replace hbd := hbd.gr hm3
   replace hm0 := hm0.trans hm3
   clear hm3
   refine L.v (R1.pickF rfl rfl) rfl <| L.v (R1.move rfl) rfl ?_
   cases hgd23 : b21
   ·
    have hcc_ := hgd23
    refine L.on rfl rfl rfl (R1.move rfl) rfl <| L.on rfl rfl rfl ((R1.gt rfl rfl).asB (c := decide (6 < (val.length : Int))) (rfl)) rfl <| L.v (R1.pickF rfl rfl) rfl <| L.v (R1.move rfl) rfl ?_
    cases hgd27 : decide (6 < (val.length : Int))
    ·
     simp only [bq] at hgd27
     refine L.on rfl rfl rfl (R1.move rfl) rfl <| L.on rfl rfl rfl (R1.lenLay rfl hL tyS22) rfl <| L.on rfl rfl rfl ((R1.gt rfl rfl).asB (c := decide (8 < (cs.length : Int))) (rfl)) rfl <| L.v (R1.pickF rfl rfl) rfl <| L.nil <| X.seq <| W.cond rfl ?_ ?_
     ·
      intro hc31
      simp only [bq] at hc31
      refine W.seq <| W.region <| L.v (R1.assign rfl) rfl <| L.nil <| X.seq <| W.ret <| X.thenRet <| X.result1 rfl (.tmp rfl .nil) ?_
      exact ⟨rfl, hm0⟩
     ·
      intro hc31
      simp only [bq] at hc31
      have hsm := sm150 (by simpa using hgd15)
      obtain ⟨hqb, _⟩ := hb17 hgd19
      obtain ⟨hqv, _⟩ := hb21 hgd23
      have hle : cs.length ≤ 1000 := by have h9 : ¬ 150 < szCs cs := (by simpa using hgd15); omega
      have hN : heldG (val.length : Int) = val.length := heldG_eq (by omega)
      have oksC : OkS (val.length : Int) 22651 cs := oks12 hsm (by omega)
      refine W.skip <| X.seq <| W.seq <| W.region <| L.v (R1.move rfl) rfl <| L.v (R1.move rfl) rfl <| L.v (R1.move rfl) rfl <| L.call rfl (c_Beaten hL hvb hv hbd hsm hqb (sm310 hqv) hle (by omega) (oks_al hvb hqb hsm (by omega))) rfl ?_
      rintro _ w4 ⟨z35, rfl, hBt35, hm4⟩
      replace hL := hL.gr hm4
      replace hvb := hvb.gr hm4
      replace hv := hv.gr hm4
      replace hbd := hbd.gr hm4
      replace hm0 := hm0.trans hm4
      clear hm4
      refine L.v (R1.assign rfl) rfl <| L.nil <| X.seq <| W.seq <| W.seq <| W.region <| L.v (R1.move rfl) rfl <| L.v ((R1.lt rfl rfl).asB (c := decide (z35 < 0)) (rfl)) rfl <| L.v (R1.move rfl) rfl ?_
      cases hgd38 : decide (z35 < 0)
      ·
       simp only [bq] at hgd38
       refine L.on rfl rfl rfl (R1.move rfl) rfl <| L.on rfl rfl rfl (R1.move rfl) rfl <| L.on rfl rfl rfl (R1.lenLay rfl hL tyS22) rfl <| L.on rfl rfl rfl ((R1.ge rfl rfl).asB (c := decide ((cs.length : Int) ≤ z35)) (rfl)) rfl <| L.v (R1.pickF rfl rfl) rfl <| L.nil <| X.seq <| W.cond rfl ?_ ?_
       ·
        intro hc43
        simp only [bq] at hc43
        refine W.seq <| W.region <| L.v (R1.move rfl) rfl <| L.v (R1.move rfl) rfl <| L.v (R1.move rfl) rfl <| L.v (R1.move rfl) rfl <| L.call rfl (c_Beaten12 hL hvb hv hbd hsm hqb (sm310 hqv) hle (by omega) (oks_al hvb hqb hsm (by omega))) rfl ?_
        rintro _ w5 ⟨z48, rfl, hBt48, hm5⟩
        replace hL := hL.gr hm5
        replace hm0 := hm0.trans hm5
        clear hm5
        refine L.v ((R1.eq rfl rfl).asB (c := true) (decide_eq_true (hBt35.uniq hBt48))) rfl <| L.v (R1.move rfl) rfl <| L.on rfl rfl rfl (R1.move rfl) rfl <| L.on rfl rfl rfl (R1.move rfl) rfl <| L.on rfl rfl rfl (R1.lenLay rfl hL tyS22) rfl <| L.on rfl rfl rfl (R1.move rfl) rfl <| L.on rfl rfl rfl (R1.addI rfl rfl (by omega)) rfl <| L.on rfl rfl rfl ((R1.lt rfl rfl).asB (c := true) (decide_eq_true (by have h9 := beat_lt hBt35; omega))) rfl <| L.v (R1.pickT rfl rfl) rfl <| L.v (R1.move rfl) rfl <| L.callOn rfl rfl rfl rfl (c_known12) rfl ?_
        rintro _ w6 ⟨rfl, hm6⟩
        replace hm0 := hm0.trans hm6
        clear hm6
        refine L.v (R1.pickT rfl rfl) rfl <| L.v (R1.assign rfl) rfl <| L.nil <| X.seq <| W.ret <| X.thenRet <| X.result1 rfl (.tmp rfl .nil) ?_
        exact ⟨rfl, hm0⟩
       ·
        intro hc43
        simp only [bq] at hc43
        obtain ⟨kk, hkk⟩ : ∃ kk : Nat, z35 = (kk : Int) := ⟨z35.toNat, by omega⟩
        obtain ⟨ck, hck, hcki, hckh, hckc⟩ := hier_named hBt35 (by omega) (by omega)
        subst hkk
        rw [Int.toNat_natCast] at hck
        have hkl : kk < cs.length := by omega
        refine W.skip <| X.seq <| W.seq <| W.region <| L.v (R1.move rfl) rfl <| L.v (R1.move rfl) rfl <| L.v (R1.atLay (j := kk) rfl rfl hL tyS22 rfl hkl) rfl ?_
        obtain ⟨z64, cs64, hz64, hE64, vt64, ds64, rfl, ht64, vn64, vd64, rfl, hn64, hd64⟩ := Lay.elemQ hL (j := kk) hkl
        obtain rfl : ck = z64 := by have h9 := hz64; rw [hck] at h9; injection h9
        obtain ⟨T64, t64, rfl⟩ := ht64.form
        obtain ⟨A64, c64, rfl⟩ := hn64.form
        obtain ⟨B64, e64, rfl⟩ := hd64.form
        refine L.v (R1.loadE rfl hE64 tyG33) rfl <| L.buildSlice (cells := [.int .i64 ck.st, .slice T64 ck.ts.length t64, .bool ck.k.s, .slice A64 ck.k.n.length c64, .slice B64 ck.k.d.length e64]) rfl tyS22 tyZ33 (fillK1 _ _ _ _ _ _ _ _ _ _ _) (by decide) (by decide) rfl ?_
        intro g65 w7 hN65
        have ho : World.ownsRow w7 w.heap.size 33 5 (.slice (some ⟨g65, 0, none⟩) 1 1) 1 [.int .i64 ck.st, .slice T64 ck.ts.length t64, .bool ck.k.s, .slice A64 ck.k.n.length c64, .slice B64 ck.k.d.length e64] := own_lit hN65.blk (New.ge hN65 hm0.size) rfl
        replace hL := hL.new hN65
        replace hv := hv.new hN65
        replace hbd := hbd.new hN65
        replace hm0 := hm0.trans (hN65.mod.mono (by simp))
        replace ht64 := ht64.new hN65
        replace hn64 := hn64.new hN65
        replace hd64 := hd64.new hN65
        clear hN65
        obtain ⟨v65, hv_v65⟩ : ∃ v, v = Value.slice (some ⟨g65, 0, none⟩) 1 1 := ⟨_, rfl⟩
        have hol_v65 : ownL v65 = [g65] := by rw [hv_v65]; rfl
        rw [← hv_v65] at ho ⊢
        replace hL := hL.sub (of_cons hol_v65)
        replace hv := hv.sub (of_cons hol_v65)
        replace hbd := hbd.sub (of_cons hol_v65)
        replace ht64 := ht64.sub (of_cons hol_v65)
        replace hn64 := hn64.sub (of_cons hol_v65)
        replace hd64 := hd64.sub (of_cons hol_v65)
        clear hv_v65 hol_v65
        refine L.v (R1.assign rfl) rfl <| L.nil <| X.seq <| W.seq <| W.seq <| W.region <| L.v (R1.assign rfl) rfl <| L.nil <| X.seq <| W.block <| W.loop (ι := Nat × Value × List (List Value)) (fun (i, u, css) => [(0, .slice TL cs.length tL), (2, .slice TV val.length tV), (7, .int .i64 (val.length : Int)), (8, .int .i64 (kk : Int)), (9, u), (10, .int .i64 (i : Int))]) (fun (i, u, css) w_ => Lay rdC (ownL u ++ []) w_ (.slice TL cs.length tL) cs ∧ Lay rdQ (ownL u ++ []) w_ (.slice TV val.length tV) val ∧ w_.ownsRow w.heap.size 33 5 u (ck :: (cs.take i).filter (fun o => isC o (val.length : Int) && (decide (o.st ≤ ck.st) && hB val o))).length css.flatten ∧ LayL rdC (ownL u ++ []) w_ css (ck :: (cs.take i).filter (fun o => isC o (val.length : Int) && (decide (o.st ≤ ck.st) && hB val o))) ∧ Bd (ownL u ++ []) w_ ∧ Mod [] w w_ ∧ i ≤ cs.length) (fun (i, u, css) => cs.length - i) (0, v65, [[.int .i64 ck.st, .slice T64 ck.ts.length t64, .bool ck.k.s, .slice A64 ck.k.n.length c64, .slice B64 ck.k.d.length e64]]) ?_ ?_ ?_
        · exact ⟨rfl, rfl, rfl, rfl, rfl, rfl, trivial⟩
        ·
         exact ⟨hL.sub (by intro b hb; first | exact hb | (simp only [mq] at hb ⊢; grind)), hv.sub (by intro b hb; first | exact hb | (simp only [mq] at hb ⊢; grind)), own_congr ho rfl (by simp), LayL.one _ ck (rdC_mk (ht64.sub (by intro b hb; first | exact hb | (simp only [mq] at hb ⊢; grind))) (hn64.sub (by intro b hb; first | exact hb | (simp only [mq] at hb ⊢; grind))) (hd64.sub (by intro b hb; first | exact hb | (simp only [mq] at hb ⊢; grind)))), hbd.sub (by intro b hb; first | exact hb | (simp only [mq] at hb ⊢; grind)), hm0, Nat.zero_le _⟩
        ·
         rintro ⟨i, u, css⟩ w8 ⟨hL, hv, ho, hl, hbd, hm0, hi⟩
         refine W.seq <| W.seq <| W.region <| L.v (R1.move rfl) rfl <| L.v (R1.move rfl) rfl <| L.v (R1.lenLay rfl hL tyS22) rfl <| L.v (R1.lt rfl rfl) rfl <| L.nil <| X.seq <| W.cond rfl ?_ ?_
         ·
          intro hc69
          try simp only [bq, ne_eq] at hc69
          refine W.skip <| X.seq <| W.seq <| W.block <| W.seq <| W.drawW (T := []) rfl (by decide +kernel) (NoHang.then (NoHang.block (NoHang.then (NoHang.next (NoHang.block (NoHang.then NoHang.post)))))) (fun w9 hm9 => ?_)
          replace hL := hL.gr hm9
          replace hv := hv.gr hm9
          replace ho := own_gr ho hm9 (by simp)
          replace hl := hl.gr hm9
          replace hbd := hbd.gr hm9
          replace hm0 := hm0.trans hm9
          have hS1 : Mod [] w9 w9 := Mod.refl _ _
          clear hm9
          have hL_s := hL
          refine D.take 0 rfl (by decide +kernel) (fun w_ hS => (R1.move rfl)) hS1 rfl <| D.take 1 rfl (by decide +kernel) (fun w_ hS => (R1.move rfl)) hS1 rfl <| D.take 2 rfl (by decide +kernel) (fun w_ hS => (R1.atLay (j := i) rfl rfl (Lay.gr hL_s hS) tyS22 rfl (by omega))) hS1 rfl ?_
          obtain ⟨z75, cs75, hz75, hE75, vt75, ds75, rfl, ht75, vn75, vd75, rfl, hn75, hd75⟩ := Lay.elemQ hL_s (j := i) (by omega)
          obtain ⟨T75, t75, rfl⟩ := ht75.form
          obtain ⟨A75, c75, rfl⟩ := hn75.form
          obtain ⟨B75, e75, rfl⟩ := hd75.form
          replace ht75 := ht75.gr hS1
          replace hn75 := hn75.gr hS1
          replace hd75 := hd75.gr hS1
          refine D.take 3 rfl (by decide +kernel) (fun w_ hS => (R1.loadE rfl (SlE.gr hE75 hS) tyG33)) hS1 rfl <| D.take 4 rfl (by decide +kernel) (fun w_ hS => (R1.move rfl)) hS1 rfl <| D.one 5 rfl (by decide +kernel) (fun hX => ?_)
          refine L.call rfl (c_ref8_Is ht75 hn75 hd75 (n := (val.length : Int)) (by omega) hbd ((hsm _ (List.mem_of_getElem? hz75)).mono (by decide))) rfl ?_
          rintro _ w10 ⟨rfl, hm10⟩
          replace hL := hL.gr hm10
          replace hv := hv.gr hm10
          replace ho := own_gr ho hm10 (by simp)
          replace hl := hl.gr hm10
          replace hbd := hbd.gr hm10
          replace hm0 := hm0.trans hm10
          replace ht75 := ht75.gr hm10
          replace hn75 := hn75.gr hm10
          replace hd75 := hd75.gr hm10
          replace hS1 := hS1.trans hm10
          clear hm10
          refine L.nil (hX _ _ ⟨.inr hS1, ?_⟩)
          refine D.take 6 rfl (by decide +kernel) (fun w_ hS => (R1.move rfl)) hS1 rfl ?_
          cases hgd78 : (isC z75 (val.length : Int))
          ·
           have hcc_ := hgd78
           refine D.off 7 rfl rfl rfl rfl rfl (by decide +kernel) hS1 rfl <| D.off 8 rfl rfl rfl rfl rfl (by decide +kernel) hS1 rfl <| D.off 9 rfl rfl rfl rfl rfl (by decide +kernel) hS1 rfl <| D.off 10 rfl rfl rfl rfl rfl (by decide +kernel) hS1 rfl <| D.off 11 rfl rfl rfl rfl rfl (by decide +kernel) hS1 rfl <| D.off 12 rfl rfl rfl rfl rfl (by decide +kernel) hS1 rfl <| D.off 13 rfl rfl rfl rfl rfl (by decide +kernel) hS1 rfl <| D.off 14 rfl rfl rfl rfl rfl (by decide +kernel) hS1 rfl <| D.off 15 rfl rfl rfl rfl rfl (by decide +kernel) hS1 rfl <| D.off 16 rfl rfl rfl rfl rfl (by decide +kernel) hS1 rfl <| D.off 17 rfl rfl rfl rfl rfl (by decide +kernel) hS1 rfl ?_
           refine D.take 18 rfl (by decide +kernel) (fun w_ hS => (R1.pickF rfl rfl)) hS1 rfl <| D.take 19 rfl (by decide +kernel) (fun w_ hS => (R1.move rfl)) hS1 rfl <| D.off 20 rfl rfl rfl rfl rfl (by decide +kernel) hS1 rfl <| D.off 21 rfl rfl rfl rfl rfl (by decide +kernel) hS1 rfl <| D.off 22 rfl rfl rfl rfl rfl (by decide +kernel) hS1 rfl <| D.off 23 rfl rfl rfl rfl rfl (by decide +kernel) hS1 rfl <| D.off 24 rfl rfl rfl rfl rfl (by decide +kernel) hS1 rfl <| D.off 25 rfl rfl rfl rfl rfl (by decide +kernel) hS1 rfl <| D.take 26 rfl (by decide +kernel) (fun w_ hS => (R1.pickF rfl rfl)) hS1 rfl <| D.done (by decide +kernel) ?_ _
           refine X.seq <| W.condF rfl <| W.skip <| X.blockEnd <| X.seq <| W.region <| L.v (R1.move rfl) rfl <| L.v (R1.addI (b := 1) rfl rfl (by omega)) rfl <| L.v (R1.assign rfl) rfl <| L.nil <| X.next (i + 1, u, css) ?_ ?_ ?_
           · exact ⟨rfl, rfl, rfl, rfl, rfl, rfl, trivial⟩
           ·
            have hcn : (isC z75 (val.length : Int) && (decide (z75.st ≤ ck.st) && hB val z75)) = false := by unfold hB; rw [hgd78]; rfl
            exact ⟨hL.sub (by intro b hb; first | exact hb | (simp only [mq] at hb ⊢; grind)), hv.sub (by intro b hb; first | exact hb | (simp only [mq] at hb ⊢; grind)), own_congr ho (by rw [nm_no hz75 hcn]) rfl, by rw [nm_no hz75 hcn]; exact hl.sub (by intro b hb; first | exact hb | (simp only [mq] at hb ⊢; grind)), hbd.sub (by intro b hb; first | exact hb | (simp only [mq] at hb ⊢; grind)), hm0, by omega⟩
           · first | omega | (dsimp only; omega)
          ·
           have hcc_ := hgd78
           refine D.takeOn 7 rfl rfl rfl rfl (by decide +kernel) (fun w_ hS => (R1.move rfl)) hS1 rfl <| D.takeOn 8 rfl rfl rfl rfl (by decide +kernel) (fun w_ hS => (R1.move rfl)) hS1 rfl <| D.takeOn 9 rfl rfl rfl rfl (by decide +kernel) (fun w_ hS => (R1.atLay (j := i) rfl rfl (Lay.gr hL_s hS) tyS22 rfl (by omega))) hS1 rfl <| D.takeOn 10 rfl rfl rfl rfl (by decide +kernel) (fun w_ hS => (R1.fieldAddr rfl tyF33_0)) hS1 rfl ?_
           obtain ⟨z83, cs83, hz83, hE83, vt83, ds83, rfl, ht83, vn83, vd83, rfl, hn83, hd83⟩ := Lay.elemQ hL_s (j := i) (by omega)
           obtain ⟨T83, t83, rfl⟩ := ht83.form
           obtain ⟨A83, c83, rfl⟩ := hn83.form
           obtain ⟨B83, e83, rfl⟩ := hd83.form
           obtain rfl : z75 = z83 := by have h9 := hz83; rw [hz75] at h9; injection h9
           replace ht83 := ht83.gr hS1
           replace hn83 := hn83.gr hS1
           replace hd83 := hd83.gr hS1
           refine D.takeOn 11 rfl rfl rfl rfl (by decide +kernel) (fun w_ hS => (R1.loadEF rfl (SlE.gr hE83 hS) rfl tyP3)) hS1 rfl <| D.takeOn 12 rfl rfl rfl rfl (by decide +kernel) (fun w_ hS => (R1.move rfl)) hS1 rfl <| D.takeOn 13 rfl rfl rfl rfl (by decide +kernel) (fun w_ hS => (R1.move rfl)) hS1 rfl <| D.takeOn 14 rfl rfl rfl rfl (by decide +kernel) (fun w_ hS => (R1.atLay (j := kk) rfl rfl (Lay.gr hL_s hS) tyS22 rfl hkl)) hS1 rfl <| D.takeOn 15 rfl rfl rfl rfl (by decide +kernel) (fun w_ hS => (R1.fieldAddr rfl tyF33_0)) hS1 rfl ?_
           obtain ⟨z88, cs88, hz88, hE88, vt88, ds88, rfl, ht88, vn88, vd88, rfl, hn88, hd88⟩ := Lay.elemQ hL_s (j := kk) hkl
           obtain rfl : ck = z88 := by have h9 := hz88; rw [hck] at h9; injection h9
           obtain ⟨T88, t88, rfl⟩ := ht88.form
           obtain ⟨A88, c88, rfl⟩ := hn88.form
           obtain ⟨B88, e88, rfl⟩ := hd88.form
           replace ht88 := ht88.gr hS1
           replace hn88 := hn88.gr hS1
           replace hd88 := hd88.gr hS1
           refine D.takeOn 16 rfl rfl rfl rfl (by decide +kernel) (fun w_ hS => (R1.loadEF rfl (SlE.gr hE88 hS) rfl tyP3)) hS1 rfl <| D.takeOn 17 rfl rfl rfl rfl (by decide +kernel) (fun w_ hS => ((R1.le rfl rfl).asB (c := decide (z75.st ≤ ck.st)) (rfl))) hS1 rfl <| D.take 18 rfl (by decide +kernel) (fun w_ hS => (R1.pickT rfl rfl)) hS1 rfl <| D.take 19 rfl (by decide +kernel) (fun w_ hS => (R1.move rfl)) hS1 rfl ?_
           cases hgd91 : decide (z75.st ≤ ck.st)
           ·
            have hcc_ := hgd91
            refine D.off 20 rfl rfl rfl rfl rfl (by decide +kernel) hS1 rfl <| D.off 21 rfl rfl rfl rfl rfl (by decide +kernel) hS1 rfl <| D.off 22 rfl rfl rfl rfl rfl (by decide +kernel) hS1 rfl <| D.off 23 rfl rfl rfl rfl rfl (by decide +kernel) hS1 rfl <| D.off 24 rfl rfl rfl rfl rfl (by decide +kernel) hS1 rfl <| D.off 25 rfl rfl rfl rfl rfl (by decide +kernel) hS1 rfl <| D.take 26 rfl (by decide +kernel) (fun w_ hS => (R1.pickF rfl rfl)) hS1 rfl <| D.done (by decide +kernel) ?_ _
            refine X.seq <| W.condF rfl <| W.skip <| X.blockEnd <| X.seq <| W.region <| L.v (R1.move rfl) rfl <| L.v (R1.addI (b := 1) rfl rfl (by omega)) rfl <| L.v (R1.assign rfl) rfl <| L.nil <| X.next (i + 1, u, css) ?_ ?_ ?_
            · exact ⟨rfl, rfl, rfl, rfl, rfl, rfl, trivial⟩
            ·
             have hcn : (isC z75 (val.length : Int) && (decide (z75.st ≤ ck.st) && hB val z75)) = false := by unfold hB; rw [hgd78, hgd91]; rfl
             exact ⟨hL.sub (by intro b hb; first | exact hb | (simp only [mq] at hb ⊢; grind)), hv.sub (by intro b hb; first | exact hb | (simp only [mq] at hb ⊢; grind)), own_congr ho (by rw [nm_no hz75 hcn]) rfl, by rw [nm_no hz75 hcn]; exact hl.sub (by intro b hb; first | exact hb | (simp only [mq] at hb ⊢; grind)), hbd.sub (by intro b hb; first | exact hb | (simp only [mq] at hb ⊢; grind)), hm0, by omega⟩
            · first | omega | (dsimp only; omega)
           ·
            have hcc_ := hgd91
            refine D.takeOn 20 rfl rfl rfl rfl (by decide +kernel) (fun w_ hS => (R1.move rfl)) hS1 rfl <| D.takeOn 21 rfl rfl rfl rfl (by decide +kernel) (fun w_ hS => (R1.move rfl)) hS1 rfl <| D.takeOn 22 rfl rfl rfl rfl (by decide +kernel) (fun w_ hS => (R1.atLay (j := i) rfl rfl (Lay.gr hL_s hS) tyS22 rfl (by omega))) hS1 rfl ?_
            obtain ⟨z95, cs95, hz95, hE95, vt95, ds95, rfl, ht95, vn95, vd95, rfl, hn95, hd95⟩ := Lay.elemQ hL_s (j := i) (by omega)
            obtain ⟨T95, t95, rfl⟩ := ht95.form
            obtain ⟨A95, c95, rfl⟩ := hn95.form
            obtain ⟨B95, e95, rfl⟩ := hd95.form
            obtain rfl : z75 = z95 := by have h9 := hz95; rw [hz75] at h9; injection h9
            replace ht95 := ht95.gr hS1
            replace hn95 := hn95.gr hS1
            replace hd95 := hd95.gr hS1
            refine D.takeOn 23 rfl rfl rfl rfl (by decide +kernel) (fun w_ hS => (R1.loadE rfl (SlE.gr hE95 hS) tyG33)) hS1 rfl <| D.takeOn 24 rfl rfl rfl rfl (by decide +kernel) (fun w_ hS => (R1.move rfl)) hS1 rfl <| D.one 25 rfl (by decide +kernel) (fun hX => ?_)
            refine L.callOn rfl rfl rfl rfl (c_Holds10 ht95 hn95 hd95 hv hbd ((hsm _ (List.mem_of_getElem? hz75)).mono (by decide)) (sm_mono3 hqv)) rfl ?_
            rintro _ w11 ⟨rfl, hm11⟩
            replace hL := hL.gr hm11
            replace hv := hv.gr hm11
            replace ho := own_gr ho hm11 (by simp)
            replace hl := hl.gr hm11
            replace hbd := hbd.gr hm11
            replace hm0 := hm0.trans hm11
            replace ht75 := ht75.gr hm11
            replace hn75 := hn75.gr hm11
            replace hd75 := hd75.gr hm11
            replace ht83 := ht83.gr hm11
            replace hn83 := hn83.gr hm11
            replace hd83 := hd83.gr hm11
            replace ht88 := ht88.gr hm11
            replace hn88 := hn88.gr hm11
            replace hd88 := hd88.gr hm11
            replace ht95 := ht95.gr hm11
            replace hn95 := hn95.gr hm11
            replace hd95 := hd95.gr hm11
            replace hS1 := hS1.trans hm11
            clear hm11
            refine L.nil (hX _ _ ⟨.inr hS1, ?_⟩)
            refine D.take 26 rfl (by decide +kernel) (fun w_ hS => (R1.pickT rfl rfl)) hS1 rfl <| D.done (by decide +kernel) ?_ _
            refine X.seq <| W.cond rfl ?_ ?_
            ·
             intro hc98
             have hcc_ := hc98
             refine W.region <| L.v (R1.move rfl) rfl <| L.v (R1.move rfl) rfl <| L.v (R1.move rfl) rfl <| L.v (R1.atLay (j := i) rfl rfl hL tyS22 rfl (by omega)) rfl ?_
             obtain ⟨z103, cs103, hz103, hE103, vt103, ds103, rfl, ht103, vn103, vd103, rfl, hn103, hd103⟩ := Lay.elemQ hL (j := i) (by omega)
             obtain ⟨T103, t103, rfl⟩ := ht103.form
             obtain ⟨A103, c103, rfl⟩ := hn103.form
             obtain ⟨B103, e103, rfl⟩ := hd103.form
             obtain rfl : z75 = z103 := by have h9 := hz103; rw [hz75] at h9; injection h9
             refine L.v (R1.loadE rfl hE103 tyG33) rfl <| L.buildSlice (cells := [.int .i64 z75.st, .slice T103 z75.ts.length t103, .bool z75.k.s, .slice A103 z75.k.n.length c103, .slice B103 z75.k.d.length e103]) rfl tyS22 tyZ33 (fillK1 _ _ _ _ _ _ _ _ _ _ _) (by decide) (by decide) rfl ?_
             intro g104 w12 hN104
             replace hL := hL.gr hN104.mod
             replace hv := hv.gr hN104.mod
             replace ho := own_gr ho hN104.mod (by simp)
             replace hl := hl.gr hN104.mod
             replace hbd := hbd.gr hN104.mod
             replace hm0 := hm0.trans hN104.mod
             replace ht75 := ht75.gr hN104.mod
             replace hn75 := hn75.gr hN104.mod
             replace hd75 := hd75.gr hN104.mod
             replace ht83 := ht83.gr hN104.mod
             replace hn83 := hn83.gr hN104.mod
             replace hd83 := hd83.gr hN104.mod
             replace ht88 := ht88.gr hN104.mod
             replace hn88 := hn88.gr hN104.mod
             replace hd88 := hd88.gr hN104.mod
             replace ht95 := ht95.gr hN104.mod
             replace hn95 := hn95.gr hN104.mod
             replace hd95 := hd95.gr hN104.mod
             replace ht103 := ht103.gr hN104.mod
             replace hn103 := hn103.gr hN104.mod
             replace hd103 := hd103.gr hN104.mod
             have hrow : Sl [] w12 5 (.slice (some ⟨g104, 0, none⟩) 1 1) 1 [.int .i64 z75.st, .slice T103 z75.ts.length t103, .bool z75.k.s, .slice A103 z75.k.n.length c103, .slice B103 z75.k.d.length e103] := Sl.of_blk hN104.blk 0 (Nat.le_refl _) (by decide) rfl (by simp) (fun j hj => by simp)
             clear hN104
             have hbl : (ck :: (cs.take i).filter (fun o => isC o (val.length : Int) && (decide (o.st ≤ ck.st) && hB val o))).length ≤ cs.length + 1 := nm_len _ _ _
             refine L.append rfl rfl ho hrow (by intro c hc; simp only [List.mem_cons, List.not_mem_nil, or_false] at hc; rcases hc with rfl | rfl | rfl | rfl | rfl <;> rfl) tyS22 tyZ33 (by omega) (by unfold maxLen; omega) hm0.size rfl ?_
             intro v105 w13 ho105' hG105
             replace hL := hL.grew2 hG105 (by first | exact mem_own | (intro b hb; simp [hb]))
             replace hv := hv.grew2 hG105 (by first | exact mem_own | (intro b hb; simp [hb]))
             replace hl := hl.grew2 hG105 (by first | exact mem_own | (intro b hb; simp [hb]))
             replace hbd := hbd.grew2 hG105 (by first | exact mem_own | (intro b hb; simp [hb]))
             replace hm0 := Mod.oldOwn hm0 hG105.mod ho
             replace ht75 := ht75.grew2 hG105 (by first | exact mem_own | (intro b hb; simp [hb]))
             replace hn75 := hn75.grew2 hG105 (by first | exact mem_own | (intro b hb; simp [hb]))
             replace hd75 := hd75.grew2 hG105 (by first | exact mem_own | (intro b hb; simp [hb]))
             replace ht83 := ht83.grew2 hG105 (by first | exact mem_own | (intro b hb; simp [hb]))
             replace hn83 := hn83.grew2 hG105 (by first | exact mem_own | (intro b hb; simp [hb]))
             replace hd83 := hd83.grew2 hG105 (by first | exact mem_own | (intro b hb; simp [hb]))
             replace ht88 := ht88.grew2 hG105 (by first | exact mem_own | (intro b hb; simp [hb]))
             replace hn88 := hn88.grew2 hG105 (by first | exact mem_own | (intro b hb; simp [hb]))
             replace hd88 := hd88.grew2 hG105 (by first | exact mem_own | (intro b hb; simp [hb]))
             replace ht95 := ht95.grew2 hG105 (by first | exact mem_own | (intro b hb; simp [hb]))
             replace hn95 := hn95.grew2 hG105 (by first | exact mem_own | (intro b hb; simp [hb]))
             replace hd95 := hd95.grew2 hG105 (by first | exact mem_own | (intro b hb; simp [hb]))
             replace ht103 := ht103.grew2 hG105 (by first | exact mem_own | (intro b hb; simp [hb]))
             replace hn103 := hn103.grew2 hG105 (by first | exact mem_own | (intro b hb; simp [hb]))
             replace hd103 := hd103.grew2 hG105 (by first | exact mem_own | (intro b hb; simp [hb]))
             replace ho := ho105'; clear ho105'
             clear hG105
             refine L.v (R1.assign rfl) rfl <| L.nil <| X.blockEnd <| X.seq <| W.region <| L.v (R1.move rfl) rfl <| L.v (R1.addI (b := 1) rfl rfl (by omega)) rfl <| L.v (R1.assign rfl) rfl <| L.nil <| X.next (i + 1, v105, css ++ [[.int .i64 z75.st, .slice T103 z75.ts.length t103, .bool z75.k.s, .slice A103 z75.k.n.length c103, .slice B103 z75.k.d.length e103]]) ?_ ?_ ?_
             · exact ⟨rfl, rfl, rfl, rfl, rfl, rfl, trivial⟩
             ·
              have hcn : (isC z75 (val.length : Int) && (decide (z75.st ≤ ck.st) && hB val z75)) = true := by unfold hB; rw [hgd78, hgd91, hc98]; rfl
              exact ⟨hL.sub (by intro b hb; first | exact hb | (simp only [mq] at hb ⊢; grind)), hv.sub (by intro b hb; first | exact hb | (simp only [mq] at hb ⊢; grind)), own_congr ho (by rw [nm_yes hz75 hcn]; simp) (by simp), by rw [nm_yes hz75 hcn]; exact (hl.sub (by intro b hb; first | exact hb | (simp only [mq] at hb ⊢; grind))).append (LayL.one _ z75 (rdC_mk (ht103.sub (by intro b hb; first | exact hb | (simp only [mq] at hb ⊢; grind))) (hn103.sub (by intro b hb; first | exact hb | (simp only [mq] at hb ⊢; grind))) (hd103.sub (by intro b hb; first | exact hb | (simp only [mq] at hb ⊢; grind))))), hbd.sub (by intro b hb; first | exact hb | (simp only [mq] at hb ⊢; grind)), hm0, by omega⟩
             · first | omega | (dsimp only; omega)
            ·
             intro hc98
             have hcc_ := hc98
             refine W.skip <| X.blockEnd <| X.seq <| W.region <| L.v (R1.move rfl) rfl <| L.v (R1.addI (b := 1) rfl rfl (by omega)) rfl <| L.v (R1.assign rfl) rfl <| L.nil <| X.next (i + 1, u, css) ?_ ?_ ?_
             · exact ⟨rfl, rfl, rfl, rfl, rfl, rfl, trivial⟩
             ·
              have hcn : (isC z75 (val.length : Int) && (decide (z75.st ≤ ck.st) && hB val z75)) = false := by unfold hB; rw [hgd78, hgd91, hc98]; rfl
              exact ⟨hL.sub (by intro b hb; first | exact hb | (simp only [mq] at hb ⊢; grind)), hv.sub (by intro b hb; first | exact hb | (simp only [mq] at hb ⊢; grind)), own_congr ho (by rw [nm_no hz75 hcn]) rfl, by rw [nm_no hz75 hcn]; exact hl.sub (by intro b hb; first | exact hb | (simp only [mq] at hb ⊢; grind)), hbd.sub (by intro b hb; first | exact hb | (simp only [mq] at hb ⊢; grind)), hm0, by omega⟩
             · first | omega | (dsimp only; omega)
         ·
          intro hc69
          try simp only [bq, ne_eq] at hc69
          obtain rfl : i = cs.length := by omega
          rw [List.take_length] at ho hl
          have hBs : Lay rdC [] w8 u (ck :: cs.filter (fun o => isC o (val.length : Int) && (decide (o.st ≤ ck.st) && hB val o))) := Lay.of_own ho (hl.sub (fun b hb => by cases hb)) (by simp)
          replace hL := hL.sub (M' := []) (fun b hb => by cases hb)
          replace hv := hv.sub (M' := []) (fun b hb => by cases hb)
          replace hbd := hbd.sub (M' := []) (fun b hb => by cases hb)
          refine W.exit <| X.thenExit <| X.nextExit <| X.here <| X.seq <| W.seq <| W.region <| L.v (R1.move rfl) rfl <| L.v (R1.move rfl) rfl <| L.v (R1.atLay (j := kk) rfl rfl hL tyS22 rfl hkl) rfl ?_
          obtain ⟨z109, cs109, hz109, hE109, vt109, ds109, rfl, ht109, vn109, vd109, rfl, hn109, hd109⟩ := Lay.elemQ hL (j := kk) hkl
          obtain rfl : ck = z109 := by have h9 := hz109; rw [hck] at h9; injection h9
          obtain ⟨T109, t109, rfl⟩ := ht109.form
          obtain ⟨A109, c109, rfl⟩ := hn109.form
          obtain ⟨B109, e109, rfl⟩ := hd109.form
          refine L.v (R1.loadE rfl hE109 tyG33) rfl <| L.v (R1.move rfl) rfl <| L.call rfl (c_ref8_Is ht109 hn109 hd109 (n := (val.length : Int)) (by omega) hbd ((hsm _ (List.mem_of_getElem? hck)).mono (by decide))) rfl ?_
          rintro _ w14 ⟨rfl, hm14⟩
          replace hL := hL.gr hm14
          replace hv := hv.gr hm14
          replace hbd := hbd.gr hm14
          replace hm0 := hm0.trans hm14
          replace hBs := hBs.gr hm14
          clear hm14
          rw [hcki]
          refine L.v (R1.move rfl) rfl <| L.on rfl rfl rfl (R1.move rfl) rfl <| L.on rfl rfl rfl (R1.move rfl) rfl <| L.on rfl rfl rfl (R1.atLay (j := kk) rfl rfl hL tyS22 rfl hkl) rfl ?_
          obtain ⟨z116, cs116, hz116, hE116, vt116, ds116, rfl, ht116, vn116, vd116, rfl, hn116, hd116⟩ := Lay.elemQ hL (j := kk) hkl
          obtain rfl : ck = z116 := by have h9 := hz116; rw [hck] at h9; injection h9
          obtain ⟨T116, t116, rfl⟩ := ht116.form
          obtain ⟨A116, c116, rfl⟩ := hn116.form
          obtain ⟨B116, e116, rfl⟩ := hd116.form
          refine L.on rfl rfl rfl (R1.loadE rfl hE116 tyG33) rfl <| L.on rfl rfl rfl (R1.move rfl) rfl <| L.callOn rfl rfl rfl rfl (c_Holds10 ht116 hn116 hd116 hv hbd ((hsm _ (List.mem_of_getElem? hck)).mono (by decide)) (sm_mono3 hqv)) rfl ?_
          rintro _ w15 ⟨rfl, hm15⟩
          replace hm0 := hm0.trans hm15
          replace hBs := hBs.gr hm15
          clear hm15
          rw [show (decide (atG val ck.ts (QR.val ck.k) = 0)) = false from hckh]
          refine L.on rfl rfl rfl ((R1.not rfl).asB (c := true) rfl) rfl <| L.v (R1.pickT rfl rfl) rfl <| L.v (R1.move rfl) rfl <| L.on rfl rfl rfl (R1.move rfl) rfl <| L.on rfl rfl rfl (R1.move rfl) rfl <| L.callOn rfl rfl rfl rfl (c_Consistent10 (M := []) hBs (fun b hb => by cases hb) (oksC.sub (nm_mem (List.mem_of_getElem? hck)))) rfl ?_
          rintro _ w16 ⟨rs124, ok124, hP124, rfl, hm16⟩
          replace hm0 := hm0.trans hm16
          clear hm16
          rw [show ok124 = true from (A_ok hP124).2 (by rw [hN]; exact hckc)]
          refine L.v (R1.pickT rfl rfl) rfl <| L.v (R1.move rfl) rfl <| L.callOn rfl rfl rfl rfl (c_known12) rfl ?_
          rintro _ w17 ⟨rfl, hm17⟩
          replace hm0 := hm0.trans hm17
          clear hm17
          refine L.v (R1.pickT rfl rfl) rfl <| L.v (R1.assign rfl) rfl <| L.nil <| X.seq <| W.ret <| X.result1 rfl (.tmp rfl .nil) ?_
          exact ⟨rfl, hm0⟩
      ·
       simp only [bq] at hgd38
       refine L.off rfl rfl rfl rfl rfl <| L.off rfl rfl rfl rfl rfl <| L.off rfl rfl rfl rfl rfl <| L.off rfl rfl rfl rfl rfl <| L.v (R1.pickT rfl rfl) rfl <| L.nil <| X.seq <| W.condT rfl <| W.seq <| W.region <| L.v (R1.move rfl) rfl ?_
       refine L.v (R1.move rfl) rfl <| L.v (R1.move rfl) rfl <| L.v (R1.move rfl) rfl <| L.call rfl (c_Beaten12 hL hvb hv hbd hsm hqb (sm310 hqv) hle (by omega) (oks_al hvb hqb hsm (by omega))) rfl ?_
       rintro _ w18 ⟨z48, rfl, hBt48, hm18⟩
       replace hL := hL.gr hm18
       replace hm0 := hm0.trans hm18
       clear hm18
       refine L.v ((R1.eq rfl rfl).asB (c := true) (decide_eq_true (hBt35.uniq hBt48))) rfl <| L.v (R1.move rfl) rfl <| L.on rfl rfl rfl (R1.move rfl) rfl <| L.on rfl rfl rfl (R1.move rfl) rfl <| L.on rfl rfl rfl (R1.lenLay rfl hL tyS22) rfl <| L.on rfl rfl rfl (R1.move rfl) rfl <| L.on rfl rfl rfl (R1.addI rfl rfl (by omega)) rfl <| L.on rfl rfl rfl ((R1.lt rfl rfl).asB (c := true) (decide_eq_true (by have h9 := beat_lt hBt35; omega))) rfl <| L.v (R1.pickT rfl rfl) rfl <| L.v (R1.move rfl) rfl <| L.callOn rfl rfl rfl rfl (c_known12) rfl ?_
       rintro _ w19 ⟨rfl, hm19⟩
       replace hm0 := hm0.trans hm19
       clear hm19
       refine L.v (R1.pickT rfl rfl) rfl <| L.v (R1.assign rfl) rfl <| L.nil <| X.seq <| W.ret <| X.thenRet <| X.result1 rfl (.tmp rfl .nil) ?_
       exact ⟨rfl, hm0⟩
    ·
     simp only [bq] at hgd27
     refine L.off rfl rfl rfl rfl rfl <| L.off rfl rfl rfl rfl rfl <| L.off rfl rfl rfl rfl rfl <| L.v (R1.pickT rfl rfl) rfl <| L.nil <| X.seq <| W.condT rfl <| W.seq <| W.region <| L.v (R1.assign rfl) rfl <| L.nil ?_
     refine X.seq <| W.ret <| X.thenRet <| X.result1 rfl (.tmp rfl .nil) ?_
     exact ⟨rfl, hm0⟩
   ·
    have hcc_ := hgd23
    refine L.off rfl rfl rfl rfl rfl <| L.off rfl rfl rfl rfl rfl <| L.v (R1.pickT rfl rfl) rfl <| L.v (R1.move rfl) rfl <| L.off rfl rfl rfl rfl rfl <| L.off rfl rfl rfl rfl rfl <| L.off rfl rfl rfl rfl rfl <| L.v (R1.pickT rfl rfl) rfl <| L.nil <| X.seq <| W.condT rfl ?_
    refine W.seq <| W.region <| L.v (R1.assign rfl) rfl <| L.nil <| X.seq <| W.ret <| X.thenRet <| X.result1 rfl (.tmp rfl .nil) ?_
    exact ⟨rfl, hm0⟩
  ·
   have hcc_ := hgd19
   refine L.off rfl rfl rfl rfl rfl <| L.off rfl rfl rfl rfl rfl <| L.v (R1.pickT rfl rfl) rfl <| L.v (R1.move rfl) rfl <| L.off rfl rfl rfl rfl rfl <| L.off rfl rfl rfl rfl rfl <| L.v (R1.pickT rfl rfl) rfl <| L.v (R1.move rfl) rfl <| L.off rfl rfl rfl rfl rfl <| L.off rfl rfl rfl rfl rfl <| L.off rfl rfl rfl rfl rfl ?_
   refine L.v (R1.pickT rfl rfl) rfl <| L.nil <| X.seq <| W.condT rfl <| W.seq <| W.region <| L.v (R1.assign rfl) rfl <| L.nil <| X.seq <| W.ret <| X.thenRet ?_
   refine X.result1 rfl (.tmp rfl .nil) ?_
   exact ⟨rfl, hm0⟩
 ·
  have hcc_ := hgd15
  refine L.off rfl rfl rfl rfl rfl <| L.off rfl rfl rfl rfl rfl <| L.v (R1.pickT rfl rfl) rfl <| L.v (R1.move rfl) rfl <| L.off rfl rfl rfl rfl rfl <| L.off rfl rfl rfl rfl rfl <| L.v (R1.pickT rfl rfl) rfl <| L.v (R1.move rfl) rfl <| L.off rfl rfl rfl rfl rfl <| L.off rfl rfl rfl rfl rfl <| L.v (R1.pickT rfl rfl) rfl ?_
  refine L.v (R1.move rfl) rfl <| L.off rfl rfl rfl rfl rfl <| L.off rfl rfl rfl rfl rfl <| L.off rfl rfl rfl rfl rfl <| L.v (R1.pickT rfl rfl) rfl <| L.nil <| X.seq <| W.condT rfl <| W.seq <| W.region <| L.v (R1.assign rfl) rfl ?_
  refine L.nil <| X.seq <| W.ret <| X.thenRet <| X.result1 rfl (.tmp rfl .nil) ?_
  exact ⟨rfl, hm0⟩

end Go.Proofs.Ytpnhihljgkohcaa
