/- Walks: what the functions compute. -/
import Derived.Test.YtkjllbpfcokalaaLkA
import Derived.Test.YtkjllbpfcokalaaLpM
namespace Go.Proofs.Ytkjllbpfcokalaa
open Go.RowKit
set_option linter.unusedVariables false
set_option linter.unusedSimpArgs false
set_option maxRecDepth 10000
set_option maxHeartbeats 2000000 in
theorem c_GaussMore {w : World} {vl vt vn vd : Value} {cs : List CR} {c : CR} {z0 : Int} (hL : Lay rdC [] w vl cs) (ht : Lay rdT [] w vt c.ts) (h : U32 [] w vn c.k.n) (k : U32 [] w vd c.k.d) (hb : szCs cs ≤ 4194304) (hbc : szC c ≤ 4194304) :
    Ret Try.prog 6 #[vl, .agg #[.int .i64 c.st, vt, .bool c.k.s, vn, vd], .int .i64 z0] w (fun r w' => r = .bool true ∧ Mod [] w w') := by
 have hbd : Bd [] w := fun m hm => by cases hm
 obtain ⟨T9, t9, rfl⟩ := ht.form
 obtain ⟨A9, c9, rfl⟩ := h.form
 obtain ⟨B9, e9, rfl⟩ := k.form
 obtain ⟨TL, tL, rfl⟩ := hL.form
 have hcl := cs_len cs
 refine Ret.of (vs := [.slice TL cs.length tL, .agg #[.int .i64 c.st, .slice T9 c.ts.length t9, .bool c.k.s, .slice A9 c.k.n.length c9, .slice B9 c.k.d.length e9], .int .i64 z0]) (n := 97) Try.func6 rfl rfl rfl rfl ?_
 have hm0 : Mod [] w w := Mod.refl _ _
 refine W.seq <| W.region <| L.box rfl rfl ?_
 intro g4 w1 hN4
 replace hL := hL.new hN4
 replace hbd := hbd.new hN4
 replace ht := ht.new hN4
 replace h := h.new hN4
 replace k := k.new hN4
 have hge_g4 := New.ge hN4 hm0.size
 replace hm0 := hm0.trans (hN4.mod.mono (by simp))
 have hb4 := hN4.blk
 clear hN4
 refine L.v (R1.assign rfl) rfl <| L.nil <| X.seq <| W.seq <| W.seq <| W.region <| L.v (R1.move rfl) rfl <| L.call rfl (c_heavy_pantographlaw10 hL (hb)) rfl ?_
 rintro _ w2 ⟨rfl, hm2⟩
 replace hL := hL.gr hm2
 replace hbd := hbd.gr hm2
 replace ht := ht.gr hm2
 replace h := h.gr hm2
 replace k := k.gr hm2
 replace hm0 := hm0.trans hm2
 replace hb4 := Blk.gr hb4 hm2
 clear hm2
 refine L.v (R1.move rfl) rfl ?_
 cases hgd11 : (decide (150 < szCs cs))
 ·
  have hcc_ := hgd11
  refine L.on rfl rfl rfl (R1.loadBox rfl hb4 tyG29) rfl <| L.guardOn rfl rfl rfl <| L.buildSlice (cells := [.int .i64 c.st, .slice T9 c.ts.length t9, .bool c.k.s, .slice A9 c.k.n.length c9, .slice B9 c.k.d.length e9]) rfl tyS22 tyZ29 (fillK1 _ _ _ _ _ _ _ _ _ _ _) (by decide) (by decide) rfl ?_
  intro g13 w3 hN13
  replace hL := hL.new hN13
  replace hbd := hbd.new hN13
  replace ht := ht.new hN13
  replace h := h.new hN13
  replace k := k.new hN13
  have hge_g13 := New.ge hN13 hm0.size
  replace hm0 := hm0.trans (hN13.mod.mono (by simp))
  have hne_g4_g13 := hb4.ne_ hN13
  replace hb4 := Blk.gr hb4 hN13.mod
  have hb13 := hN13.blk
  clear hN13
  have hL13 : Lay rdC [] w3 (.slice (some ⟨g13, 0, none⟩) 1 1) [c] := Lay.of_blk (css := [[.int .i64 c.st, .slice T9 c.ts.length t9, .bool c.k.s, .slice A9 c.k.n.length c9, .slice B9 c.k.d.length e9]]) hb13 (LayL.one _ c (rdC_mk (ht.sub (by simp)) (h.sub (by simp)) (k.sub (by simp)))) rfl rfl (by decide) (by simp)
  refine L.callOn rfl rfl rfl rfl (c_heavy_pantographlaw10 hL13 (by rw [szCs_one]; omega)) rfl ?_
  rintro _ w4 ⟨rfl, hm4⟩
  replace hL := hL.gr hm4
  replace hbd := hbd.gr hm4
  replace ht := ht.gr hm4
  replace h := h.gr hm4
  replace k := k.gr hm4
  replace hm0 := hm0.trans hm4
  replace hb4 := Blk.gr hb4 hm4
  replace hb13 := Blk.gr hb13 hm4
  replace hL13 := hL13.gr hm4
  clear hm4
  refine L.v (R1.pickF rfl rfl) rfl <| L.v (R1.move rfl) rfl ?_
  cases hgd16 : (decide (150 < szCs [c]))
  ·
   have hcc_ := hgd16
   refine L.on rfl rfl rfl (R1.move rfl) rfl <| L.on rfl rfl rfl ((R1.lt rfl rfl).asB (c := decide (z0 < 1)) (rfl)) rfl <| L.v (R1.pickF rfl rfl) rfl <| L.v (R1.move rfl) rfl ?_
   cases hgd20 : decide (z0 < 1)
   ·
    simp only [bq] at hgd20
    refine L.on rfl rfl rfl (R1.move rfl) rfl <| L.on rfl rfl rfl ((R1.gt rfl rfl).asB (c := decide (8 < z0)) (rfl)) rfl <| L.v (R1.pickF rfl rfl) rfl <| L.nil <| X.seq <| W.cond rfl ?_ ?_
    ·
     intro hc23
     simp only [bq] at hc23
     refine W.seq <| W.region <| L.v (R1.assign rfl) rfl <| L.nil <| X.seq <| W.ret <| X.thenRet <| X.result1 rfl (.tmp rfl .nil) ?_
     exact ⟨rfl, hm0⟩
    ·
     intro hc23
     simp only [bq] at hc23
     have hsm := sm150 (by simpa using hgd11)
     have hsc := sm150c (c := c) (by simpa using hgd16)
     obtain ⟨N, rfl⟩ : ∃ N : Nat, z0 = (N : Int) := ⟨z0.toNat, by omega⟩
     have hN : heldG (N : Int) = N := heldG_eq (by omega)
     have oks := oks12 (z0 := (N : Int)) hsm (by omega)
     have oks2 := oks_more (z0 := (N : Int)) hsm hsc (by omega)
     refine W.skip <| X.seq <| W.seq <| W.seq <| W.region <| L.v (R1.assign rfl) rfl <| L.nil <| X.seq <| W.block <| W.loop (ι := Nat) (fun i => [(0, .slice TL cs.length tL), (2, .int .i64 (N : Int)), (4, .pointer (some ⟨g4, 0, none⟩)), (7, .int .i64 (i : Int))]) (fun i w_ => Lay rdC [g4] w_ (.slice TL cs.length tL) cs ∧ Lay rdT [g4] w_ (.slice T9 c.ts.length t9) c.ts ∧ U32 [g4] w_ (.slice A9 c.k.n.length c9) c.k.n ∧ U32 [g4] w_ (.slice B9 c.k.d.length e9) c.k.d ∧ Blk w_ g4 29 #[.int .i64 c.st, .slice T9 c.ts.length t9, .bool c.k.s, .slice A9 c.k.n.length c9, .slice B9 c.k.d.length e9] ∧ w.heap.size ≤ g4 ∧ Bd [g4] w_ ∧ Mod [] w w_ ∧ i ≤ cs.length) (fun i => cs.length - i) 0 ?_ ?_ ?_
     · exact ⟨rfl, rfl, rfl, rfl, trivial⟩
     ·
      exact ⟨hL.sub (by intro b hb; first | exact hb | (simp only [mq] at hb ⊢; grind)), ht.sub (by intro b hb; first | exact hb | (simp only [mq] at hb ⊢; grind)), h.sub (by intro b hb; first | exact hb | (simp only [mq] at hb ⊢; grind)), k.sub (by intro b hb; first | exact hb | (simp only [mq] at hb ⊢; grind)), hb4, hge_g4, hbd.sub (by intro b hb; first | exact hb | (simp only [mq] at hb ⊢; grind)), hm0, Nat.zero_le _⟩
     ·
      rintro i w5 ⟨hL, ht, h, k, hb4, hge_g4, hbd, hm0, hi⟩
      refine W.seq <| W.seq <| W.region <| L.v (R1.move rfl) rfl <| L.v (R1.move rfl) rfl <| L.v (R1.lenLay rfl hL tyS22) rfl <| L.v (R1.lt rfl rfl) rfl <| L.nil <| X.seq <| W.cond rfl ?_ ?_
      ·
       intro hc27
       try simp only [bq, ne_eq] at hc27
       refine W.skip <| X.seq <| W.seq <| W.block <| W.seq <| W.region <| L.v (R1.move rfl) rfl <| L.v (R1.move rfl) rfl <| L.v (R1.atLay (j := i) rfl rfl hL tyS22 rfl (by omega)) rfl ?_
       obtain ⟨z33, cs33, hz33, hE33, vt33, ds33, rfl, ht33, vn33, vd33, rfl, hn33, hd33⟩ := Lay.elemQ hL (j := i) (by omega)
       obtain ⟨T33, t33, rfl⟩ := ht33.form
       obtain ⟨A33, c33, rfl⟩ := hn33.form
       obtain ⟨B33, e33, rfl⟩ := hd33.form
       refine L.v (R1.loadE rfl hE33 tyG29) rfl <| L.v (R1.move rfl) rfl <| L.call rfl (c_ref8_Is ht33 hn33 hd33 (n := (N : Int)) (by omega) hbd ((hsm _ (List.mem_of_getElem? hz33)).mono (by decide))) rfl ?_
       rintro _ w6 ⟨rfl, hm6⟩
       replace hL := hL.gr hm6
       replace ht := ht.gr hm6
       replace h := h.gr hm6
       replace k := k.gr hm6
       replace hb4 := Blk.gr hb4 hm6
       replace hbd := hbd.gr hm6
       replace hm0 := hm0.trans hm6
       replace ht33 := ht33.gr hm6
       replace hn33 := hn33.gr hm6
       replace hd33 := hd33.gr hm6
       clear hm6
       refine L.v (R1.move rfl) rfl ?_
       cases hgd36 : (isC z33 (N : Int))
       ·
        try simp only [bq, ne_eq] at hgd36
        refine L.off rfl rfl rfl rfl rfl <| L.off rfl rfl rfl rfl rfl <| L.off rfl rfl rfl rfl rfl <| L.off rfl rfl rfl rfl rfl <| L.off rfl rfl rfl rfl rfl <| L.off rfl rfl rfl rfl rfl <| L.off rfl rfl rfl rfl rfl <| L.off rfl rfl rfl rfl rfl <| L.v (R1.pickF rfl rfl) rfl <| L.nil <| X.seq ?_
        refine W.condF rfl <| W.skip <| X.blockEnd <| X.seq <| W.region <| L.v (R1.move rfl) rfl <| L.v (R1.addI (b := 1) rfl rfl (by omega)) rfl <| L.v (R1.assign rfl) rfl <| L.nil <| X.next (i + 1) ?_ ?_ ?_
        · exact ⟨rfl, rfl, rfl, rfl, trivial⟩
        ·
         exact ⟨hL.sub (by intro b hb; first | exact hb | (simp only [mq] at hb ⊢; grind)), ht.sub (by intro b hb; first | exact hb | (simp only [mq] at hb ⊢; grind)), h.sub (by intro b hb; first | exact hb | (simp only [mq] at hb ⊢; grind)), k.sub (by intro b hb; first | exact hb | (simp only [mq] at hb ⊢; grind)), hb4, hge_g4, hbd.sub (by intro b hb; first | exact hb | (simp only [mq] at hb ⊢; grind)), hm0, by omega⟩
        · first | omega | (dsimp only; omega)
       ·
        try simp only [bq, ne_eq] at hgd36
        refine L.on rfl rfl rfl (R1.move rfl) rfl <| L.on rfl rfl rfl (R1.move rfl) rfl <| L.on rfl rfl rfl (R1.move rfl) rfl <| L.on rfl rfl rfl (R1.atLay (j := i) rfl rfl hL tyS22 rfl (by omega)) rfl ?_
        obtain ⟨z41, cs41, hz41, hE41, vt41, ds41, rfl, ht41, vn41, vd41, rfl, hn41, hd41⟩ := Lay.elemQ hL (j := i) (by omega)
        obtain ⟨T41, t41, rfl⟩ := ht41.form
        obtain ⟨A41, c41, rfl⟩ := hn41.form
        obtain ⟨B41, e41, rfl⟩ := hd41.form
        obtain rfl : z33 = z41 := by have h9 := hz41; rw [hz33] at h9; injection h9
        refine L.on rfl rfl rfl (R1.loadE rfl hE41 tyG29) rfl <| L.on rfl rfl rfl (R1.move rfl) rfl <| L.callOn rfl rfl rfl rfl (c_Implies hL hbd oks ht41 hn41 hd41 ((hsm _ (List.mem_of_getElem? hz33)).mono (by decide)) (hv150 (hsm _ (List.mem_of_getElem? hz33)))) rfl ?_
        rintro _ w7 ⟨rs43, ok43, hP43, rfl, hm7⟩
        replace hL := hL.gr hm7
        replace ht := ht.gr hm7
        replace h := h.gr hm7
        replace k := k.gr hm7
        replace hb4 := Blk.gr hb4 hm7
        replace hbd := hbd.gr hm7
        replace hm0 := hm0.trans hm7
        replace ht33 := ht33.gr hm7
        replace hn33 := hn33.gr hm7
        replace hd33 := hd33.gr hm7
        replace ht41 := ht41.gr hm7
        replace hn41 := hn41.gr hm7
        replace hd41 := hd41.gr hm7
        clear hm7
        rw [show impT (N : Int) rs43 ok43 z33 = true from (P_imp hP43).2 (.inr ⟨by rw [hN]; exact hgd36, .mem (vecs_mem.2 ⟨z33, List.mem_of_getElem? hz33, by rw [hN]; exact hgd36, rfl⟩)⟩)]
        refine L.on rfl rfl rfl ((R1.not rfl).asB (c := false) rfl) rfl <| L.v (R1.pickT rfl rfl) rfl <| L.nil <| X.seq <| W.condF rfl <| W.skip <| X.blockEnd <| X.seq <| W.region <| L.v (R1.move rfl) rfl <| L.v (R1.addI (b := 1) rfl rfl (by omega)) rfl ?_
        refine L.v (R1.assign rfl) rfl <| L.nil <| X.next (i + 1) ?_ ?_ ?_
        · exact ⟨rfl, rfl, rfl, rfl, trivial⟩
        ·
         exact ⟨hL.sub (by intro b hb; first | exact hb | (simp only [mq] at hb ⊢; grind)), ht.sub (by intro b hb; first | exact hb | (simp only [mq] at hb ⊢; grind)), h.sub (by intro b hb; first | exact hb | (simp only [mq] at hb ⊢; grind)), k.sub (by intro b hb; first | exact hb | (simp only [mq] at hb ⊢; grind)), hb4, hge_g4, hbd.sub (by intro b hb; first | exact hb | (simp only [mq] at hb ⊢; grind)), hm0, by omega⟩
        · first | omega | (dsimp only; omega)
      ·
       intro hc27
       try simp only [bq, ne_eq] at hc27
       obtain rfl : i = cs.length := by omega
       refine W.exit <| X.thenExit <| X.nextExit <| X.here <| X.seq <| W.seq <| W.cut (ι := Value) (fun vB => [(0, .slice TL cs.length tL), (2, .int .i64 (N : Int)), (4, .pointer (some ⟨g4, 0, none⟩)), (8, vB)]) (fun vB w_ => Lay rdC [] w_ (.slice TL cs.length tL) cs ∧ Lay rdT [] w_ (.slice T9 c.ts.length t9) c.ts ∧ U32 [] w_ (.slice A9 c.k.n.length c9) c.k.n ∧ U32 [] w_ (.slice B9 c.k.d.length e9) c.k.d ∧ Lay rdC [] w_ vB (cs ++ [c]) ∧ Blk w_ g4 29 #[.int .i64 c.st, .slice T9 c.ts.length t9, .bool c.k.s, .slice A9 c.k.n.length c9, .slice B9 c.k.d.length e9] ∧ Bd [] w_ ∧ Mod [] w w_) ?_ ?_
       ·
        refine W.drawW (T := [5, 6]) rfl (by decide +kernel) (NoHang.join (NoHang.then NoHang.post)) (fun w8 hm8 => ?_)
        replace hL := hL.gr hm8
        replace ht := ht.gr hm8
        replace h := h.gr hm8
        replace k := k.gr hm8
        replace hb4 := Blk.gr hb4 hm8
        replace hbd := hbd.gr hm8
        replace hm0 := hm0.trans hm8
        have hS1 : Mod [] w8 w8 := Mod.refl _ _
        clear hm8
        have hb4_s := hb4
        refine D.take 1 rfl (by decide +kernel) (fun w_ hS => (R1.move rfl)) hS1 rfl <| D.take 3 rfl (by decide +kernel) (fun w_ hS => (R1.loadBox rfl (Blk.gr hb4_s hS) tyG29)) hS1 rfl <| D.many (rs := [0, 4]) (by decide +kernel) rfl ?_
        intro i_ hi_
        simp only [List.mem_cons, List.not_mem_nil, or_false] at hi_
        rcases hi_ with rfl | rfl
        ·
         refine ⟨_, rfl, fun hX => ?_⟩
         refine L.buildEmpty tyS22 rfl ?_
         intro g46 w9 hN46
         have hgs_g46 := New.ge hN46 hS1.size
         replace hS1 := hS1.trans hN46.mod
         have ho : World.ownsRow w9 w.heap.size 29 5 (.slice (some ⟨g46, 0, none⟩) 0 0) 0 [] := ⟨rfl, .inr ⟨g46, 0, #[], rfl, New.ge hN46 hm0.size, hN46.blk, Nat.le_refl _, by decide, rfl, rfl⟩⟩
         replace hL := hL.new hN46
         replace ht := ht.new hN46
         replace h := h.new hN46
         replace k := k.new hN46
         have hno_ho_g4 : (Value.slice (some ⟨g46, 0, none⟩) 0 0).ownBlock ≠ some g4 := own_ne_new' (hb4.ne_ hN46)
         replace hb4 := Blk.gr hb4 hN46.mod
         replace hbd := hbd.new hN46
         replace hm0 := hm0.trans (hN46.mod.mono (by simp))
         clear hN46
         obtain ⟨v46, hv_v46⟩ : ∃ v, v = Value.slice (some ⟨g46, 0, none⟩) 0 0 := ⟨_, rfl⟩
         have hol_v46 : ownL v46 = [g46] := by rw [hv_v46]; rfl
         have hgs_v46 : ∀ g, v46.ownBlock = some g → _ ≤ g := fun g h9 => by rw [hv_v46] at h9; simp only [Value.ownBlock, Option.some.injEq] at h9; subst h9; exact hgs_g46
         rw [← hv_v46] at ho ⊢
         replace hL := hL.sub (of_cons hol_v46)
         replace ht := ht.sub (of_cons hol_v46)
         replace h := h.sub (of_cons hol_v46)
         replace k := k.sub (of_cons hol_v46)
         rw [← hv_v46] at hno_ho_g4
         replace hbd := hbd.sub (of_cons hol_v46)
         clear hv_v46 hol_v46
         refine L.nil (hX _ _ ⟨.inr hS1, ?_⟩)
         refine D.many (rs := [2, 4]) (by decide +kernel) rfl ?_
         intro i_ hi_
         simp only [List.mem_cons, List.not_mem_nil, or_false] at hi_
         rcases hi_ with rfl | rfl
         ·
          refine ⟨_, rfl, fun hX => ?_⟩
          have hL_ := hL
          obtain ⟨dss, hs2, hl2⟩ := hL_
          refine L.append rfl rfl ho hs2 (hl2.ones) tyS22 tyZ29 (by omega) (by unfold maxLen; omega) hm0.size rfl ?_
          intro v48 w10 ho48' hG48
          replace hL := hL.grew2 hG48 (by first | exact mem_own | (intro b hb; simp [hb]))
          replace ht := ht.grew2 hG48 (by first | exact mem_own | (intro b hb; simp [hb]))
          replace h := h.grew2 hG48 (by first | exact mem_own | (intro b hb; simp [hb]))
          replace k := k.grew2 hG48 (by first | exact mem_own | (intro b hb; simp [hb]))
          have hnn_g4 := hG48.ne hno_ho_g4 hb4
          replace hb4 := Blk.grew hb4 hG48 hno_ho_g4
          replace hno_ho_g4 := hnn_g4
          replace hbd := hbd.grew2 hG48 (by first | exact mem_own | (intro b hb; simp [hb]))
          replace hm0 := Mod.oldOwn hm0 hG48.mod ho
          replace hl2 := hl2.grew2 hG48 (by first | exact mem_own | (intro b hb; simp [hb]))
          replace ho := ho48'; clear ho48'
          replace hS1 := hS1.grew hG48 (hgs_v46)
          clear hG48
          refine L.nil (hX _ _ ⟨.inr hS1, ?_⟩)
          refine D.one 4 rfl (by decide +kernel) (fun hX => ?_)
          refine L.buildSlice (cells := [.int .i64 c.st, .slice T9 c.ts.length t9, .bool c.k.s, .slice A9 c.k.n.length c9, .slice B9 c.k.d.length e9]) rfl tyS22 tyZ29 (fillK1 _ _ _ _ _ _ _ _ _ _ _) (by decide) (by decide) rfl ?_
          intro g50 w11 hN50
          have hgs_g50 := New.ge hN50 hS1.size
          replace hS1 := hS1.trans hN50.mod
          replace hL := hL.new hN50
          replace ht := ht.new hN50
          replace h := h.new hN50
          replace k := k.new hN50
          have hne_g4_g50 := hb4.ne_ hN50
          replace hb4 := Blk.gr hb4 hN50.mod
          replace hbd := hbd.new hN50
          have hge_g50 := New.ge hN50 hm0.size
          replace hm0 := hm0.trans (hN50.mod.mono (by simp))
          have hno_ho_g50 := own_ne_new ho hN50
          replace ho := own_gr ho hN50.mod (by simp)
          replace hl2 := hl2.new hN50
          have hb50 := hN50.blk
          clear hN50
          refine L.nil (hX _ _ ⟨.inr hS1, ?_⟩)
          have hs5 : Sl [] w11 5 (.slice (some ⟨g50, 0, none⟩) 1 1) 1 [.int .i64 c.st, .slice T9 c.ts.length t9, .bool c.k.s, .slice A9 c.k.n.length c9, .slice B9 c.k.d.length e9] := Sl.of_blk hb50 0 (Nat.le_refl _) (by decide) rfl (by simp) (fun j hj => by simp)
          refine D.one 5 rfl (by decide +kernel) (fun hX => ?_)
          refine L.append rfl rfl ho hs5 (by intro c hc; simp only [List.mem_cons, List.not_mem_nil, or_false] at hc; rcases hc with rfl | rfl | rfl | rfl | rfl <;> rfl) tyS22 tyZ29 (by omega) (by unfold maxLen; omega) hm0.size rfl ?_
          intro v51 w12 ho51' hG51
          replace hL := hL.grew2 hG51 (by first | exact mem_own | (intro b hb; simp [hb]))
          replace ht := ht.grew2 hG51 (by first | exact mem_own | (intro b hb; simp [hb]))
          replace h := h.grew2 hG51 (by first | exact mem_own | (intro b hb; simp [hb]))
          replace k := k.grew2 hG51 (by first | exact mem_own | (intro b hb; simp [hb]))
          have hnn_g4 := hG51.ne hno_ho_g4 hb4
          replace hb4 := Blk.grew hb4 hG51 hno_ho_g4
          replace hno_ho_g4 := hnn_g4
          replace hbd := hbd.grew2 hG51 (by first | exact mem_own | (intro b hb; simp [hb]))
          replace hm0 := Mod.oldOwn hm0 hG51.mod ho
          replace hl2 := hl2.grew2 hG51 (by first | exact mem_own | (intro b hb; simp [hb]))
          have hnn_g50 := hG51.ne hno_ho_g50 hb50
          replace hb50 := Blk.grew hb50 hG51 hno_ho_g50
          replace hno_ho_g50 := hnn_g50
          replace ho := ho51'; clear ho51'
          clear hG51
          refine L.nil (hX _ _ ⟨.inl rfl, ?_⟩)
          refine D.one 6 rfl (by decide +kernel) (fun hX => ?_)
          refine L.v (R1.assign rfl) rfl (L.nil (hX _ _ ⟨.inl rfl, ?_⟩))
          refine D.done (by decide +kernel) ?_ _
          refine X.join v51 ?_ ?_
          · exact ⟨rfl, rfl, rfl, rfl, trivial⟩
          ·
           have hB : Lay rdC [] w12 v51 (cs ++ [c]) := Lay.of_own (css := dss ++ [[.int .i64 c.st, .slice T9 c.ts.length t9, .bool c.k.s, .slice A9 c.k.n.length c9, .slice B9 c.k.d.length e9]]) (own_congr ho (by simp) (by simp)) ((hl2.sub (fun b hb => by cases hb)).append (LayL.one _ c (rdC_mk (ht.sub (fun b hb => by cases hb)) (h.sub (fun b hb => by cases hb)) (k.sub (fun b hb => by cases hb))))) (by simp)
           exact ⟨hL.sub (fun b hb => by cases hb), ht.sub (fun b hb => by cases hb), h.sub (fun b hb => by cases hb), k.sub (fun b hb => by cases hb), hB, hb4, hbd.sub (fun b hb => by cases hb), hm0⟩
         ·
          refine ⟨_, rfl, fun hX => ?_⟩
          refine L.buildSlice (cells := [.int .i64 c.st, .slice T9 c.ts.length t9, .bool c.k.s, .slice A9 c.k.n.length c9, .slice B9 c.k.d.length e9]) rfl tyS22 tyZ29 (fillK1 _ _ _ _ _ _ _ _ _ _ _) (by decide) (by decide) rfl ?_
          intro g50 w13 hN50
          have hgs_g50 := New.ge hN50 hS1.size
          replace hS1 := hS1.trans hN50.mod
          replace hL := hL.new hN50
          replace ht := ht.new hN50
          replace h := h.new hN50
          replace k := k.new hN50
          have hne_g4_g50 := hb4.ne_ hN50
          replace hb4 := Blk.gr hb4 hN50.mod
          replace hbd := hbd.new hN50
          have hge_g50 := New.ge hN50 hm0.size
          replace hm0 := hm0.trans (hN50.mod.mono (by simp))
          have hno_ho_g50 := own_ne_new ho hN50
          replace ho := own_gr ho hN50.mod (by simp)
          have hb50 := hN50.blk
          clear hN50
          refine L.nil (hX _ _ ⟨.inr hS1, ?_⟩)
          have hL_ := hL
          obtain ⟨dss, hs2, hl2⟩ := hL_
          refine D.one 2 rfl (by decide +kernel) (fun hX => ?_)
          refine L.append rfl rfl ho hs2 (hl2.ones) tyS22 tyZ29 (by omega) (by unfold maxLen; omega) hm0.size rfl ?_
          intro v48 w14 ho48' hG48
          replace hL := hL.grew2 hG48 (by first | exact mem_own | (intro b hb; simp [hb]))
          replace ht := ht.grew2 hG48 (by first | exact mem_own | (intro b hb; simp [hb]))
          replace h := h.grew2 hG48 (by first | exact mem_own | (intro b hb; simp [hb]))
          replace k := k.grew2 hG48 (by first | exact mem_own | (intro b hb; simp [hb]))
          have hnn_g4 := hG48.ne hno_ho_g4 hb4
          replace hb4 := Blk.grew hb4 hG48 hno_ho_g4
          replace hno_ho_g4 := hnn_g4
          replace hbd := hbd.grew2 hG48 (by first | exact mem_own | (intro b hb; simp [hb]))
          replace hm0 := Mod.oldOwn hm0 hG48.mod ho
          have hnn_g50 := hG48.ne hno_ho_g50 hb50
          replace hb50 := Blk.grew hb50 hG48 hno_ho_g50
          replace hno_ho_g50 := hnn_g50
          replace hl2 := hl2.grew2 hG48 (by first | exact mem_own | (intro b hb; simp [hb]))
          replace ho := ho48'; clear ho48'
          replace hS1 := hS1.grew hG48 (hgs_v46)
          clear hG48
          refine L.nil (hX _ _ ⟨.inr hS1, ?_⟩)
          have hs5 : Sl [] w14 5 (.slice (some ⟨g50, 0, none⟩) 1 1) 1 [.int .i64 c.st, .slice T9 c.ts.length t9, .bool c.k.s, .slice A9 c.k.n.length c9, .slice B9 c.k.d.length e9] := Sl.of_blk hb50 0 (Nat.le_refl _) (by decide) rfl (by simp) (fun j hj => by simp)
          refine D.one 5 rfl (by decide +kernel) (fun hX => ?_)
          refine L.append rfl rfl ho hs5 (by intro c hc; simp only [List.mem_cons, List.not_mem_nil, or_false] at hc; rcases hc with rfl | rfl | rfl | rfl | rfl <;> rfl) tyS22 tyZ29 (by omega) (by unfold maxLen; omega) hm0.size rfl ?_
          intro v51 w15 ho51' hG51
          replace hL := hL.grew2 hG51 (by first | exact mem_own | (intro b hb; simp [hb]))
          replace ht := ht.grew2 hG51 (by first | exact mem_own | (intro b hb; simp [hb]))
          replace h := h.grew2 hG51 (by first | exact mem_own | (intro b hb; simp [hb]))
          replace k := k.grew2 hG51 (by first | exact mem_own | (intro b hb; simp [hb]))
          have hnn_g4 := hG51.ne hno_ho_g4 hb4
          replace hb4 := Blk.grew hb4 hG51 hno_ho_g4
          replace hno_ho_g4 := hnn_g4
          replace hbd := hbd.grew2 hG51 (by first | exact mem_own | (intro b hb; simp [hb]))
          replace hm0 := Mod.oldOwn hm0 hG51.mod ho
          have hnn_g50 := hG51.ne hno_ho_g50 hb50
          replace hb50 := Blk.grew hb50 hG51 hno_ho_g50
          replace hno_ho_g50 := hnn_g50
          replace hl2 := hl2.grew2 hG51 (by first | exact mem_own | (intro b hb; simp [hb]))
          replace ho := ho51'; clear ho51'
          clear hG51
          refine L.nil (hX _ _ ⟨.inl rfl, ?_⟩)
          refine D.one 6 rfl (by decide +kernel) (fun hX => ?_)
          refine L.v (R1.assign rfl) rfl (L.nil (hX _ _ ⟨.inl rfl, ?_⟩))
          refine D.done (by decide +kernel) ?_ _
          refine X.join v51 ?_ ?_
          · exact ⟨rfl, rfl, rfl, rfl, trivial⟩
          ·
           have hB : Lay rdC [] w15 v51 (cs ++ [c]) := Lay.of_own (css := dss ++ [[.int .i64 c.st, .slice T9 c.ts.length t9, .bool c.k.s, .slice A9 c.k.n.length c9, .slice B9 c.k.d.length e9]]) (own_congr ho (by simp) (by simp)) ((hl2.sub (fun b hb => by cases hb)).append (LayL.one _ c (rdC_mk (ht.sub (fun b hb => by cases hb)) (h.sub (fun b hb => by cases hb)) (k.sub (fun b hb => by cases hb))))) (by simp)
           exact ⟨hL.sub (fun b hb => by cases hb), ht.sub (fun b hb => by cases hb), h.sub (fun b hb => by cases hb), k.sub (fun b hb => by cases hb), hB, hb4, hbd.sub (fun b hb => by cases hb), hm0⟩
        ·
         refine ⟨_, rfl, fun hX => ?_⟩
         refine L.buildSlice (cells := [.int .i64 c.st, .slice T9 c.ts.length t9, .bool c.k.s, .slice A9 c.k.n.length c9, .slice B9 c.k.d.length e9]) rfl tyS22 tyZ29 (fillK1 _ _ _ _ _ _ _ _ _ _ _) (by decide) (by decide) rfl ?_
         intro g50 w16 hN50
         have hgs_g50 := New.ge hN50 hS1.size
         replace hS1 := hS1.trans hN50.mod
         replace hL := hL.new hN50
         replace ht := ht.new hN50
         replace h := h.new hN50
         replace k := k.new hN50
         have hne_g4_g50 := hb4.ne_ hN50
         replace hb4 := Blk.gr hb4 hN50.mod
         replace hbd := hbd.new hN50
         have hge_g50 := New.ge hN50 hm0.size
         replace hm0 := hm0.trans (hN50.mod.mono (by simp))
         have hb50 := hN50.blk
         clear hN50
         refine L.nil (hX _ _ ⟨.inr hS1, ?_⟩)
         refine D.one 0 rfl (by decide +kernel) (fun hX => ?_)
         refine L.buildEmpty tyS22 rfl ?_
         intro g46 w17 hN46
         have hgs_g46 := New.ge hN46 hS1.size
         replace hS1 := hS1.trans hN46.mod
         have ho : World.ownsRow w17 w.heap.size 29 5 (.slice (some ⟨g46, 0, none⟩) 0 0) 0 [] := ⟨rfl, .inr ⟨g46, 0, #[], rfl, New.ge hN46 hm0.size, hN46.blk, Nat.le_refl _, by decide, rfl, rfl⟩⟩
         replace hL := hL.new hN46
         replace ht := ht.new hN46
         replace h := h.new hN46
         replace k := k.new hN46
         have hno_ho_g4 : (Value.slice (some ⟨g46, 0, none⟩) 0 0).ownBlock ≠ some g4 := own_ne_new' (hb4.ne_ hN46)
         replace hb4 := Blk.gr hb4 hN46.mod
         replace hbd := hbd.new hN46
         replace hm0 := hm0.trans (hN46.mod.mono (by simp))
         have hno_ho_g50 : (Value.slice (some ⟨g46, 0, none⟩) 0 0).ownBlock ≠ some g50 := own_ne_new' (hb50.ne_ hN46)
         replace hb50 := Blk.gr hb50 hN46.mod
         clear hN46
         obtain ⟨v46, hv_v46⟩ : ∃ v, v = Value.slice (some ⟨g46, 0, none⟩) 0 0 := ⟨_, rfl⟩
         have hol_v46 : ownL v46 = [g46] := by rw [hv_v46]; rfl
         have hgs_v46 : ∀ g, v46.ownBlock = some g → _ ≤ g := fun g h9 => by rw [hv_v46] at h9; simp only [Value.ownBlock, Option.some.injEq] at h9; subst h9; exact hgs_g46
         rw [← hv_v46] at ho ⊢
         replace hL := hL.sub (of_cons hol_v46)
         replace ht := ht.sub (of_cons hol_v46)
         replace h := h.sub (of_cons hol_v46)
         replace k := k.sub (of_cons hol_v46)
         rw [← hv_v46] at hno_ho_g4
         replace hbd := hbd.sub (of_cons hol_v46)
         rw [← hv_v46] at hno_ho_g50
         clear hv_v46 hol_v46
         refine L.nil (hX _ _ ⟨.inr hS1, ?_⟩)
         have hL_ := hL
         obtain ⟨dss, hs2, hl2⟩ := hL_
         refine D.one 2 rfl (by decide +kernel) (fun hX => ?_)
         refine L.append rfl rfl ho hs2 (hl2.ones) tyS22 tyZ29 (by omega) (by unfold maxLen; omega) hm0.size rfl ?_
         intro v48 w18 ho48' hG48
         replace hL := hL.grew2 hG48 (by first | exact mem_own | (intro b hb; simp [hb]))
         replace ht := ht.grew2 hG48 (by first | exact mem_own | (intro b hb; simp [hb]))
         replace h := h.grew2 hG48 (by first | exact mem_own | (intro b hb; simp [hb]))
         replace k := k.grew2 hG48 (by first | exact mem_own | (intro b hb; simp [hb]))
         have hnn_g4 := hG48.ne hno_ho_g4 hb4
         replace hb4 := Blk.grew hb4 hG48 hno_ho_g4
         replace hno_ho_g4 := hnn_g4
         replace hbd := hbd.grew2 hG48 (by first | exact mem_own | (intro b hb; simp [hb]))
         replace hm0 := Mod.oldOwn hm0 hG48.mod ho
         have hnn_g50 := hG48.ne hno_ho_g50 hb50
         replace hb50 := Blk.grew hb50 hG48 hno_ho_g50
         replace hno_ho_g50 := hnn_g50
         replace hl2 := hl2.grew2 hG48 (by first | exact mem_own | (intro b hb; simp [hb]))
         replace ho := ho48'; clear ho48'
         replace hS1 := hS1.grew hG48 (hgs_v46)
         clear hG48
         refine L.nil (hX _ _ ⟨.inr hS1, ?_⟩)
         have hs5 : Sl [] w18 5 (.slice (some ⟨g50, 0, none⟩) 1 1) 1 [.int .i64 c.st, .slice T9 c.ts.length t9, .bool c.k.s, .slice A9 c.k.n.length c9, .slice B9 c.k.d.length e9] := Sl.of_blk hb50 0 (Nat.le_refl _) (by decide) rfl (by simp) (fun j hj => by simp)
         refine D.one 5 rfl (by decide +kernel) (fun hX => ?_)
         refine L.append rfl rfl ho hs5 (by intro c hc; simp only [List.mem_cons, List.not_mem_nil, or_false] at hc; rcases hc with rfl | rfl | rfl | rfl | rfl <;> rfl) tyS22 tyZ29 (by omega) (by unfold maxLen; omega) hm0.size rfl ?_
         intro v51 w19 ho51' hG51
         replace hL := hL.grew2 hG51 (by first | exact mem_own | (intro b hb; simp [hb]))
         replace ht := ht.grew2 hG51 (by first | exact mem_own | (intro b hb; simp [hb]))
         replace h := h.grew2 hG51 (by first | exact mem_own | (intro b hb; simp [hb]))
         replace k := k.grew2 hG51 (by first | exact mem_own | (intro b hb; simp [hb]))
         have hnn_g4 := hG51.ne hno_ho_g4 hb4
         replace hb4 := Blk.grew hb4 hG51 hno_ho_g4
         replace hno_ho_g4 := hnn_g4
         replace hbd := hbd.grew2 hG51 (by first | exact mem_own | (intro b hb; simp [hb]))
         replace hm0 := Mod.oldOwn hm0 hG51.mod ho
         have hnn_g50 := hG51.ne hno_ho_g50 hb50
         replace hb50 := Blk.grew hb50 hG51 hno_ho_g50
         replace hno_ho_g50 := hnn_g50
         replace hl2 := hl2.grew2 hG51 (by first | exact mem_own | (intro b hb; simp [hb]))
         replace ho := ho51'; clear ho51'
         clear hG51
         refine L.nil (hX _ _ ⟨.inl rfl, ?_⟩)
         refine D.one 6 rfl (by decide +kernel) (fun hX => ?_)
         refine L.v (R1.assign rfl) rfl (L.nil (hX _ _ ⟨.inl rfl, ?_⟩))
         refine D.done (by decide +kernel) ?_ _
         refine X.join v51 ?_ ?_
         · exact ⟨rfl, rfl, rfl, rfl, trivial⟩
         ·
          have hB : Lay rdC [] w19 v51 (cs ++ [c]) := Lay.of_own (css := dss ++ [[.int .i64 c.st, .slice T9 c.ts.length t9, .bool c.k.s, .slice A9 c.k.n.length c9, .slice B9 c.k.d.length e9]]) (own_congr ho (by simp) (by simp)) ((hl2.sub (fun b hb => by cases hb)).append (LayL.one _ c (rdC_mk (ht.sub (fun b hb => by cases hb)) (h.sub (fun b hb => by cases hb)) (k.sub (fun b hb => by cases hb))))) (by simp)
          exact ⟨hL.sub (fun b hb => by cases hb), ht.sub (fun b hb => by cases hb), h.sub (fun b hb => by cases hb), k.sub (fun b hb => by cases hb), hB, hb4, hbd.sub (fun b hb => by cases hb), hm0⟩
       ·
        rintro vB wj ⟨hL, ht, h, k, hB, hb4, hbd, hm0⟩
        refine X.seq <| W.seq <| W.seq <| W.region <| L.v (R1.move rfl) rfl <| L.v (R1.loadBox rfl hb4 tyG29) rfl <| L.v (R1.move rfl) rfl <| L.call rfl (c_Implies hL hbd oks ht h k (hsc.mono (by decide)) (hv150 hsc)) rfl ?_
        rintro _ w20 ⟨rs55, ok55, hP55, rfl, hm20⟩
        replace hL := hL.gr hm20
        replace ht := ht.gr hm20
        replace h := h.gr hm20
        replace k := k.gr hm20
        replace hB := hB.gr hm20
        replace hb4 := Blk.gr hb4 hm20
        replace hbd := hbd.gr hm20
        replace hm0 := hm0.trans hm20
        clear hm20
        refine L.v (R1.move rfl) rfl ?_
        cases hgd56 : (impT (N : Int) rs55 ok55 c)
        ·
         try simp only [bq, ne_eq] at hgd56
         refine L.off rfl rfl rfl rfl rfl <| L.off rfl rfl rfl rfl rfl <| L.off rfl rfl rfl rfl rfl <| L.v (R1.pickF rfl rfl) rfl <| L.nil <| X.seq <| W.condF rfl <| W.skip <| X.seq <| W.seq <| W.region ?_
         refine L.v (R1.move rfl) rfl <| L.v (R1.move rfl) rfl <| L.call rfl (c_Rank hB hbd oks2) rfl ?_
         rintro _ w21 ⟨rs78, ok78, ⟨hP78, hrk78⟩, rfl, hm21⟩
         replace hL := hL.gr hm21
         replace ht := ht.gr hm21
         replace h := h.gr hm21
         replace k := k.gr hm21
         replace hB := hB.gr hm21
         replace hb4 := Blk.gr hb4 hm21
         replace hbd := hbd.gr hm21
         replace hm0 := hm0.trans hm21
         clear hm21
         refine L.v (R1.move rfl) rfl <| L.v (R1.move rfl) rfl <| L.call rfl (c_Rank hL hbd oks) rfl ?_
         rintro _ w22 ⟨rs81, ok81, ⟨hP81, hrk81⟩, rfl, hm22⟩
         replace hL := hL.gr hm22
         replace ht := ht.gr hm22
         replace h := h.gr hm22
         replace k := k.gr hm22
         replace hB := hB.gr hm22
         replace hb4 := Blk.gr hb4 hm22
         replace hbd := hbd.gr hm22
         replace hm0 := hm0.trans hm22
         clear hm22
         refine L.v ((R1.ge rfl rfl).asB (c := true) (decide_eq_true (by have h9 := PP_rank_mono hP81 hP78 sub_app; omega))) rfl <| L.v (R1.move rfl) rfl <| L.on rfl rfl rfl (R1.move rfl) rfl <| L.on rfl rfl rfl (R1.move rfl) rfl <| L.callOn rfl rfl rfl rfl (c_Consistent hB hbd oks2) rfl ?_
         rintro _ w23 ⟨rs86, ok86, hP86, rfl, hm23⟩
         replace hL := hL.gr hm23
         replace ht := ht.gr hm23
         replace h := h.gr hm23
         replace k := k.gr hm23
         replace hB := hB.gr hm23
         replace hb4 := Blk.gr hb4 hm23
         replace hbd := hbd.gr hm23
         replace hm0 := hm0.trans hm23
         clear hm23
         refine L.on rfl rfl rfl (R1.not rfl) rfl <| L.on rfl rfl rfl (R1.move rfl) rfl ?_
         cases hgd88 : (!ok86)
         ·
          try simp only [bq, ne_eq] at hgd88
          refine L.on rfl rfl rfl (R1.move rfl) rfl <| L.on rfl rfl rfl (R1.move rfl) rfl <| L.callOn rfl rfl rfl rfl (c_Consistent hL hbd oks) rfl ?_
          rintro _ w24 ⟨rs91, ok91, hP91, rfl, hm24⟩
          replace hL := hL.gr hm24
          replace ht := ht.gr hm24
          replace h := h.gr hm24
          replace k := k.gr hm24
          replace hB := hB.gr hm24
          replace hb4 := Blk.gr hb4 hm24
          replace hbd := hbd.gr hm24
          replace hm0 := hm0.trans hm24
          clear hm24
          rw [show ok91 = true from PP_ok_mono hP91 hP86 sub_app (by simpa using hgd88)]
          refine L.on rfl rfl rfl (R1.pickF rfl rfl) rfl <| L.v (R1.pickT rfl rfl) rfl <| L.v (R1.move rfl) rfl <| L.callOn rfl rfl rfl rfl (c_known10) rfl ?_
          rintro _ w25 ⟨rfl, hm25⟩
          replace hL := hL.gr hm25
          replace ht := ht.gr hm25
          replace h := h.gr hm25
          replace k := k.gr hm25
          replace hB := hB.gr hm25
          replace hb4 := Blk.gr hb4 hm25
          replace hbd := hbd.gr hm25
          replace hm0 := hm0.trans hm25
          clear hm25
          refine L.v (R1.pickT rfl rfl) rfl <| L.v (R1.assign rfl) rfl <| L.nil <| X.seq <| W.ret <| X.result1 rfl (.tmp rfl .nil) ?_
          exact ⟨rfl, hm0⟩
         ·
          try simp only [bq, ne_eq] at hgd88
          refine L.off rfl rfl rfl rfl rfl <| L.off rfl rfl rfl rfl rfl <| L.off rfl rfl rfl rfl rfl <| L.on rfl rfl rfl (R1.pickT rfl rfl) rfl <| L.v (R1.pickT rfl rfl) rfl <| L.v (R1.move rfl) rfl <| L.callOn rfl rfl rfl rfl (c_known10) rfl ?_
          rintro _ w26 ⟨rfl, hm26⟩
          replace hL := hL.gr hm26
          replace ht := ht.gr hm26
          replace h := h.gr hm26
          replace k := k.gr hm26
          replace hB := hB.gr hm26
          replace hb4 := Blk.gr hb4 hm26
          replace hbd := hbd.gr hm26
          replace hm0 := hm0.trans hm26
          clear hm26
          refine L.v (R1.pickT rfl rfl) rfl <| L.v (R1.assign rfl) rfl <| L.nil <| X.seq <| W.ret <| X.result1 rfl (.tmp rfl .nil) ?_
          exact ⟨rfl, hm0⟩
        ·
         try simp only [bq, ne_eq] at hgd56
         refine L.on rfl rfl rfl (R1.move rfl) rfl <| L.on rfl rfl rfl (R1.move rfl) rfl <| L.callOn rfl rfl rfl rfl (c_Consistent hL hbd oks) rfl ?_
         rintro _ w27 ⟨rs59, ok59, hP59, rfl, hm27⟩
         replace hL := hL.gr hm27
         replace ht := ht.gr hm27
         replace h := h.gr hm27
         replace k := k.gr hm27
         replace hB := hB.gr hm27
         replace hb4 := Blk.gr hb4 hm27
         replace hbd := hbd.gr hm27
         replace hm0 := hm0.trans hm27
         clear hm27
         refine L.v (R1.pickT rfl rfl) rfl <| L.nil <| X.seq <| W.cond rfl ?_ ?_
         ·
          intro hc60
          have hcc_ := hc60
          have hev : Eqv (vecs (heldG (N : Int)) cs) (vecs (heldG (N : Int)) (cs ++ [c])) := by have h9 := (P_imp hP55).1 hgd56; rcases h9 with h9 | h9; exact absurd (h9.symm.trans ((PP_ok hP55 hP59 (Eqv.refl _)).trans hc60)) (by decide); exact eqv_more (fun _ => h9.2)
          refine W.seq <| W.region <| L.v (R1.move rfl) rfl <| L.v (R1.move rfl) rfl <| L.call rfl (c_Rank hB hbd oks2) rfl ?_
          rintro _ w28 ⟨rs63, ok63, ⟨hP63, hrk63⟩, rfl, hm28⟩
          replace hL := hL.gr hm28
          replace ht := ht.gr hm28
          replace h := h.gr hm28
          replace k := k.gr hm28
          replace hB := hB.gr hm28
          replace hb4 := Blk.gr hb4 hm28
          replace hbd := hbd.gr hm28
          replace hm0 := hm0.trans hm28
          clear hm28
          refine L.v (R1.move rfl) rfl <| L.v (R1.move rfl) rfl <| L.call rfl (c_Rank hL hbd oks) rfl ?_
          rintro _ w29 ⟨rs66, ok66, ⟨hP66, hrk66⟩, rfl, hm29⟩
          replace hL := hL.gr hm29
          replace ht := ht.gr hm29
          replace h := h.gr hm29
          replace k := k.gr hm29
          replace hB := hB.gr hm29
          replace hb4 := Blk.gr hb4 hm29
          replace hbd := hbd.gr hm29
          replace hm0 := hm0.trans hm29
          clear hm29
          refine L.v ((R1.eq rfl rfl).asB (c := true) (decide_eq_true (by rw [PP_rank hP66 hP63 hev]))) rfl <| L.v (R1.move rfl) rfl <| L.on rfl rfl rfl (R1.move rfl) rfl <| L.on rfl rfl rfl (R1.move rfl) rfl <| L.callOn rfl rfl rfl rfl (c_Consistent hB hbd oks2) rfl ?_
          rintro _ w30 ⟨rs71, ok71, hP71, rfl, hm30⟩
          replace hL := hL.gr hm30
          replace ht := ht.gr hm30
          replace h := h.gr hm30
          replace k := k.gr hm30
          replace hB := hB.gr hm30
          replace hb4 := Blk.gr hb4 hm30
          replace hbd := hbd.gr hm30
          replace hm0 := hm0.trans hm30
          clear hm30
          rw [show ok71 = true from (PP_ok hP71 hP59 ⟨hev.2, hev.1⟩).trans hc60]
          refine L.v (R1.pickT rfl rfl) rfl <| L.v (R1.move rfl) rfl <| L.callOn rfl rfl rfl rfl (c_known10) rfl ?_
          rintro _ w31 ⟨rfl, hm31⟩
          replace hL := hL.gr hm31
          replace ht := ht.gr hm31
          replace h := h.gr hm31
          replace k := k.gr hm31
          replace hB := hB.gr hm31
          replace hb4 := Blk.gr hb4 hm31
          replace hbd := hbd.gr hm31
          replace hm0 := hm0.trans hm31
          clear hm31
          refine L.v (R1.pickT rfl rfl) rfl <| L.v (R1.assign rfl) rfl <| L.nil <| X.seq <| W.ret <| X.thenRet <| X.result1 rfl (.tmp rfl .nil) ?_
          exact ⟨rfl, hm0⟩
         ·
          intro hc60
          have hcc_ := hc60
          refine W.skip <| X.seq <| W.seq <| W.region <| L.v (R1.move rfl) rfl <| L.v (R1.move rfl) rfl <| L.call rfl (c_Rank hB hbd oks2) rfl ?_
          rintro _ w32 ⟨rs78, ok78, ⟨hP78, hrk78⟩, rfl, hm32⟩
          replace hL := hL.gr hm32
          replace ht := ht.gr hm32
          replace h := h.gr hm32
          replace k := k.gr hm32
          replace hB := hB.gr hm32
          replace hb4 := Blk.gr hb4 hm32
          replace hbd := hbd.gr hm32
          replace hm0 := hm0.trans hm32
          clear hm32
          refine L.v (R1.move rfl) rfl <| L.v (R1.move rfl) rfl <| L.call rfl (c_Rank hL hbd oks) rfl ?_
          rintro _ w33 ⟨rs81, ok81, ⟨hP81, hrk81⟩, rfl, hm33⟩
          replace hL := hL.gr hm33
          replace ht := ht.gr hm33
          replace h := h.gr hm33
          replace k := k.gr hm33
          replace hB := hB.gr hm33
          replace hb4 := Blk.gr hb4 hm33
          replace hbd := hbd.gr hm33
          replace hm0 := hm0.trans hm33
          clear hm33
          refine L.v ((R1.ge rfl rfl).asB (c := true) (decide_eq_true (by have h9 := PP_rank_mono hP81 hP78 sub_app; omega))) rfl <| L.v (R1.move rfl) rfl <| L.on rfl rfl rfl (R1.move rfl) rfl <| L.on rfl rfl rfl (R1.move rfl) rfl <| L.callOn rfl rfl rfl rfl (c_Consistent hB hbd oks2) rfl ?_
          rintro _ w34 ⟨rs86, ok86, hP86, rfl, hm34⟩
          replace hL := hL.gr hm34
          replace ht := ht.gr hm34
          replace h := h.gr hm34
          replace k := k.gr hm34
          replace hB := hB.gr hm34
          replace hb4 := Blk.gr hb4 hm34
          replace hbd := hbd.gr hm34
          replace hm0 := hm0.trans hm34
          clear hm34
          refine L.on rfl rfl rfl (R1.not rfl) rfl <| L.on rfl rfl rfl (R1.move rfl) rfl ?_
          cases hgd88 : (!ok86)
          ·
           try simp only [bq, ne_eq] at hgd88
           refine L.on rfl rfl rfl (R1.move rfl) rfl <| L.on rfl rfl rfl (R1.move rfl) rfl <| L.callOn rfl rfl rfl rfl (c_Consistent hL hbd oks) rfl ?_
           rintro _ w35 ⟨rs91, ok91, hP91, rfl, hm35⟩
           replace hL := hL.gr hm35
           replace ht := ht.gr hm35
           replace h := h.gr hm35
           replace k := k.gr hm35
           replace hB := hB.gr hm35
           replace hb4 := Blk.gr hb4 hm35
           replace hbd := hbd.gr hm35
           replace hm0 := hm0.trans hm35
           clear hm35
           rw [show ok91 = true from PP_ok_mono hP91 hP86 sub_app (by simpa using hgd88)]
           refine L.on rfl rfl rfl (R1.pickF rfl rfl) rfl <| L.v (R1.pickT rfl rfl) rfl <| L.v (R1.move rfl) rfl <| L.callOn rfl rfl rfl rfl (c_known10) rfl ?_
           rintro _ w36 ⟨rfl, hm36⟩
           replace hL := hL.gr hm36
           replace ht := ht.gr hm36
           replace h := h.gr hm36
           replace k := k.gr hm36
           replace hB := hB.gr hm36
           replace hb4 := Blk.gr hb4 hm36
           replace hbd := hbd.gr hm36
           replace hm0 := hm0.trans hm36
           clear hm36
           refine L.v (R1.pickT rfl rfl) rfl <| L.v (R1.assign rfl) rfl <| L.nil <| X.seq <| W.ret <| X.result1 rfl (.tmp rfl .nil) ?_
           exact ⟨rfl, hm0⟩
          ·
           try simp only [bq, ne_eq] at hgd88
           refine L.off rfl rfl rfl rfl rfl <| L.off rfl rfl rfl rfl rfl <| L.off rfl rfl rfl rfl rfl <| L.on rfl rfl rfl (R1.pickT rfl rfl) rfl <| L.v (R1.pickT rfl rfl) rfl <| L.v (R1.move rfl) rfl <| L.callOn rfl rfl rfl rfl (c_known10) rfl ?_
           rintro _ w37 ⟨rfl, hm37⟩
           replace hL := hL.gr hm37
           replace ht := ht.gr hm37
           replace h := h.gr hm37
           replace k := k.gr hm37
           replace hB := hB.gr hm37
           replace hb4 := Blk.gr hb4 hm37
           replace hbd := hbd.gr hm37
           replace hm0 := hm0.trans hm37
           clear hm37
           refine L.v (R1.pickT rfl rfl) rfl <| L.v (R1.assign rfl) rfl <| L.nil <| X.seq <| W.ret <| X.result1 rfl (.tmp rfl .nil) ?_
           exact ⟨rfl, hm0⟩
   ·
    simp only [bq] at hgd20
    refine L.off rfl rfl rfl rfl rfl <| L.off rfl rfl rfl rfl rfl <| L.v (R1.pickT rfl rfl) rfl <| L.nil <| X.seq <| W.condT rfl <| W.seq <| W.region <| L.v (R1.assign rfl) rfl <| L.nil <| X.seq ?_
    refine W.ret <| X.thenRet <| X.result1 rfl (.tmp rfl .nil) ?_
    exact ⟨rfl, hm0⟩
  ·
   have hcc_ := hgd16
   refine L.off rfl rfl rfl rfl rfl <| L.off rfl rfl rfl rfl rfl <| L.v (R1.pickT rfl rfl) rfl <| L.v (R1.move rfl) rfl <| L.off rfl rfl rfl rfl rfl <| L.off rfl rfl rfl rfl rfl <| L.v (R1.pickT rfl rfl) rfl <| L.nil <| X.seq <| W.condT rfl <| W.seq ?_
   refine W.region <| L.v (R1.assign rfl) rfl <| L.nil <| X.seq <| W.ret <| X.thenRet <| X.result1 rfl (.tmp rfl .nil) ?_
   exact ⟨rfl, hm0⟩
 ·
  have hcc_ := hgd11
  refine L.off rfl rfl rfl rfl rfl <| L.off rfl rfl rfl rfl rfl <| L.off rfl rfl rfl rfl rfl <| L.v (R1.pickT rfl rfl) rfl <| L.v (R1.move rfl) rfl <| L.off rfl rfl rfl rfl rfl <| L.off rfl rfl rfl rfl rfl <| L.v (R1.pickT rfl rfl) rfl <| L.v (R1.move rfl) rfl <| L.off rfl rfl rfl rfl rfl <| L.off rfl rfl rfl rfl rfl ?_
  refine L.v (R1.pickT rfl rfl) rfl <| L.nil <| X.seq <| W.condT rfl <| W.seq <| W.region <| L.v (R1.assign rfl) rfl <| L.nil <| X.seq <| W.ret <| X.thenRet ?_
  refine X.result1 rfl (.tmp rfl .nil) ?_
  exact ⟨rfl, hm0⟩

end Go.Proofs.Ytkjllbpfcokalaa
