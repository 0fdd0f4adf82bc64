/- Walks: what the functions compute. -/
import Derived.Test.YtkjllbpfcokalaaLpX
namespace Go.Proofs.Ytkjllbpfcokalaa
open Go.RowKit
set_option linter.unusedVariables false
set_option linter.unusedSimpArgs false
set_option maxRecDepth 10000
set_option maxHeartbeats 2000000 in
theorem c_GaussMeets {w : World} {vl vt vn vd vv : Value} {cs : List CR} {c : CR} {val : List QR} {v : Int} (hL : Lay rdC [] w vl cs) (ht : Lay rdT [] w vt c.ts) (h : U32 [] w vn c.k.n) (k : U32 [] w vd c.k.d) (hv : Lay rdQ [] w vv val) (hb : szCs cs ≤ 4194304) (hbc : szC c ≤ 4194304) (hbv : szQs val ≤ 4194304) :
    Ret Try.prog 5 #[vl, .agg #[.int .i64 c.st, vt, .bool c.k.s, vn, vd], vv, .int .i64 v] w (fun r w' => r = .bool true ∧ Mod [] w w') := by
 have hbd : Bd [] w := fun m hm => by cases hm
 obtain ⟨T9, t9, rfl⟩ := ht.form
 obtain ⟨A9, c9, rfl⟩ := h.form
 obtain ⟨B9, e9, rfl⟩ := k.form
 obtain ⟨TL, tL, rfl⟩ := hL.form
 obtain ⟨TV, tV, rfl⟩ := hv.form
 have hcl := cs_len cs
 refine Ret.of (vs := [.slice TL cs.length tL, .agg #[.int .i64 c.st, .slice T9 c.ts.length t9, .bool c.k.s, .slice A9 c.k.n.length c9, .slice B9 c.k.d.length e9], .slice TV val.length tV, .int .i64 v]) (n := 118) Try.func5 rfl rfl rfl rfl ?_
 have hm0 : Mod [] w w := Mod.refl _ _
 refine W.seq <| W.region <| L.box rfl rfl ?_
 intro g5 w1 hN5
 replace hL := hL.new hN5
 replace hv := hv.new hN5
 replace hbd := hbd.new hN5
 replace ht := ht.new hN5
 replace h := h.new hN5
 replace k := k.new hN5
 have hge_g5 := New.ge hN5 hm0.size
 replace hm0 := hm0.trans (hN5.mod.mono (by simp))
 have hb5 := hN5.blk
 clear hN5
 refine L.v (R1.assign rfl) rfl <| L.nil <| X.seq <| W.seq <| W.region <| L.v (R1.move rfl) rfl <| L.v (R1.lenLay rfl hv tyS38) rfl <| L.v (R1.assign rfl) rfl <| L.nil <| X.seq <| W.seq ?_
 refine W.seq <| W.region <| L.v (R1.move rfl) rfl <| L.call rfl (c_heavy_pantographlaw10 hL (hb)) rfl ?_
 rintro _ w2 ⟨rfl, hm2⟩
 replace hL := hL.gr hm2
 replace hv := hv.gr hm2
 replace hbd := hbd.gr hm2
 replace ht := ht.gr hm2
 replace h := h.gr hm2
 replace k := k.gr hm2
 replace hm0 := hm0.trans hm2
 replace hb5 := Blk.gr hb5 hm2
 clear hm2
 refine L.v (R1.move rfl) rfl ?_
 cases hgd19 : (decide (150 < szCs cs))
 ·
  have hcc_ := hgd19
  refine L.on rfl rfl rfl (R1.loadBox rfl hb5 tyG29) rfl <| L.guardOn rfl rfl rfl <| L.buildSlice (cells := [.int .i64 c.st, .slice T9 c.ts.length t9, .bool c.k.s, .slice A9 c.k.n.length c9, .slice B9 c.k.d.length e9]) rfl tyS22 tyZ29 (fillK1 _ _ _ _ _ _ _ _ _ _ _) (by decide) (by decide) rfl ?_
  intro g21 w3 hN21
  replace hL := hL.new hN21
  replace hv := hv.new hN21
  replace hbd := hbd.new hN21
  replace ht := ht.new hN21
  replace h := h.new hN21
  replace k := k.new hN21
  have hge_g21 := New.ge hN21 hm0.size
  replace hm0 := hm0.trans (hN21.mod.mono (by simp))
  have hne_g5_g21 := hb5.ne_ hN21
  replace hb5 := Blk.gr hb5 hN21.mod
  have hb21 := hN21.blk
  clear hN21
  have hL21 : Lay rdC [] w3 (.slice (some ⟨g21, 0, none⟩) 1 1) [c] := Lay.of_blk (css := [[.int .i64 c.st, .slice T9 c.ts.length t9, .bool c.k.s, .slice A9 c.k.n.length c9, .slice B9 c.k.d.length e9]]) hb21 (LayL.one _ c (rdC_mk (ht.sub (by simp)) (h.sub (by simp)) (k.sub (by simp)))) rfl rfl (by decide) (by simp)
  refine L.callOn rfl rfl rfl rfl (c_heavy_pantographlaw10 hL21 (by rw [szCs_one]; omega)) rfl ?_
  rintro _ w4 ⟨rfl, hm4⟩
  replace hL := hL.gr hm4
  replace hv := hv.gr hm4
  replace hbd := hbd.gr hm4
  replace ht := ht.gr hm4
  replace h := h.gr hm4
  replace k := k.gr hm4
  replace hm0 := hm0.trans hm4
  replace hb5 := Blk.gr hb5 hm4
  replace hb21 := Blk.gr hb21 hm4
  replace hL21 := hL21.gr hm4
  clear hm4
  refine L.v (R1.pickF rfl rfl) rfl <| L.v (R1.move rfl) rfl ?_
  cases hgd24 : (decide (150 < szCs [c]))
  ·
   have hcc_ := hgd24
   refine L.on rfl rfl rfl (R1.move rfl) rfl <| L.callOn rfl rfl rfl rfl (c_many_pantographlaw10 hv (hbv)) rfl ?_
   rintro _ w5 ⟨b26, rfl, hb26, hm5⟩
   replace hL := hL.gr hm5
   replace hv := hv.gr hm5
   replace hbd := hbd.gr hm5
   replace ht := ht.gr hm5
   replace h := h.gr hm5
   replace k := k.gr hm5
   replace hm0 := hm0.trans hm5
   replace hb5 := Blk.gr hb5 hm5
   replace hb21 := Blk.gr hb21 hm5
   replace hL21 := hL21.gr hm5
   clear hm5
   refine L.v (R1.pickF rfl rfl) rfl <| L.v (R1.move rfl) rfl ?_
   cases hgd28 : b26
   ·
    have hcc_ := hgd28
    refine L.on rfl rfl rfl (R1.move rfl) rfl <| L.on rfl rfl rfl ((R1.lt rfl rfl).asB (c := decide ((val.length : Int) < 1)) (rfl)) rfl <| L.v (R1.pickF rfl rfl) rfl <| L.v (R1.move rfl) rfl ?_
    cases hgd32 : decide ((val.length : Int) < 1)
    ·
     simp only [bq] at hgd32
     refine L.on rfl rfl rfl (R1.move rfl) rfl <| L.on rfl rfl rfl ((R1.gt rfl rfl).asB (c := decide (8 < (val.length : Int))) (rfl)) rfl <| L.v (R1.pickF rfl rfl) rfl <| L.nil <| X.seq <| W.cond rfl ?_ ?_
     ·
      intro hc35
      simp only [bq] at hc35
      refine W.seq <| W.region <| L.v (R1.assign rfl) rfl <| L.nil <| X.seq <| W.ret <| X.thenRet <| X.result1 rfl (.tmp rfl .nil) ?_
      exact ⟨rfl, hm0⟩
     ·
      intro hc35
      simp only [bq] at hc35
      have hsm := sm150 (by simpa using hgd19)
      have hsc := sm150c (c := c) (by simpa using hgd24)
      obtain ⟨hq3, hq100⟩ := hb26 hgd28
      have hN : heldG (val.length : Int) = val.length := heldG_eq (by omega)
      refine W.skip <| X.seq <| W.seq <| W.region <| L.v (R1.assign rfl) rfl <| L.nil <| X.seq <| W.seq <| W.seq <| W.region <| L.v (R1.assign rfl) rfl ?_
      refine L.nil <| X.seq <| W.block <| W.loop (ι := Nat × Value × List (List Value)) (fun (i, u, css) => [(0, .slice TL cs.length tL), (2, .slice TV val.length tV), (3, .int .i64 v), (5, .pointer (some ⟨g5, 0, none⟩)), (9, .int .i64 (val.length : Int)), (10, u), (11, .int .i64 (i : Int))]) (fun (i, u, css) w_ => Lay rdC (ownL u ++ [g5]) w_ (.slice TL cs.length tL) cs ∧ Lay rdQ (ownL u ++ [g5]) w_ (.slice TV val.length tV) val ∧ Lay rdT (ownL u ++ [g5]) w_ (.slice T9 c.ts.length t9) c.ts ∧ U32 (ownL u ++ [g5]) w_ (.slice A9 c.k.n.length c9) c.k.n ∧ U32 (ownL u ++ [g5]) w_ (.slice B9 c.k.d.length e9) c.k.d ∧ Blk w_ g5 29 #[.int .i64 c.st, .slice T9 c.ts.length t9, .bool c.k.s, .slice A9 c.k.n.length c9, .slice B9 c.k.d.length e9] ∧ u.ownBlock ≠ some g5 ∧ World.ownsRow w_ w.heap.size 29 5 u ((cs.take i).map (mtC val)).length (css).flatten ∧ LayL rdC (ownL u ++ [g5]) w_ css ((cs.take i).map (mtC val)) ∧ Bd (ownL u ++ [g5]) w_ ∧ Mod [] w w_ ∧ i ≤ cs.length ∧ (∀ c ∈ cs.take i, isC c (val.length : Int) = true) ∧ (∀ c ∈ cs.take i, Fit (QR.val c.k - atG val c.ts (QR.val c.k)) 45753)) (fun (i, u, css) => cs.length - i) (0, .slice none 0 0, []) ?_ ?_ ?_
      · exact ⟨rfl, rfl, rfl, rfl, rfl, rfl, rfl, trivial⟩
      ·
       exact ⟨hL.sub (by intro b hb; first | exact hb | (simp only [mq] at hb ⊢; grind)), hv.sub (by intro b hb; first | exact hb | (simp only [mq] at hb ⊢; grind)), ht.sub (by intro b hb; first | exact hb | (simp only [mq] at hb ⊢; grind)), h.sub (by intro b hb; first | exact hb | (simp only [mq] at hb ⊢; grind)), k.sub (by intro b hb; first | exact hb | (simp only [mq] at hb ⊢; grind)), hb5, (fun h => by cases h), own_nil _ _ _ _, LayL.nil, hbd.sub (by intro b hb; first | exact hb | (simp only [mq] at hb ⊢; grind)), hm0, Nat.zero_le _, (fun c h => by cases h), (fun c h => by cases h)⟩
      ·
       rintro ⟨i, u, css⟩ w6 ⟨hL, hv, ht, h, k, hb5, hno_ho_g5, ho, hl, hbd, hm0, hi, hall, hfk⟩
       refine W.seq <| W.seq <| W.region <| L.v (R1.move rfl) rfl <| L.v (R1.move rfl) rfl <| L.v (R1.lenLay rfl hL tyS22) rfl <| L.v (R1.lt rfl rfl) rfl <| L.nil <| X.seq <| W.cond rfl ?_ ?_
       ·
        intro hc39
        try simp only [bq, ne_eq] at hc39
        refine W.skip <| X.seq <| W.seq <| W.block <| W.seq <| W.seq <| W.region <| L.v (R1.move rfl) rfl <| L.v (R1.move rfl) rfl <| L.v (R1.atLay (j := i) rfl rfl hL tyS22 rfl (by omega)) rfl ?_
        obtain ⟨z45, cs45, hz45, hE45, vt45, ds45, rfl, ht45, vn45, vd45, rfl, hn45, hd45⟩ := Lay.elemQ hL (j := i) (by omega)
        obtain ⟨T45, t45, rfl⟩ := ht45.form
        obtain ⟨A45, c45, rfl⟩ := hn45.form
        obtain ⟨B45, e45, rfl⟩ := hd45.form
        refine L.v (R1.loadE rfl hE45 tyG29) rfl <| L.v (R1.move rfl) rfl <| L.call rfl (c_ref8_Is ht45 hn45 hd45 (n := (val.length : Int)) (by omega) hbd ((hsm _ (List.mem_of_getElem? hz45)).mono (by decide))) rfl ?_
        rintro _ w7 ⟨rfl, hm7⟩
        replace hL := hL.gr hm7
        replace hv := hv.gr hm7
        replace ht := ht.gr hm7
        replace h := h.gr hm7
        replace k := k.gr hm7
        replace hb5 := Blk.gr hb5 hm7
        replace ho := own_gr ho hm7 (by simp)
        replace hl := hl.gr hm7
        replace hbd := hbd.gr hm7
        replace hm0 := hm0.trans hm7
        replace ht45 := ht45.gr hm7
        replace hn45 := hn45.gr hm7
        replace hd45 := hd45.gr hm7
        clear hm7
        refine L.v (R1.not rfl) rfl <| L.nil <| X.seq <| W.cond rfl ?_ ?_
        ·
         intro hc48
         try simp only [bq, ne_eq] at hc48
         refine W.seq <| W.region <| L.call rfl (c_known10) rfl ?_
         rintro _ w8 ⟨rfl, hm8⟩
         replace hL := hL.gr hm8
         replace hv := hv.gr hm8
         replace ht := ht.gr hm8
         replace h := h.gr hm8
         replace k := k.gr hm8
         replace hb5 := Blk.gr hb5 hm8
         replace ho := own_gr ho hm8 (by simp)
         replace hl := hl.gr hm8
         replace hbd := hbd.gr hm8
         replace hm0 := hm0.trans hm8
         replace ht45 := ht45.gr hm8
         replace hn45 := hn45.gr hm8
         replace hd45 := hd45.gr hm8
         clear hm8
         refine L.v (R1.assign rfl) rfl <| L.nil <| X.seq <| W.ret <| X.thenRet <| X.blockRet <| X.thenRet <| X.nextRet <| X.blockRet <| X.thenRet <| X.result1 rfl (.tmp rfl .nil) ?_
         exact ⟨rfl, hm0⟩
        ·
         intro hc48
         try simp only [bq, ne_eq] at hc48
         refine W.skip <| X.seq <| W.seq <| W.region <| L.v (R1.move rfl) rfl <| L.v (R1.move rfl) rfl <| L.v (R1.atLay (j := i) rfl rfl hL tyS22 rfl (by omega)) rfl ?_
         obtain ⟨z53, cs53, hz53, hE53, vt53, ds53, rfl, ht53, vn53, vd53, rfl, hn53, hd53⟩ := Lay.elemQ hL (j := i) (by omega)
         obtain ⟨T53, t53, rfl⟩ := ht53.form
         obtain ⟨A53, c53, rfl⟩ := hn53.form
         obtain ⟨B53, e53, rfl⟩ := hd53.form
         obtain rfl : z45 = z53 := by have h9 := hz53; rw [hz45] at h9; injection h9
         refine L.v (R1.loadE rfl hE53 tyG29) rfl ?_
         have F53 := fit_sm hn53 hd53 (hsm _ (List.mem_of_getElem? hz45)).2.1
         refine L.alloc tyZ29 rfl ?_
         intro g12 w9 hN12
         replace hL := hL.new hN12
         replace hv := hv.new hN12
         replace ht := ht.new hN12
         replace h := h.new hN12
         replace k := k.new hN12
         have hne_g5_g12 := hb5.ne_ hN12
         replace hb5 := Blk.gr hb5 hN12.mod
         have hno_ho_g12 := own_ne_new ho hN12
         replace ho := own_gr ho hN12.mod (by simp)
         replace hl := hl.new hN12
         replace hbd := hbd.new hN12
         have hge_g12 := New.ge hN12 hm0.size
         replace hm0 := hm0.trans (hN12.mod.mono (by simp))
         replace ht45 := ht45.new hN12
         replace hn45 := hn45.new hN12
         replace hd45 := hd45.new hN12
         replace ht53 := ht53.new hN12
         replace hn53 := hn53.new hN12
         replace hd53 := hd53.new hN12
         have hb12 := hN12.blk
         clear hN12
         refine L.storeBox rfl rfl hb12 rfl rfl tyG29 ?_
         intro w10 hb12' hm10
         replace hL := hL.mod hm10 (by simp)
         replace hv := hv.mod hm10 (by simp)
         replace ht := ht.mod hm10 (by simp)
         replace h := h.mod hm10 (by simp)
         replace k := k.mod hm10 (by simp)
         replace hb5 := Blk.far hb5 hm10 (by first | exact hne_g5_g12 | exact (hne_g12_g5).symm)
         replace ho := own_far ho hm10 hno_ho_g12
         replace hl := hl.mod hm10 (by simp)
         replace hbd := hbd.gr hm10
         replace hm0 := hm0.old1 hm10 hge_g12
         replace ht45 := ht45.mod hm10 (by simp)
         replace hn45 := hn45.mod hm10 (by simp)
         replace hd45 := hd45.mod hm10 (by simp)
         replace ht53 := ht53.mod hm10 (by simp)
         replace hn53 := hn53.mod hm10 (by simp)
         replace hd53 := hd53.mod hm10 (by simp)
         clear hm10
         replace hb12 := hb12'; clear hb12'
         refine L.nil <| X.seq <| W.seq <| W.drawW (T := [7]) rfl (by decide +kernel) (NoHang.then (NoHang.block (NoHang.then (NoHang.next (NoHang.block (NoHang.then NoHang.post)))))) (fun w11 hm11 => ?_)
         replace hL := hL.gr hm11
         replace hv := hv.gr hm11
         replace ht := ht.gr hm11
         replace h := h.gr hm11
         replace k := k.gr hm11
         replace hb5 := Blk.gr hb5 hm11
         replace ho := own_gr ho hm11 (by simp)
         replace hl := hl.gr hm11
         replace hbd := hbd.gr hm11
         replace hm0 := hm0.trans hm11
         replace ht45 := ht45.gr hm11
         replace hn45 := hn45.gr hm11
         replace hd45 := hd45.gr hm11
         replace ht53 := ht53.gr hm11
         replace hn53 := hn53.gr hm11
         replace hd53 := hd53.gr hm11
         replace hb12 := Blk.gr hb12 hm11
         have hS1 : Mod [] w11 w11 := Mod.refl _ _
         clear hm11
         have hb5_s := hb5
         have hb12_s := hb12
         refine D.take 0 rfl (by decide +kernel) (fun w_ hS => (R1.fieldAt rfl tyF29_2)) hS1 rfl <| D.take 1 rfl (by decide +kernel) (fun w_ hS => (R1.loadBoxAt (ds := [.bool z45.k.s, .slice A53 z45.k.n.length c53, .slice B53 z45.k.d.length e53]) rfl (Blk.gr hb12_s hS) rfl tyG27)) hS1 rfl <| D.take 2 rfl (by decide +kernel) (fun w_ hS => (R1.loadBox rfl (Blk.gr hb12_s hS) tyG29)) hS1 rfl <| D.take 3 rfl (by decide +kernel) (fun w_ hS => (R1.move rfl)) hS1 rfl <| D.one 4 rfl (by decide +kernel) (fun hX => ?_)
         refine L.call rfl (c_ref8_At ht53 hn53 hd53 hv hbd ((hsm _ (List.mem_of_getElem? hz45)).mono (by decide)) (sm_mono3 hq3)) rfl ?_
         rintro _ w12 ⟨⟨A58, c58, B58, e58, rfl, hn58, hd58⟩, hm12⟩
         replace hL := hL.gr hm12
         replace hv := hv.gr hm12
         replace ht := ht.gr hm12
         replace h := h.gr hm12
         replace k := k.gr hm12
         replace hb5 := Blk.gr hb5 hm12
         replace ho := own_gr ho hm12 (by simp)
         replace hl := hl.gr hm12
         replace hbd := hbd.gr hm12
         replace hm0 := hm0.trans hm12
         replace ht45 := ht45.gr hm12
         replace hn45 := hn45.gr hm12
         replace hd45 := hd45.gr hm12
         replace ht53 := ht53.gr hm12
         replace hn53 := hn53.gr hm12
         replace hd53 := hd53.gr hm12
         replace hb12 := Blk.gr hb12 hm12
         replace hS1 := hS1.trans hm12
         clear hm12
         have F58 := mt_fit ht53 hn53 hd53 hv (hsm _ (List.mem_of_getElem? hz45)) hq3
         refine L.nil (hX _ _ ⟨.inr hS1, ?_⟩)
         refine D.one 5 rfl (by decide +kernel) (fun hX => ?_)
         refine L.call rfl (c_ref2_Sub (qa := (QR.val z45.k)) (qb := (atG val z45.ts (QR.val z45.k))) rfl (rv_toL _) hn53 hd53 hn58 hd58 hbd (Nat.le_trans (hsm _ (List.mem_of_getElem? hz53)).2.1.1 (by decide)) (Nat.le_trans (hsm _ (List.mem_of_getElem? hz53)).2.1.2 (by decide)) (Nat.le_trans F58.1 (by decide)) (Nat.le_trans F58.2 (by decide))) rfl ?_
         rintro _ w13 ⟨⟨A59, c59, B59, e59, rfl, hn59, hd59⟩, hm13⟩
         replace hL := hL.gr hm13
         replace hv := hv.gr hm13
         replace ht := ht.gr hm13
         replace h := h.gr hm13
         replace k := k.gr hm13
         replace hb5 := Blk.gr hb5 hm13
         replace ho := own_gr ho hm13 (by simp)
         replace hl := hl.gr hm13
         replace hbd := hbd.gr hm13
         replace hm0 := hm0.trans hm13
         replace ht45 := ht45.gr hm13
         replace hn45 := hn45.gr hm13
         replace hd45 := hd45.gr hm13
         replace ht53 := ht53.gr hm13
         replace hn53 := hn53.gr hm13
         replace hd53 := hd53.gr hm13
         replace hb12 := Blk.gr hb12 hm13
         replace hn58 := hn58.gr hm13
         replace hd58 := hd58.gr hm13
         replace hS1 := hS1.trans hm13
         clear hm13
         have F59 := Fit.sub F53 F58
         refine L.nil (hX _ _ ⟨.inr hS1, ?_⟩)
         refine D.take 6 rfl (by decide +kernel) (fun w_ hS => (R1.fieldAt rfl tyF29_2)) hS1 rfl <| D.one 7 rfl (by decide +kernel) (fun hX => ?_)
         refine L.storeAgg rfl rfl hb12 (show 2 + 3 ≤ 5 by decide) (by intro c hc; simp only [List.mem_cons, List.not_mem_nil, or_false] at hc; rcases hc with rfl | rfl | rfl <;> rfl) tyG27 ?_
         intro w14 hb12' hm14
         replace hL := hL.mod hm14 (by simp)
         replace hv := hv.mod hm14 (by simp)
         replace ht := ht.mod hm14 (by simp)
         replace h := h.mod hm14 (by simp)
         replace k := k.mod hm14 (by simp)
         replace hb5 := Blk.far hb5 hm14 (by first | exact hne_g5_g12 | exact (hne_g12_g5).symm)
         replace ho := own_far ho hm14 hno_ho_g12
         replace hl := hl.mod hm14 (by simp)
         replace hbd := hbd.gr hm14
         replace hm0 := hm0.old1 hm14 hge_g12
         replace ht45 := ht45.mod hm14 (by simp)
         replace hn45 := hn45.mod hm14 (by simp)
         replace hd45 := hd45.mod hm14 (by simp)
         replace ht53 := ht53.mod hm14 (by simp)
         replace hn53 := hn53.mod hm14 (by simp)
         replace hd53 := hd53.mod hm14 (by simp)
         replace hn58 := hn58.mod hm14 (by simp)
         replace hd58 := hd58.mod hm14 (by simp)
         replace hn59 := hn59.mod hm14 (by simp)
         replace hd59 := hd59.mod hm14 (by simp)
         clear hm14
         replace hb12 := hb12'; clear hb12'
         refine L.nil (hX _ _ ⟨.inl rfl, ?_⟩)
         replace hb12 : Blk _ g12 29 #[.int .i64 z45.st, .slice T53 z45.ts.length t53, .bool (decide ((QR.val z45.k - atG val z45.ts (QR.val z45.k)).num < 0)), .slice A59 (toL (QR.val z45.k - atG val z45.ts (QR.val z45.k)).num.natAbs).length c59, .slice B59 (toL (QR.val z45.k - atG val z45.ts (QR.val z45.k)).den).length e59] := hb12
         refine D.done (by decide +kernel) ?_ _
         refine X.seq <| W.region <| L.v (R1.move rfl) rfl <| L.v (R1.loadBox rfl hb12 tyG29) rfl <| L.buildSlice (cells := [.int .i64 z45.st, .slice T53 z45.ts.length t53, .bool (decide ((QR.val z45.k - atG val z45.ts (QR.val z45.k)).num < 0)), .slice A59 (toL (QR.val z45.k - atG val z45.ts (QR.val z45.k)).num.natAbs).length c59, .slice B59 (toL (QR.val z45.k - atG val z45.ts (QR.val z45.k)).den).length e59]) rfl tyS22 tyZ29 (fillK1 _ _ _ _ _ _ _ _ _ _ _) (by decide) (by decide) rfl ?_
         intro g63 w15 hN63
         replace hL := hL.gr hN63.mod
         replace hv := hv.gr hN63.mod
         replace ht := ht.gr hN63.mod
         replace h := h.gr hN63.mod
         replace k := k.gr hN63.mod
         replace hb5 := Blk.gr hb5 hN63.mod
         replace ho := own_gr ho hN63.mod (by simp)
         replace hl := hl.gr hN63.mod
         replace hbd := hbd.gr hN63.mod
         replace hm0 := hm0.trans hN63.mod
         replace ht45 := ht45.gr hN63.mod
         replace hn45 := hn45.gr hN63.mod
         replace hd45 := hd45.gr hN63.mod
         replace ht53 := ht53.gr hN63.mod
         replace hn53 := hn53.gr hN63.mod
         replace hd53 := hd53.gr hN63.mod
         replace hn58 := hn58.gr hN63.mod
         replace hd58 := hd58.gr hN63.mod
         replace hn59 := hn59.gr hN63.mod
         replace hd59 := hd59.gr hN63.mod
         replace hb12 := Blk.gr hb12 hN63.mod
         have hrow : Sl [] w15 5 (.slice (some ⟨g63, 0, none⟩) 1 1) 1 [.int .i64 z45.st, .slice T53 z45.ts.length t53, .bool (decide ((QR.val z45.k - atG val z45.ts (QR.val z45.k)).num < 0)), .slice A59 (toL (QR.val z45.k - atG val z45.ts (QR.val z45.k)).num.natAbs).length c59, .slice B59 (toL (QR.val z45.k - atG val z45.ts (QR.val z45.k)).den).length e59] := Sl.of_blk hN63.blk 0 (Nat.le_refl _) (by decide) rfl (by simp) (fun j hj => by simp)
         clear hN63
         have hml9 : ((cs.take i).map (mtC val)).length = min i cs.length := by rw [List.length_map, List.length_take]
         refine L.append rfl rfl ho hrow (by intro c hc; simp only [List.mem_cons, List.not_mem_nil, or_false] at hc; rcases hc with rfl | rfl | rfl | rfl | rfl <;> rfl) tyS22 tyZ29 (by omega) (by unfold maxLen; omega) hm0.size rfl ?_
         intro v64 w16 ho64' hG64
         replace hL := hL.grew2 hG64 (by first | exact mem_own | (intro b hb; simp [hb]))
         replace hv := hv.grew2 hG64 (by first | exact mem_own | (intro b hb; simp [hb]))
         replace ht := ht.grew2 hG64 (by first | exact mem_own | (intro b hb; simp [hb]))
         replace h := h.grew2 hG64 (by first | exact mem_own | (intro b hb; simp [hb]))
         replace k := k.grew2 hG64 (by first | exact mem_own | (intro b hb; simp [hb]))
         have hnn_g5 := hG64.ne hno_ho_g5 hb5
         replace hb5 := Blk.grew hb5 hG64 hno_ho_g5
         replace hno_ho_g5 := hnn_g5
         replace hl := hl.grew2 hG64 (by first | exact mem_own | (intro b hb; simp [hb]))
         replace hbd := hbd.grew2 hG64 (by first | exact mem_own | (intro b hb; simp [hb]))
         replace hm0 := Mod.oldOwn hm0 hG64.mod ho
         replace ht45 := ht45.grew2 hG64 (by first | exact mem_own | (intro b hb; simp [hb]))
         replace hn45 := hn45.grew2 hG64 (by first | exact mem_own | (intro b hb; simp [hb]))
         replace hd45 := hd45.grew2 hG64 (by first | exact mem_own | (intro b hb; simp [hb]))
         replace ht53 := ht53.grew2 hG64 (by first | exact mem_own | (intro b hb; simp [hb]))
         replace hn53 := hn53.grew2 hG64 (by first | exact mem_own | (intro b hb; simp [hb]))
         replace hd53 := hd53.grew2 hG64 (by first | exact mem_own | (intro b hb; simp [hb]))
         replace hn58 := hn58.grew2 hG64 (by first | exact mem_own | (intro b hb; simp [hb]))
         replace hd58 := hd58.grew2 hG64 (by first | exact mem_own | (intro b hb; simp [hb]))
         replace hn59 := hn59.grew2 hG64 (by first | exact mem_own | (intro b hb; simp [hb]))
         replace hd59 := hd59.grew2 hG64 (by first | exact mem_own | (intro b hb; simp [hb]))
         have hnn_g12 := hG64.ne hno_ho_g12 hb12
         replace hb12 := Blk.grew hb12 hG64 hno_ho_g12
         replace hno_ho_g12 := hnn_g12
         replace ho := ho64'; clear ho64'
         clear hG64
         refine L.v (R1.assign rfl) rfl <| L.nil <| X.blockEnd <| X.seq <| W.region <| L.v (R1.move rfl) rfl <| L.v (R1.addI (b := 1) rfl rfl (by omega)) rfl <| L.v (R1.assign rfl) rfl <| L.nil <| X.next (i + 1, v64, css ++ [[.int .i64 z45.st, .slice T53 z45.ts.length t53, .bool (decide ((QR.val z45.k - atG val z45.ts (QR.val z45.k)).num < 0)), .slice A59 (toL (QR.val z45.k - atG val z45.ts (QR.val z45.k)).num.natAbs).length c59, .slice B59 (toL (QR.val z45.k - atG val z45.ts (QR.val z45.k)).den).length e59]]) ?_ ?_ ?_
         · exact ⟨rfl, rfl, rfl, rfl, rfl, rfl, rfl, trivial⟩
         ·
          exact ⟨hL.sub (by intro b hb; first | exact hb | (simp only [mq] at hb ⊢; grind)), hv.sub (by intro b hb; first | exact hb | (simp only [mq] at hb ⊢; grind)), ht.sub (by intro b hb; first | exact hb | (simp only [mq] at hb ⊢; grind)), h.sub (by intro b hb; first | exact hb | (simp only [mq] at hb ⊢; grind)), k.sub (by intro b hb; first | exact hb | (simp only [mq] at hb ⊢; grind)), hb5, hno_ho_g5, own_congr ho (by rw [map_take_yes hz45]; simp) (by simp), by rw [map_take_yes hz45]; exact (hl.sub (by intro b hb; first | exact hb | (simp only [mq] at hb ⊢; grind))).append (LayL.one _ (mtC val z45) (rdC_mk (c := mtC val z45) (vt := .slice T53 z45.ts.length t53) (ht53.sub (by intro b hb; first | exact hb | (simp only [mq] at hb ⊢; grind))) (hn59.sub (by intro b hb; first | exact hb | (simp only [mq] at hb ⊢; grind))) (hd59.sub (by intro b hb; first | exact hb | (simp only [mq] at hb ⊢; grind))))), hbd.sub (by intro b hb; first | exact hb | (simp only [mq] at hb ⊢; grind)), hm0, by omega, all_take hz45 hall hc48, all_take hz45 hfk F59⟩
         · first | omega | (dsimp only; omega)
       ·
        intro hc39
        try simp only [bq, ne_eq] at hc39
        obtain rfl : i = cs.length := by omega
        rw [List.take_length] at ho hl hall hfk
        have oksM := oks_mt (z0 := (val.length : Int)) hsm hfk hall (by omega)
        have hM : Lay rdC [] w6 u (cs.map (mtC val)) := Lay.of_own ho (hl.sub (fun b hb => by cases hb)) (by simp)
        replace hL := hL.sub (M' := []) (fun b hb => by cases hb)
        replace hv := hv.sub (M' := []) (fun b hb => by cases hb)
        replace ht := ht.sub (M' := []) (fun b hb => by cases hb)
        replace h := h.sub (M' := []) (fun b hb => by cases hb)
        replace k := k.sub (M' := []) (fun b hb => by cases hb)
        replace hbd := hbd.sub (M' := []) (fun b hb => by cases hb)
        refine W.exit <| X.thenExit <| X.nextExit <| X.here <| X.seq <| W.seq <| W.seq <| W.region <| L.v (R1.move rfl) rfl <| L.v (R1.move rfl) rfl <| L.call rfl (c_Consistent hM hbd oksM) rfl ?_
        rintro _ w17 ⟨rs67, ok67, hP67, rfl, hm17⟩
        replace hL := hL.gr hm17
        replace hv := hv.gr hm17
        replace ht := ht.gr hm17
        replace h := h.gr hm17
        replace k := k.gr hm17
        replace hb5 := Blk.gr hb5 hm17
        replace hbd := hbd.gr hm17
        replace hm0 := hm0.trans hm17
        replace hM := hM.gr hm17
        clear hm17
        rw [show ok67 = true from mt_ok (n := val.length) (by rw [hN] at hP67; exact hP67) hall]
        refine L.v ((R1.not rfl).asB (c := false) rfl) rfl <| L.nil <| X.seq <| W.condF rfl <| W.skip <| X.seq <| W.seq <| W.region <| L.v (R1.move rfl) rfl <| L.v (R1.move rfl) rfl <| L.v (R1.move rfl) rfl ?_
        refine L.call rfl (c_Fixed hM hbd oksM) rfl ?_
        rintro _ w18 ⟨rs73, ok73, _, hP73, rfl, ⟨s73, A73, c73, B73, e73, xs73, ys73, rfl, hn73, hd73, hq73, hla73, hlb73⟩, hm18⟩
        replace hL := hL.gr hm18
        replace hv := hv.gr hm18
        replace ht := ht.gr hm18
        replace h := h.gr hm18
        replace k := k.gr hm18
        replace hb5 := Blk.gr hb5 hm18
        replace hbd := hbd.gr hm18
        replace hm0 := hm0.trans hm18
        replace hM := hM.gr hm18
        clear hm18
        obtain ⟨x, hx⟩ : ∃ x, x = (fixT (val.length : Int) v rs73 ok73).getD 0 := ⟨_, rfl⟩
        obtain ⟨bb, hbb⟩ : ∃ bb, bb = (fixT (val.length : Int) v rs73 ok73).isSome := ⟨_, rfl⟩
        rw [← hx] at hq73
        rw [← hbb]
        refine L.v (R1.move rfl) rfl <| L.v (R1.extract rfl rfl) rfl <| L.v (R1.extract rfl rfl) rfl <| L.alloc tyZ27 rfl ?_
        intro g13 w19 hN13
        replace hL := hL.new hN13
        replace hv := hv.new hN13
        replace ht := ht.new hN13
        replace h := h.new hN13
        replace k := k.new hN13
        have hne_g5_g13 := hb5.ne_ hN13
        replace hb5 := Blk.gr hb5 hN13.mod
        replace hbd := hbd.new hN13
        have hge_g13 := New.ge hN13 hm0.size
        replace hm0 := hm0.trans (hN13.mod.mono (by simp))
        replace hM := hM.new hN13
        replace hn73 := hn73.new hN13
        replace hd73 := hd73.new hN13
        have hb13 := hN13.blk
        clear hN13
        refine L.storeBox rfl rfl hb13 rfl rfl tyG27 ?_
        intro w20 hb13' hm20
        replace hL := hL.mod hm20 (by simp)
        replace hv := hv.mod hm20 (by simp)
        replace ht := ht.mod hm20 (by simp)
        replace h := h.mod hm20 (by simp)
        replace k := k.mod hm20 (by simp)
        replace hb5 := Blk.far hb5 hm20 (by first | exact hne_g5_g13 | exact (hne_g13_g5).symm)
        replace hbd := hbd.gr hm20
        replace hm0 := hm0.old1 hm20 hge_g13
        replace hM := hM.mod hm20 (by simp)
        replace hn73 := hn73.mod hm20 (by simp)
        replace hd73 := hd73.mod hm20 (by simp)
        clear hm20
        replace hb13 := hb13'; clear hb13'
        refine L.v (R1.assign rfl) rfl <| L.nil <| X.seq <| W.seq <| W.seq <| W.drawW (T := []) rfl (by decide +kernel) (NoHang.then (NoHang.then NoHang.post)) (fun w21 hm21 => ?_)
        replace hL := hL.gr hm21
        replace hv := hv.gr hm21
        replace ht := ht.gr hm21
        replace h := h.gr hm21
        replace k := k.gr hm21
        replace hb5 := Blk.gr hb5 hm21
        replace hbd := hbd.gr hm21
        replace hm0 := hm0.trans hm21
        replace hM := hM.gr hm21
        replace hn73 := hn73.gr hm21
        replace hd73 := hd73.gr hm21
        replace hb13 := Blk.gr hb13 hm21
        have hS2 : Mod [] w21 w21 := Mod.refl _ _
        clear hm21
        have hb5_s := hb5
        have hb13_s := hb13
        refine D.take 0 rfl (by decide +kernel) (fun w_ hS => (R1.move rfl)) hS2 rfl <| D.take 1 rfl (by decide +kernel) (fun w_ hS => (R1.move rfl)) hS2 rfl ?_
        cases hgd77 : bb
        ·
         try simp only [bq, ne_eq] at hgd77
         refine D.off 2 rfl rfl rfl rfl rfl (by decide +kernel) hS2 rfl <| D.off 3 rfl rfl rfl rfl rfl (by decide +kernel) hS2 rfl <| D.off 4 rfl rfl rfl rfl rfl (by decide +kernel) hS2 rfl <| D.offU 5 rfl rfl rfl rfl (by decide +kernel) hS2 rfl <| D.offU 6 rfl rfl rfl rfl (by decide +kernel) hS2 rfl <| D.offU 7 rfl rfl rfl rfl (by decide +kernel) hS2 rfl <| D.off 8 rfl rfl rfl rfl rfl (by decide +kernel) hS2 rfl <| D.off 9 rfl rfl rfl rfl rfl (by decide +kernel) hS2 rfl <| D.offU 10 rfl rfl rfl rfl (by decide +kernel) hS2 rfl <| D.offU 11 rfl rfl rfl rfl (by decide +kernel) hS2 rfl <| D.offU 12 rfl rfl rfl rfl (by decide +kernel) hS2 rfl ?_
         refine D.offU 13 rfl rfl rfl rfl (by decide +kernel) hS2 rfl <| D.offU 14 rfl rfl rfl rfl (by decide +kernel) hS2 rfl <| D.offU 15 rfl rfl rfl rfl (by decide +kernel) hS2 rfl <| D.offU 16 rfl rfl rfl rfl (by decide +kernel) hS2 rfl <| D.off 17 rfl rfl rfl rfl rfl (by decide +kernel) hS2 rfl <| D.take 18 rfl (by decide +kernel) (fun w_ hS => (R1.pickF rfl rfl)) hS2 rfl <| D.done (by decide +kernel) ?_ _
         refine X.seq <| W.condF rfl <| W.skip <| X.seq <| W.seq <| W.region <| L.v (R1.move rfl) rfl <| L.v (R1.loadBox rfl hb5 tyG29) rfl <| L.v (R1.move rfl) rfl <| L.call rfl (c_Implies hM hbd oksM ht h k (hsc.mono (by decide)) (fun hi9 => OvC.mono (hv150 hsc hi9) (by decide))) rfl ?_
         rintro _ w22 ⟨rs98, ok98, hP98, rfl, hm22⟩
         replace hL := hL.gr hm22
         replace hv := hv.gr hm22
         replace ht := ht.gr hm22
         replace h := h.gr hm22
         replace k := k.gr hm22
         replace hb5 := Blk.gr hb5 hm22
         replace hbd := hbd.gr hm22
         replace hm0 := hm0.trans hm22
         replace hM := hM.gr hm22
         replace hn73 := hn73.gr hm22
         replace hd73 := hd73.gr hm22
         replace hb13 := Blk.gr hb13 hm22
         clear hm22
         refine L.v (R1.not rfl) rfl <| L.v (R1.move rfl) rfl ?_
         cases hgd100 : (!(impT (val.length : Int) rs98 ok98 c))
         ·
          try simp only [bq, ne_eq] at hgd100
          refine L.on rfl rfl rfl (R1.loadBox rfl hb5 tyG29) rfl <| L.on rfl rfl rfl (R1.move rfl) rfl <| L.callOn rfl rfl rfl rfl (c_Holds10 ht h k hv hbd (hsc.mono (by decide)) (sm_mono3 hq3)) rfl ?_
          rintro _ w23 ⟨rfl, hm23⟩
          replace hL := hL.gr hm23
          replace hv := hv.gr hm23
          replace ht := ht.gr hm23
          replace h := h.gr hm23
          replace k := k.gr hm23
          replace hb5 := Blk.gr hb5 hm23
          replace hbd := hbd.gr hm23
          replace hm0 := hm0.trans hm23
          replace hM := hM.gr hm23
          replace hn73 := hn73.gr hm23
          replace hd73 := hd73.gr hm23
          replace hb13 := Blk.gr hb13 hm23
          clear hm23
          rw [show decide (atG val c.ts (QR.val c.k) = 0) = true from decide_eq_true (mt_imp hN hP98 hall hgd100)]
          refine L.v (R1.pickF rfl rfl) rfl <| L.v (R1.move rfl) rfl <| L.on rfl rfl rfl (R1.move rfl) rfl <| L.on rfl rfl rfl (R1.move rfl) rfl <| L.callOn rfl rfl rfl rfl (c_Rank hM hbd oksM) rfl ?_
          rintro _ w24 ⟨rs108, ok108, ⟨hP108, hrk108⟩, rfl, hm24⟩
          replace hL := hL.gr hm24
          replace hv := hv.gr hm24
          replace ht := ht.gr hm24
          replace h := h.gr hm24
          replace k := k.gr hm24
          replace hb5 := Blk.gr hb5 hm24
          replace hbd := hbd.gr hm24
          replace hm0 := hm0.trans hm24
          replace hM := hM.gr hm24
          replace hn73 := hn73.gr hm24
          replace hd73 := hd73.gr hm24
          replace hb13 := Blk.gr hb13 hm24
          clear hm24
          refine L.on rfl rfl rfl (R1.move rfl) rfl <| L.on rfl rfl rfl (R1.lenLay rfl hM tyS22) rfl <| L.on rfl rfl rfl (R1.move rfl) rfl <| L.on rfl rfl rfl (R1.minI rfl rfl) rfl <| L.on rfl rfl rfl ((R1.le rfl rfl).asB (c := true) (decide_eq_true (by have h9 := vecs_len (heldG (val.length : Int)) (cs.map (mtC val)); rw [List.length_map] at h9 ⊢; have h8 := mt_rank (n := val.length) (by rw [hN] at hP108; exact hP108); omega))) rfl <| L.v (R1.pickT rfl rfl) rfl <| L.v (R1.move rfl) rfl <| L.callOn rfl rfl rfl rfl (c_known10) rfl ?_
          rintro _ w25 ⟨rfl, hm25⟩
          replace hL := hL.gr hm25
          replace hv := hv.gr hm25
          replace ht := ht.gr hm25
          replace h := h.gr hm25
          replace k := k.gr hm25
          replace hb5 := Blk.gr hb5 hm25
          replace hbd := hbd.gr hm25
          replace hm0 := hm0.trans hm25
          replace hM := hM.gr hm25
          replace hn73 := hn73.gr hm25
          replace hd73 := hd73.gr hm25
          replace hb13 := Blk.gr hb13 hm25
          clear hm25
          refine L.v (R1.pickT rfl rfl) rfl <| L.v (R1.assign rfl) rfl <| L.nil <| X.seq <| W.ret <| X.result1 rfl (.tmp rfl .nil) ?_
          exact ⟨rfl, hm0⟩
         ·
          try simp only [bq, ne_eq] at hgd100
          refine L.off rfl rfl rfl rfl rfl <| L.off rfl rfl rfl rfl rfl <| L.off rfl rfl rfl rfl rfl <| L.v (R1.pickT rfl rfl) rfl <| L.v (R1.move rfl) rfl <| L.on rfl rfl rfl (R1.move rfl) rfl <| L.on rfl rfl rfl (R1.move rfl) rfl <| L.callOn rfl rfl rfl rfl (c_Rank hM hbd oksM) rfl ?_
          rintro _ w26 ⟨rs108, ok108, ⟨hP108, hrk108⟩, rfl, hm26⟩
          replace hL := hL.gr hm26
          replace hv := hv.gr hm26
          replace ht := ht.gr hm26
          replace h := h.gr hm26
          replace k := k.gr hm26
          replace hb5 := Blk.gr hb5 hm26
          replace hbd := hbd.gr hm26
          replace hm0 := hm0.trans hm26
          replace hM := hM.gr hm26
          replace hn73 := hn73.gr hm26
          replace hd73 := hd73.gr hm26
          replace hb13 := Blk.gr hb13 hm26
          clear hm26
          refine L.on rfl rfl rfl (R1.move rfl) rfl <| L.on rfl rfl rfl (R1.lenLay rfl hM tyS22) rfl <| L.on rfl rfl rfl (R1.move rfl) rfl <| L.on rfl rfl rfl (R1.minI rfl rfl) rfl <| L.on rfl rfl rfl ((R1.le rfl rfl).asB (c := true) (decide_eq_true (by have h9 := vecs_len (heldG (val.length : Int)) (cs.map (mtC val)); rw [List.length_map] at h9 ⊢; have h8 := mt_rank (n := val.length) (by rw [hN] at hP108; exact hP108); omega))) rfl <| L.v (R1.pickT rfl rfl) rfl <| L.v (R1.move rfl) rfl <| L.callOn rfl rfl rfl rfl (c_known10) rfl ?_
          rintro _ w27 ⟨rfl, hm27⟩
          replace hL := hL.gr hm27
          replace hv := hv.gr hm27
          replace ht := ht.gr hm27
          replace h := h.gr hm27
          replace k := k.gr hm27
          replace hb5 := Blk.gr hb5 hm27
          replace hbd := hbd.gr hm27
          replace hm0 := hm0.trans hm27
          replace hM := hM.gr hm27
          replace hn73 := hn73.gr hm27
          replace hd73 := hd73.gr hm27
          replace hb13 := Blk.gr hb13 hm27
          clear hm27
          refine L.v (R1.pickT rfl rfl) rfl <| L.v (R1.assign rfl) rfl <| L.nil <| X.seq <| W.ret <| X.result1 rfl (.tmp rfl .nil) ?_
          exact ⟨rfl, hm0⟩
        ·
         try simp only [bq, ne_eq] at hgd77
         obtain ⟨hv0, hv1, hxv⟩ := mt_fix hN hP73 hall hx hbb hgd77
         refine D.takeOn 2 rfl rfl rfl rfl (by decide +kernel) (fun w_ hS => (R1.move rfl)) hS2 rfl <| D.takeOn 3 rfl rfl rfl rfl (by decide +kernel) (fun w_ hS => ((R1.lt rfl rfl).asB (c := false) (decide_eq_false (by omega)))) hS2 rfl <| D.takeOn 4 rfl rfl rfl rfl (by decide +kernel) (fun w_ hS => (R1.move rfl)) hS2 rfl <| D.takeOn 5 rfl rfl rfl rfl (by decide +kernel) (fun w_ hS => (R1.move rfl)) hS2 rfl <| D.takeOn 6 rfl rfl rfl rfl (by decide +kernel) (fun w_ hS => (R1.move rfl)) hS2 rfl <| D.takeOn 7 rfl rfl rfl rfl (by decide +kernel) (fun w_ hS => ((R1.ge rfl rfl).asB (c := false) (decide_eq_false (by omega)))) hS2 rfl <| D.takeOn 8 rfl rfl rfl rfl (by decide +kernel) (fun w_ hS => (R1.pickF rfl rfl)) hS2 rfl <| D.takeOn 9 rfl rfl rfl rfl (by decide +kernel) (fun w_ hS => (R1.move rfl)) hS2 rfl <| D.takeOn 10 rfl rfl rfl rfl (by decide +kernel) (fun w_ hS => (R1.loadBox rfl (Blk.gr hb13_s hS) tyG27)) hS2 rfl <| D.takeOn 11 rfl rfl rfl rfl (by decide +kernel) (fun w_ hS => (R1.move rfl)) hS2 rfl <| D.takeOn 12 rfl rfl rfl rfl (by decide +kernel) (fun w_ hS => (R1.move rfl)) hS2 rfl ?_
         refine D.takeOn 13 rfl rfl rfl rfl (by decide +kernel) (fun w_ hS => (R1.atLay (j := v.toNat) rfl rfl (Lay.gr hv hS) tyS38 (by omega) (by omega))) hS2 rfl ?_
         obtain ⟨z90, cs90, hz90, hE90, vn90, vd90, rfl, hn90, hd90⟩ := Lay.elemQ hv (j := v.toNat) (by omega)
         obtain ⟨A90, c90, rfl⟩ := hn90.form
         obtain ⟨B90, e90, rfl⟩ := hd90.form
         refine D.takeOn 14 rfl rfl rfl rfl (by decide +kernel) (fun w_ hS => (R1.loadE rfl (SlE.gr hE90 hS) tyG27)) hS2 rfl <| D.one 15 rfl (by decide +kernel) (fun hX => ?_)
         refine L.callOn rfl rfl rfl rfl ((c_ref2_Same (qa := x) (qb := (QR.val z90)) hq73 rfl hn73 hd73 hn90 hd90 hbd (Nat.le_trans hla73 (by decide)) (Nat.le_trans hlb73 (by decide)) (Nat.le_trans (hq3 _ (List.mem_of_getElem? hz90)).1 (by decide)) (Nat.le_trans (hq3 _ (List.mem_of_getElem? hz90)).2 (by decide))).mono (R' := fun r w' => r = .bool true ∧ Mod [] w21 w') (fun r w' h9 => ⟨h9.1.trans (congrArg Value.bool (decide_eq_true (by rw [hxv, valOf_some hv0 hz90]))), h9.2⟩)) rfl ?_
         rintro _ w28 ⟨rfl, hm28⟩
         replace hL := hL.gr hm28
         replace hv := hv.gr hm28
         replace ht := ht.gr hm28
         replace h := h.gr hm28
         replace k := k.gr hm28
         replace hb5 := Blk.gr hb5 hm28
         replace hbd := hbd.gr hm28
         replace hm0 := hm0.trans hm28
         replace hM := hM.gr hm28
         replace hn73 := hn73.gr hm28
         replace hd73 := hd73.gr hm28
         replace hb13 := Blk.gr hb13 hm28
         replace hn90 := hn90.gr hm28
         replace hd90 := hd90.gr hm28
         replace hS2 := hS2.trans hm28
         clear hm28
         refine L.nil (hX _ _ ⟨.inr hS2, ?_⟩)
         refine D.takeOn 16 rfl rfl rfl rfl (by decide +kernel) (fun w_ hS => ((R1.not rfl).asB (c := false) rfl)) hS2 rfl <| D.takeOn 17 rfl rfl rfl rfl (by decide +kernel) (fun w_ hS => (R1.pickF rfl rfl)) hS2 rfl <| D.take 18 rfl (by decide +kernel) (fun w_ hS => (R1.pickT rfl rfl)) hS2 rfl <| D.done (by decide +kernel) ?_ _
         refine X.seq <| W.condF rfl <| W.skip <| X.seq <| W.seq <| W.region <| L.v (R1.move rfl) rfl <| L.v (R1.loadBox rfl hb5 tyG29) rfl <| L.v (R1.move rfl) rfl <| L.call rfl (c_Implies hM hbd oksM ht h k (hsc.mono (by decide)) (fun hi9 => OvC.mono (hv150 hsc hi9) (by decide))) rfl ?_
         rintro _ w29 ⟨rs98, ok98, hP98, rfl, hm29⟩
         replace hL := hL.gr hm29
         replace hv := hv.gr hm29
         replace ht := ht.gr hm29
         replace h := h.gr hm29
         replace k := k.gr hm29
         replace hb5 := Blk.gr hb5 hm29
         replace hbd := hbd.gr hm29
         replace hm0 := hm0.trans hm29
         replace hM := hM.gr hm29
         replace hn73 := hn73.gr hm29
         replace hd73 := hd73.gr hm29
         replace hb13 := Blk.gr hb13 hm29
         replace hn90 := hn90.gr hm29
         replace hd90 := hd90.gr hm29
         clear hm29
         refine L.v (R1.not rfl) rfl <| L.v (R1.move rfl) rfl ?_
         cases hgd100 : (!(impT (val.length : Int) rs98 ok98 c))
         ·
          try simp only [bq, ne_eq] at hgd100
          refine L.on rfl rfl rfl (R1.loadBox rfl hb5 tyG29) rfl <| L.on rfl rfl rfl (R1.move rfl) rfl <| L.callOn rfl rfl rfl rfl (c_Holds10 ht h k hv hbd (hsc.mono (by decide)) (sm_mono3 hq3)) rfl ?_
          rintro _ w30 ⟨rfl, hm30⟩
          replace hL := hL.gr hm30
          replace hv := hv.gr hm30
          replace ht := ht.gr hm30
          replace h := h.gr hm30
          replace k := k.gr hm30
          replace hb5 := Blk.gr hb5 hm30
          replace hbd := hbd.gr hm30
          replace hm0 := hm0.trans hm30
          replace hM := hM.gr hm30
          replace hn73 := hn73.gr hm30
          replace hd73 := hd73.gr hm30
          replace hb13 := Blk.gr hb13 hm30
          replace hn90 := hn90.gr hm30
          replace hd90 := hd90.gr hm30
          clear hm30
          rw [show decide (atG val c.ts (QR.val c.k) = 0) = true from decide_eq_true (mt_imp hN hP98 hall hgd100)]
          refine L.v (R1.pickF rfl rfl) rfl <| L.v (R1.move rfl) rfl <| L.on rfl rfl rfl (R1.move rfl) rfl <| L.on rfl rfl rfl (R1.move rfl) rfl <| L.callOn rfl rfl rfl rfl (c_Rank hM hbd oksM) rfl ?_
          rintro _ w31 ⟨rs108, ok108, ⟨hP108, hrk108⟩, rfl, hm31⟩
          replace hL := hL.gr hm31
          replace hv := hv.gr hm31
          replace ht := ht.gr hm31
          replace h := h.gr hm31
          replace k := k.gr hm31
          replace hb5 := Blk.gr hb5 hm31
          replace hbd := hbd.gr hm31
          replace hm0 := hm0.trans hm31
          replace hM := hM.gr hm31
          replace hn73 := hn73.gr hm31
          replace hd73 := hd73.gr hm31
          replace hb13 := Blk.gr hb13 hm31
          replace hn90 := hn90.gr hm31
          replace hd90 := hd90.gr hm31
          clear hm31
          refine L.on rfl rfl rfl (R1.move rfl) rfl <| L.on rfl rfl rfl (R1.lenLay rfl hM tyS22) rfl <| L.on rfl rfl rfl (R1.move rfl) rfl <| L.on rfl rfl rfl (R1.minI rfl rfl) rfl <| L.on rfl rfl rfl ((R1.le rfl rfl).asB (c := true) (decide_eq_true (by have h9 := vecs_len (heldG (val.length : Int)) (cs.map (mtC val)); rw [List.length_map] at h9 ⊢; have h8 := mt_rank (n := val.length) (by rw [hN] at hP108; exact hP108); omega))) rfl <| L.v (R1.pickT rfl rfl) rfl <| L.v (R1.move rfl) rfl <| L.callOn rfl rfl rfl rfl (c_known10) rfl ?_
          rintro _ w32 ⟨rfl, hm32⟩
          replace hL := hL.gr hm32
          replace hv := hv.gr hm32
          replace ht := ht.gr hm32
          replace h := h.gr hm32
          replace k := k.gr hm32
          replace hb5 := Blk.gr hb5 hm32
          replace hbd := hbd.gr hm32
          replace hm0 := hm0.trans hm32
          replace hM := hM.gr hm32
          replace hn73 := hn73.gr hm32
          replace hd73 := hd73.gr hm32
          replace hb13 := Blk.gr hb13 hm32
          replace hn90 := hn90.gr hm32
          replace hd90 := hd90.gr hm32
          clear hm32
          refine L.v (R1.pickT rfl rfl) rfl <| L.v (R1.assign rfl) rfl <| L.nil <| X.seq <| W.ret <| X.result1 rfl (.tmp rfl .nil) ?_
          exact ⟨rfl, hm0⟩
         ·
          try simp only [bq, ne_eq] at hgd100
          refine L.off rfl rfl rfl rfl rfl <| L.off rfl rfl rfl rfl rfl <| L.off rfl rfl rfl rfl rfl <| L.v (R1.pickT rfl rfl) rfl <| L.v (R1.move rfl) rfl <| L.on rfl rfl rfl (R1.move rfl) rfl <| L.on rfl rfl rfl (R1.move rfl) rfl <| L.callOn rfl rfl rfl rfl (c_Rank hM hbd oksM) rfl ?_
          rintro _ w33 ⟨rs108, ok108, ⟨hP108, hrk108⟩, rfl, hm33⟩
          replace hL := hL.gr hm33
          replace hv := hv.gr hm33
          replace ht := ht.gr hm33
          replace h := h.gr hm33
          replace k := k.gr hm33
          replace hb5 := Blk.gr hb5 hm33
          replace hbd := hbd.gr hm33
          replace hm0 := hm0.trans hm33
          replace hM := hM.gr hm33
          replace hn73 := hn73.gr hm33
          replace hd73 := hd73.gr hm33
          replace hb13 := Blk.gr hb13 hm33
          replace hn90 := hn90.gr hm33
          replace hd90 := hd90.gr hm33
          clear hm33
          refine L.on rfl rfl rfl (R1.move rfl) rfl <| L.on rfl rfl rfl (R1.lenLay rfl hM tyS22) rfl <| L.on rfl rfl rfl (R1.move rfl) rfl <| L.on rfl rfl rfl (R1.minI rfl rfl) rfl <| L.on rfl rfl rfl ((R1.le rfl rfl).asB (c := true) (decide_eq_true (by have h9 := vecs_len (heldG (val.length : Int)) (cs.map (mtC val)); rw [List.length_map] at h9 ⊢; have h8 := mt_rank (n := val.length) (by rw [hN] at hP108; exact hP108); omega))) rfl <| L.v (R1.pickT rfl rfl) rfl <| L.v (R1.move rfl) rfl <| L.callOn rfl rfl rfl rfl (c_known10) rfl ?_
          rintro _ w34 ⟨rfl, hm34⟩
          replace hL := hL.gr hm34
          replace hv := hv.gr hm34
          replace ht := ht.gr hm34
          replace h := h.gr hm34
          replace k := k.gr hm34
          replace hb5 := Blk.gr hb5 hm34
          replace hbd := hbd.gr hm34
          replace hm0 := hm0.trans hm34
          replace hM := hM.gr hm34
          replace hn73 := hn73.gr hm34
          replace hd73 := hd73.gr hm34
          replace hb13 := Blk.gr hb13 hm34
          replace hn90 := hn90.gr hm34
          replace hd90 := hd90.gr hm34
          clear hm34
          refine L.v (R1.pickT rfl rfl) rfl <| L.v (R1.assign rfl) rfl <| L.nil <| X.seq <| W.ret <| X.result1 rfl (.tmp rfl .nil) ?_
          exact ⟨rfl, hm0⟩
    ·
     simp only [bq] at hgd32
     refine L.off rfl rfl rfl rfl rfl <| L.off rfl rfl rfl rfl rfl <| L.v (R1.pickT rfl rfl) rfl <| L.nil <| X.seq <| W.condT rfl <| W.seq <| W.region <| L.v (R1.assign rfl) rfl <| L.nil <| X.seq ?_
     refine W.ret <| X.thenRet <| X.result1 rfl (.tmp rfl .nil) ?_
     exact ⟨rfl, hm0⟩
   ·
    have hcc_ := hgd28
    refine L.off rfl rfl rfl rfl rfl <| L.off rfl rfl rfl rfl rfl <| L.v (R1.pickT rfl rfl) rfl <| L.v (R1.move rfl) rfl <| L.off rfl rfl rfl rfl rfl <| L.off rfl rfl rfl rfl rfl <| L.v (R1.pickT rfl rfl) rfl <| L.nil <| X.seq <| W.condT rfl <| W.seq ?_
    refine W.region <| L.v (R1.assign rfl) rfl <| L.nil <| X.seq <| W.ret <| X.thenRet <| X.result1 rfl (.tmp rfl .nil) ?_
    exact ⟨rfl, hm0⟩
  ·
   have hcc_ := hgd24
   refine L.off rfl rfl rfl rfl rfl <| L.off rfl rfl rfl rfl rfl <| L.v (R1.pickT rfl rfl) rfl <| L.v (R1.move rfl) rfl <| L.off rfl rfl rfl rfl rfl <| L.off rfl rfl rfl rfl rfl <| L.v (R1.pickT rfl rfl) rfl <| L.v (R1.move rfl) rfl <| L.off rfl rfl rfl rfl rfl <| L.off rfl rfl rfl rfl rfl <| L.v (R1.pickT rfl rfl) rfl ?_
   refine L.nil <| X.seq <| W.condT rfl <| W.seq <| W.region <| L.v (R1.assign rfl) rfl <| L.nil <| X.seq <| W.ret <| X.thenRet <| X.result1 rfl (.tmp rfl .nil) ?_
   exact ⟨rfl, hm0⟩
 ·
  have hcc_ := hgd19
  refine L.off rfl rfl rfl rfl rfl <| L.off rfl rfl rfl rfl rfl <| L.off rfl rfl rfl rfl rfl <| L.v (R1.pickT rfl rfl) rfl <| L.v (R1.move rfl) rfl <| L.off rfl rfl rfl rfl rfl <| L.off rfl rfl rfl rfl rfl <| L.v (R1.pickT rfl rfl) rfl <| L.v (R1.move rfl) rfl <| L.off rfl rfl rfl rfl rfl <| L.off rfl rfl rfl rfl rfl ?_
  refine L.v (R1.pickT rfl rfl) rfl <| L.v (R1.move rfl) rfl <| L.off rfl rfl rfl rfl rfl <| L.off rfl rfl rfl rfl rfl <| L.v (R1.pickT rfl rfl) rfl <| L.nil <| X.seq <| W.condT rfl <| W.seq <| W.region <| L.v (R1.assign rfl) rfl ?_
  refine L.nil <| X.seq <| W.ret <| X.thenRet <| X.result1 rfl (.tmp rfl .nil) ?_
  exact ⟨rfl, hm0⟩

end Go.Proofs.Ytkjllbpfcokalaa
