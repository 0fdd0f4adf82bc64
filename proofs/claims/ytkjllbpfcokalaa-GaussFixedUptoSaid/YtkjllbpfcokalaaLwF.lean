/- Walks: what the functions compute. -/
import Derived.Test.YtkjllbpfcokalaaLpF
import Derived.Test.YtkjllbpfcokalaaGPA
namespace Go.Proofs.Ytkjllbpfcokalaa
open Go.RowKit
set_option linter.unusedVariables false
set_option linter.unusedSimpArgs false
set_option maxRecDepth 10000
set_option maxHeartbeats 2000000 in
theorem c_GaussFixed {w : World} {vl : Value} {cs : List CR} {v z0 : Int} (hL : Lay rdC [] w vl cs) (hb : szCs cs ≤ 4194304) :
    Ret Try.prog 7 #[vl, .int .i64 v, .int .i64 z0] w (fun r w' => r = .bool true ∧ Mod [] w w') := by
 have hbd : Bd [] w := fun m hm => by cases hm
 obtain ⟨TL, tL, rfl⟩ := hL.form
 have hcl := cs_len cs
 refine Ret.of (vs := [.slice TL cs.length tL, .int .i64 v, .int .i64 z0]) (n := 80) Try.func7 rfl rfl rfl rfl ?_
 have hm0 : Mod [] w w := Mod.refl _ _
 refine W.seq <| W.region <| L.v (R1.assign rfl) rfl <| L.nil <| X.seq <| W.seq <| W.seq <| W.region <| L.v (R1.move rfl) rfl <| L.call rfl (c_heavy_pantographlaw10 hL (hb)) rfl ?_
 rintro _ w1 ⟨rfl, hm1⟩
 replace hL := hL.gr hm1
 replace hbd := hbd.gr hm1
 replace hm0 := hm0.trans hm1
 clear hm1
 refine L.v (R1.move rfl) rfl ?_
 cases hgd14 : (decide (150 < szCs cs))
 ·
  have hcc_ := hgd14
  refine L.on rfl rfl rfl (R1.move rfl) rfl <| L.on rfl rfl rfl ((R1.lt rfl rfl).asB (c := decide (z0 < 1)) (rfl)) rfl <| L.v (R1.pickF rfl rfl) rfl <| L.v (R1.move rfl) rfl ?_
  cases hgd18 : decide (z0 < 1)
  ·
   simp only [bq] at hgd18
   refine L.on rfl rfl rfl (R1.move rfl) rfl <| L.on rfl rfl rfl ((R1.gt rfl rfl).asB (c := decide (8 < z0)) (rfl)) rfl <| L.v (R1.pickF rfl rfl) rfl <| L.v (R1.move rfl) rfl ?_
   cases hgd22 : decide (8 < z0)
   ·
    simp only [bq] at hgd22
    refine L.on rfl rfl rfl (R1.move rfl) rfl <| L.on rfl rfl rfl ((R1.lt rfl rfl).asB (c := decide (v < 0)) (rfl)) rfl <| L.v (R1.pickF rfl rfl) rfl <| L.v (R1.move rfl) rfl ?_
    cases hgd26 : decide (v < 0)
    ·
     simp only [bq] at hgd26
     refine L.on rfl rfl rfl (R1.move rfl) rfl <| L.on rfl rfl rfl (R1.move rfl) rfl <| L.on rfl rfl rfl ((R1.ge rfl rfl).asB (c := decide (z0 ≤ v)) (rfl)) rfl <| L.v (R1.pickF rfl rfl) rfl <| L.v (R1.move rfl) rfl ?_
     cases hgd31 : decide (z0 ≤ v)
     ·
      simp only [bq] at hgd31
      have hsm := sm150 (by simpa using hgd14)
      have oks := oks12 (z0 := z0) hsm (by omega)
      refine L.on rfl rfl rfl (R1.move rfl) rfl <| L.on rfl rfl rfl (R1.move rfl) rfl <| L.callOn rfl rfl rfl rfl (c_Consistent10 hL hbd oks) rfl ?_
      rintro _ w2 ⟨rs34, ok34, hP34, rfl, hm2⟩
      replace hL := hL.gr hm2
      replace hbd := hbd.gr hm2
      replace hm0 := hm0.trans hm2
      clear hm2
      refine L.on rfl rfl rfl (R1.not rfl) rfl <| L.v (R1.pickF rfl rfl) rfl <| L.nil <| X.seq <| W.cond rfl ?_ ?_
      ·
       intro hc36
       try simp only [bq, ne_eq] at hc36
       refine W.seq <| W.region <| L.v (R1.assign rfl) rfl <| L.nil <| X.seq <| W.ret <| X.thenRet <| X.result1 rfl (.tmp rfl .nil) ?_
       exact ⟨rfl, hm0⟩
      ·
       intro hc36
       try simp only [bq, ne_eq] at hc36
       have hhz : heldG z0 = z0.toNat := by unfold heldG; omega
       have hv1 : v < (heldG z0 : Int) := by omega
       have hv0 : 0 ≤ v := by omega
       refine W.skip <| X.seq <| W.seq <| W.region <| L.v (R1.move rfl) rfl <| L.v (R1.move rfl) rfl <| L.v (R1.move rfl) rfl <| L.call rfl (c_Fixed hL hbd oks) rfl ?_
       rintro _ w3 ⟨rs41, ok41, _, hP41, rfl, ⟨s41, A41, c41, B41, e41, xs41, ys41, rfl, hn41, hd41, hq41, hla41, hlb41⟩, hm3⟩
       replace hL := hL.gr hm3
       replace hbd := hbd.gr hm3
       replace hm0 := hm0.trans hm3
       clear hm3
       obtain ⟨x, hx⟩ : ∃ x, x = (fixT z0 v rs41 ok41).getD 0 := ⟨_, rfl⟩
       obtain ⟨bb, hbb⟩ : ∃ bb, bb = (fixT z0 v rs41 ok41).isSome := ⟨_, rfl⟩
       rw [← hx] at hq41
       rw [← hbb]
       refine L.v (R1.move rfl) rfl <| L.v (R1.extract rfl rfl) rfl <| L.v (R1.extract rfl rfl) rfl <| L.alloc tyZ27 rfl ?_
       intro g7 w4 hN7
       replace hL := hL.new hN7
       replace hbd := hbd.new hN7
       have hge_g7 := New.ge hN7 hm0.size
       replace hm0 := hm0.trans (hN7.mod.mono (by simp))
       replace hn41 := hn41.new hN7
       replace hd41 := hd41.new hN7
       have hb7 := hN7.blk
       clear hN7
       refine L.storeBox rfl rfl hb7 rfl rfl tyG27 ?_
       intro w5 hb7' hm5
       replace hL := hL.mod hm5 (by simp)
       replace hbd := hbd.gr hm5
       replace hm0 := hm0.old1 hm5 hge_g7
       replace hn41 := hn41.mod hm5 (by simp)
       replace hd41 := hd41.mod hm5 (by simp)
       clear hm5
       replace hb7 := hb7'; clear hb7'
       refine L.v (R1.assign rfl) rfl <| L.nil ?_
       have hok : ok41 = true := (PA_ok hP41 hP34 (Eqv.refl _)).trans hc36
       have hfx := fx_fit hP41 (by omega) hx
       have FF41 : Fit x 5799426 := by have h9 := hfx.1.neg; rwa [Rat.neg_neg] at h9
       have oksB := oks8 (z0 := z0) hsm (by omega)
       have oksW := oks_fx (v := v) (z0 := z0) hsm (by omega) hfx.2
       have F49 := hfx.1
       refine X.seq <| W.seq <| W.cut (ι := Nat × Option Addr × Nat × Option Addr × Nat × Nat) (fun (g47, A49, c49, B49, e49, g9) => [(0, .slice TL cs.length tL), (1, .int .i64 v), (2, .int .i64 z0), (8, .bool bb), (9, .pointer (some ⟨g9, 0, none⟩))]) (fun (g47, A49, c49, B49, e49, g9) w_ => Lay rdC [] w_ (.slice TL cs.length tL) cs ∧ Lay rdT [] w_ (.slice (some ⟨g47, 0, none⟩) 1 1) (fxC v (-x)).ts ∧ U32 [] w_ (.slice A49 (toL (-x).num.natAbs).length c49) (toL (-x).num.natAbs) ∧ U32 [] w_ (.slice B49 (toL (-x).den).length e49) (toL (-x).den) ∧ Blk w_ g9 29 #[.int .i64 0, .slice (some ⟨g47, 0, none⟩) 1 1, .bool (decide ((-x).num < 0)), .slice A49 (toL (-x).num.natAbs).length c49, .slice B49 (toL (-x).den).length e49] ∧ Bd [] w_ ∧ Mod [] w w_) ?_ ?_
       ·
        refine W.drawW (T := [8]) rfl (by decide +kernel) (NoHang.join (NoHang.then NoHang.post)) (fun w6 hm6 => ?_)
        replace hL := hL.gr hm6
        replace hbd := hbd.gr hm6
        replace hm0 := hm0.trans hm6
        replace hn41 := hn41.gr hm6
        replace hd41 := hd41.gr hm6
        replace hb7 := Blk.gr hb7 hm6
        have hS1 : Mod [] w6 w6 := Mod.refl _ _
        clear hm6
        have hb7_s := hb7
        refine D.take 0 rfl (by decide +kernel) (fun w_ hS => (R1.move rfl)) hS1 rfl <| D.take 4 rfl (by decide +kernel) (fun w_ hS => (R1.loadBox rfl (Blk.gr hb7_s hS) tyG27)) hS1 rfl <| D.many (rs := [1, 7]) (by decide +kernel) rfl ?_
        intro i_ hi_
        simp only [List.mem_cons, List.not_mem_nil, or_false] at hi_
        rcases hi_ with rfl | rfl
        ·
         refine ⟨_, rfl, fun hX => ?_⟩
         refine L.call rfl (c_ref2_Int (n := 1) (by decide) (by decide) hbd) rfl ?_
         rintro _ w7 ⟨⟨A45, c45, B45, e45, rfl, hn45, hd45⟩, hm7⟩
         replace hL := hL.gr hm7
         replace hbd := hbd.gr hm7
         replace hm0 := hm0.trans hm7
         replace hn41 := hn41.gr hm7
         replace hd41 := hd41.gr hm7
         replace hb7 := Blk.gr hb7 hm7
         replace hS1 := hS1.trans hm7
         clear hm7
         have F45 := Fit.int (n := 1) (by decide) (by decide)
         refine L.nil (hX _ _ ⟨.inr hS1, ?_⟩)
         refine D.take 2 rfl (by decide +kernel) (fun w_ hS => (R1.build (vs := [.int .i64 v, .agg #[.bool (decide ((((1 : Int)) : Rat).num < 0)), .slice A45 (toL (((1 : Int)) : Rat).num.natAbs).length c45, .slice B45 (toL (((1 : Int)) : Rat).den).length e45]]) rfl (built_T01 _ _ _ _ _ _ _ _))) hS1 rfl <| D.many (rs := [3, 5, 7]) (by decide +kernel) rfl ?_
         intro i_ hi_
         simp only [List.mem_cons, List.not_mem_nil, or_false] at hi_
         rcases hi_ with rfl | rfl | rfl
         ·
          refine ⟨_, rfl, fun hX => ?_⟩
          refine L.buildSlice (cells := [.int .i64 v, .bool (decide ((((1 : Int)) : Rat).num < 0)), .slice A45 (toL (((1 : Int)) : Rat).num.natAbs).length c45, .slice B45 (toL (((1 : Int)) : Rat).den).length e45]) rfl tyS24 tyZ50 (fillN1 _ _ _ _ _ _ _ _) (by decide) (by decide) rfl ?_
          intro g47 w8 hN47
          have hgs_g47 := New.ge hN47 hS1.size
          replace hS1 := hS1.trans hN47.mod
          replace hL := hL.new hN47
          replace hbd := hbd.new hN47
          have hge_g47 := New.ge hN47 hm0.size
          replace hm0 := hm0.trans (hN47.mod.mono (by simp))
          replace hn41 := hn41.new hN47
          replace hd41 := hd41.new hN47
          have hne_g7_g47 := hb7.ne_ hN47
          replace hb7 := Blk.gr hb7 hN47.mod
          replace hn45 := hn45.new hN47
          replace hd45 := hd45.new hN47
          have hb47 := hN47.blk
          clear hN47
          refine L.nil (hX _ _ ⟨.inr hS1, ?_⟩)
          refine D.many (rs := [5, 7]) (by decide +kernel) rfl ?_
          intro i_ hi_
          simp only [List.mem_cons, List.not_mem_nil, or_false] at hi_
          rcases hi_ with rfl | rfl
          ·
           refine ⟨_, rfl, fun hX => ?_⟩
           refine L.call rfl (c_ref2_Neg (q := x) hq41 hn41 hd41 hbd (Nat.le_trans hla41 (by decide)) (Nat.le_trans hlb41 (by decide))) rfl ?_
           rintro _ w9 ⟨⟨A49, c49, B49, e49, rfl, hn49, hd49⟩, hm9⟩
           replace hL := hL.gr hm9
           replace hbd := hbd.gr hm9
           replace hm0 := hm0.trans hm9
           replace hn41 := hn41.gr hm9
           replace hd41 := hd41.gr hm9
           replace hb7 := Blk.gr hb7 hm9
           replace hn45 := hn45.gr hm9
           replace hd45 := hd45.gr hm9
           replace hb47 := Blk.gr hb47 hm9
           replace hS1 := hS1.trans hm9
           clear hm9
           have F49 := Fit.neg FF41
           refine L.nil (hX _ _ ⟨.inr hS1, ?_⟩)
           refine D.take 6 rfl (by decide +kernel) (fun w_ hS => (R1.build (vs := [.slice (some ⟨g47, 0, none⟩) 1 1, .agg #[.bool (decide ((-x).num < 0)), .slice A49 (toL (-x).num.natAbs).length c49, .slice B49 (toL (-x).den).length e49]]) rfl (built_C12g _ _ _ _ _ _ _ _ _ _))) hS1 rfl <| D.one 7 rfl (by decide +kernel) (fun hX => ?_)
           refine L.alloc tyZ29 rfl ?_
           intro g9 w10 hN9
           replace hS1 := hS1.trans hN9.mod
           replace hL := hL.new hN9
           replace hbd := hbd.new hN9
           have hge_g9 := New.ge hN9 hm0.size
           replace hm0 := hm0.trans (hN9.mod.mono (by simp))
           replace hn41 := hn41.new hN9
           replace hd41 := hd41.new hN9
           have hne_g7_g9 := hb7.ne_ hN9
           replace hb7 := Blk.gr hb7 hN9.mod
           replace hn45 := hn45.new hN9
           replace hd45 := hd45.new hN9
           have hne_g47_g9 := hb47.ne_ hN9
           replace hb47 := Blk.gr hb47 hN9.mod
           replace hn49 := hn49.new hN9
           replace hd49 := hd49.new hN9
           have hb9 := hN9.blk
           clear hN9
           refine L.nil (hX _ _ ⟨.inr hS1, ?_⟩)
           refine D.one 8 rfl (by decide +kernel) (fun hX => ?_)
           refine L.storeBox rfl rfl hb9 rfl rfl tyG29 ?_
           intro w11 hb9' hm11
           replace hL := hL.mod hm11 (by simp)
           replace hbd := hbd.gr hm11
           replace hm0 := hm0.old1 hm11 hge_g9
           replace hn41 := hn41.mod hm11 (by simp)
           replace hd41 := hd41.mod hm11 (by simp)
           replace hb7 := Blk.far hb7 hm11 (by first | exact hne_g7_g9 | exact (hne_g9_g7).symm)
           replace hn45 := hn45.mod hm11 (by simp)
           replace hd45 := hd45.mod hm11 (by simp)
           replace hb47 := Blk.far hb47 hm11 (by first | exact hne_g47_g9 | exact (hne_g9_g47).symm)
           replace hn49 := hn49.mod hm11 (by simp)
           replace hd49 := hd49.mod hm11 (by simp)
           clear hm11
           replace hb9 := hb9'; clear hb9'
           refine L.nil (hX _ _ ⟨.inl rfl, ?_⟩)
           refine D.done (by decide +kernel) ?_ _
           refine X.join (g47, A49, c49, B49, e49, g9) ?_ ?_
           · exact ⟨rfl, rfl, rfl, rfl, rfl, trivial⟩
           ·
            have hT : Lay rdT [] w11 (.slice (some ⟨g47, 0, none⟩) 1 1) (fxC v (-x)).ts := Lay.of_blk (css := [[.int .i64 v, .bool (decide ((((1 : Int)) : Rat).num < 0)), .slice A45 (toL (((1 : Int)) : Rat).num.natAbs).length c45, .slice B45 (toL (((1 : Int)) : Rat).den).length e45]]) hb47 (LayL.one _ (⟨v, QR.nf (((1 : Int)) : Rat)⟩ : TR) (rdT_mk (t := ⟨v, QR.nf (((1 : Int)) : Rat)⟩) (hn45.sub (fun b hb => by cases hb)) (hd45.sub (fun b hb => by cases hb)))) rfl rfl (by decide) (by simp)
            exact ⟨hL.sub (fun b hb => by cases hb), hT, hn49.sub (fun b hb => by cases hb), hd49.sub (fun b hb => by cases hb), hb9, hbd.sub (fun b hb => by cases hb), hm0⟩
          ·
           refine ⟨_, rfl, fun hX => ?_⟩
           refine L.alloc tyZ29 rfl ?_
           intro g9 w12 hN9
           replace hS1 := hS1.trans hN9.mod
           replace hL := hL.new hN9
           replace hbd := hbd.new hN9
           have hge_g9 := New.ge hN9 hm0.size
           replace hm0 := hm0.trans (hN9.mod.mono (by simp))
           replace hn41 := hn41.new hN9
           replace hd41 := hd41.new hN9
           have hne_g7_g9 := hb7.ne_ hN9
           replace hb7 := Blk.gr hb7 hN9.mod
           replace hn45 := hn45.new hN9
           replace hd45 := hd45.new hN9
           have hne_g47_g9 := hb47.ne_ hN9
           replace hb47 := Blk.gr hb47 hN9.mod
           have hb9 := hN9.blk
           clear hN9
           refine L.nil (hX _ _ ⟨.inr hS1, ?_⟩)
           refine D.one 5 rfl (by decide +kernel) (fun hX => ?_)
           refine L.call rfl (c_ref2_Neg (q := x) hq41 hn41 hd41 hbd (Nat.le_trans hla41 (by decide)) (Nat.le_trans hlb41 (by decide))) rfl ?_
           rintro _ w13 ⟨⟨A49, c49, B49, e49, rfl, hn49, hd49⟩, hm13⟩
           replace hL := hL.gr hm13
           replace hbd := hbd.gr hm13
           replace hm0 := hm0.trans hm13
           replace hn41 := hn41.gr hm13
           replace hd41 := hd41.gr hm13
           replace hb7 := Blk.gr hb7 hm13
           replace hn45 := hn45.gr hm13
           replace hd45 := hd45.gr hm13
           replace hb47 := Blk.gr hb47 hm13
           replace hb9 := Blk.gr hb9 hm13
           replace hS1 := hS1.trans hm13
           clear hm13
           have F49 := Fit.neg FF41
           refine L.nil (hX _ _ ⟨.inr hS1, ?_⟩)
           refine D.take 6 rfl (by decide +kernel) (fun w_ hS => (R1.build (vs := [.slice (some ⟨g47, 0, none⟩) 1 1, .agg #[.bool (decide ((-x).num < 0)), .slice A49 (toL (-x).num.natAbs).length c49, .slice B49 (toL (-x).den).length e49]]) rfl (built_C12g _ _ _ _ _ _ _ _ _ _))) hS1 rfl <| D.one 8 rfl (by decide +kernel) (fun hX => ?_)
           refine L.storeBox rfl rfl hb9 rfl rfl tyG29 ?_
           intro w14 hb9' hm14
           replace hL := hL.mod hm14 (by simp)
           replace hbd := hbd.gr hm14
           replace hm0 := hm0.old1 hm14 hge_g9
           replace hn41 := hn41.mod hm14 (by simp)
           replace hd41 := hd41.mod hm14 (by simp)
           replace hb7 := Blk.far hb7 hm14 (by first | exact hne_g7_g9 | exact (hne_g9_g7).symm)
           replace hn45 := hn45.mod hm14 (by simp)
           replace hd45 := hd45.mod hm14 (by simp)
           replace hb47 := Blk.far hb47 hm14 (by first | exact hne_g47_g9 | exact (hne_g9_g47).symm)
           replace hn49 := hn49.mod hm14 (by simp)
           replace hd49 := hd49.mod hm14 (by simp)
           clear hm14
           replace hb9 := hb9'; clear hb9'
           refine L.nil (hX _ _ ⟨.inl rfl, ?_⟩)
           refine D.done (by decide +kernel) ?_ _
           refine X.join (g47, A49, c49, B49, e49, g9) ?_ ?_
           · exact ⟨rfl, rfl, rfl, rfl, rfl, trivial⟩
           ·
            have hT : Lay rdT [] w14 (.slice (some ⟨g47, 0, none⟩) 1 1) (fxC v (-x)).ts := Lay.of_blk (css := [[.int .i64 v, .bool (decide ((((1 : Int)) : Rat).num < 0)), .slice A45 (toL (((1 : Int)) : Rat).num.natAbs).length c45, .slice B45 (toL (((1 : Int)) : Rat).den).length e45]]) hb47 (LayL.one _ (⟨v, QR.nf (((1 : Int)) : Rat)⟩ : TR) (rdT_mk (t := ⟨v, QR.nf (((1 : Int)) : Rat)⟩) (hn45.sub (fun b hb => by cases hb)) (hd45.sub (fun b hb => by cases hb)))) rfl rfl (by decide) (by simp)
            exact ⟨hL.sub (fun b hb => by cases hb), hT, hn49.sub (fun b hb => by cases hb), hd49.sub (fun b hb => by cases hb), hb9, hbd.sub (fun b hb => by cases hb), hm0⟩
         ·
          refine ⟨_, rfl, fun hX => ?_⟩
          refine L.call rfl (c_ref2_Neg (q := x) hq41 hn41 hd41 hbd (Nat.le_trans hla41 (by decide)) (Nat.le_trans hlb41 (by decide))) rfl ?_
          rintro _ w15 ⟨⟨A49, c49, B49, e49, rfl, hn49, hd49⟩, hm15⟩
          replace hL := hL.gr hm15
          replace hbd := hbd.gr hm15
          replace hm0 := hm0.trans hm15
          replace hn41 := hn41.gr hm15
          replace hd41 := hd41.gr hm15
          replace hb7 := Blk.gr hb7 hm15
          replace hn45 := hn45.gr hm15
          replace hd45 := hd45.gr hm15
          replace hS1 := hS1.trans hm15
          clear hm15
          have F49 := Fit.neg FF41
          refine L.nil (hX _ _ ⟨.inr hS1, ?_⟩)
          refine D.many (rs := [3, 7]) (by decide +kernel) rfl ?_
          intro i_ hi_
          simp only [List.mem_cons, List.not_mem_nil, or_false] at hi_
          rcases hi_ with rfl | rfl
          ·
           refine ⟨_, rfl, fun hX => ?_⟩
           refine L.buildSlice (cells := [.int .i64 v, .bool (decide ((((1 : Int)) : Rat).num < 0)), .slice A45 (toL (((1 : Int)) : Rat).num.natAbs).length c45, .slice B45 (toL (((1 : Int)) : Rat).den).length e45]) rfl tyS24 tyZ50 (fillN1 _ _ _ _ _ _ _ _) (by decide) (by decide) rfl ?_
           intro g47 w16 hN47
           have hgs_g47 := New.ge hN47 hS1.size
           replace hS1 := hS1.trans hN47.mod
           replace hL := hL.new hN47
           replace hbd := hbd.new hN47
           have hge_g47 := New.ge hN47 hm0.size
           replace hm0 := hm0.trans (hN47.mod.mono (by simp))
           replace hn41 := hn41.new hN47
           replace hd41 := hd41.new hN47
           have hne_g7_g47 := hb7.ne_ hN47
           replace hb7 := Blk.gr hb7 hN47.mod
           replace hn45 := hn45.new hN47
           replace hd45 := hd45.new hN47
           replace hn49 := hn49.new hN47
           replace hd49 := hd49.new hN47
           have hb47 := hN47.blk
           clear hN47
           refine L.nil (hX _ _ ⟨.inr hS1, ?_⟩)
           refine D.take 6 rfl (by decide +kernel) (fun w_ hS => (R1.build (vs := [.slice (some ⟨g47, 0, none⟩) 1 1, .agg #[.bool (decide ((-x).num < 0)), .slice A49 (toL (-x).num.natAbs).length c49, .slice B49 (toL (-x).den).length e49]]) rfl (built_C12g _ _ _ _ _ _ _ _ _ _))) hS1 rfl <| D.one 7 rfl (by decide +kernel) (fun hX => ?_)
           refine L.alloc tyZ29 rfl ?_
           intro g9 w17 hN9
           replace hS1 := hS1.trans hN9.mod
           replace hL := hL.new hN9
           replace hbd := hbd.new hN9
           have hge_g9 := New.ge hN9 hm0.size
           replace hm0 := hm0.trans (hN9.mod.mono (by simp))
           replace hn41 := hn41.new hN9
           replace hd41 := hd41.new hN9
           have hne_g7_g9 := hb7.ne_ hN9
           replace hb7 := Blk.gr hb7 hN9.mod
           replace hn45 := hn45.new hN9
           replace hd45 := hd45.new hN9
           replace hn49 := hn49.new hN9
           replace hd49 := hd49.new hN9
           have hne_g47_g9 := hb47.ne_ hN9
           replace hb47 := Blk.gr hb47 hN9.mod
           have hb9 := hN9.blk
           clear hN9
           refine L.nil (hX _ _ ⟨.inr hS1, ?_⟩)
           refine D.one 8 rfl (by decide +kernel) (fun hX => ?_)
           refine L.storeBox rfl rfl hb9 rfl rfl tyG29 ?_
           intro w18 hb9' hm18
           replace hL := hL.mod hm18 (by simp)
           replace hbd := hbd.gr hm18
           replace hm0 := hm0.old1 hm18 hge_g9
           replace hn41 := hn41.mod hm18 (by simp)
           replace hd41 := hd41.mod hm18 (by simp)
           replace hb7 := Blk.far hb7 hm18 (by first | exact hne_g7_g9 | exact (hne_g9_g7).symm)
           replace hn45 := hn45.mod hm18 (by simp)
           replace hd45 := hd45.mod hm18 (by simp)
           replace hn49 := hn49.mod hm18 (by simp)
           replace hd49 := hd49.mod hm18 (by simp)
           replace hb47 := Blk.far hb47 hm18 (by first | exact hne_g47_g9 | exact (hne_g9_g47).symm)
           clear hm18
           replace hb9 := hb9'; clear hb9'
           refine L.nil (hX _ _ ⟨.inl rfl, ?_⟩)
           refine D.done (by decide +kernel) ?_ _
           refine X.join (g47, A49, c49, B49, e49, g9) ?_ ?_
           · exact ⟨rfl, rfl, rfl, rfl, rfl, trivial⟩
           ·
            have hT : Lay rdT [] w18 (.slice (some ⟨g47, 0, none⟩) 1 1) (fxC v (-x)).ts := Lay.of_blk (css := [[.int .i64 v, .bool (decide ((((1 : Int)) : Rat).num < 0)), .slice A45 (toL (((1 : Int)) : Rat).num.natAbs).length c45, .slice B45 (toL (((1 : Int)) : Rat).den).length e45]]) hb47 (LayL.one _ (⟨v, QR.nf (((1 : Int)) : Rat)⟩ : TR) (rdT_mk (t := ⟨v, QR.nf (((1 : Int)) : Rat)⟩) (hn45.sub (fun b hb => by cases hb)) (hd45.sub (fun b hb => by cases hb)))) rfl rfl (by decide) (by simp)
            exact ⟨hL.sub (fun b hb => by cases hb), hT, hn49.sub (fun b hb => by cases hb), hd49.sub (fun b hb => by cases hb), hb9, hbd.sub (fun b hb => by cases hb), hm0⟩
          ·
           refine ⟨_, rfl, fun hX => ?_⟩
           refine L.alloc tyZ29 rfl ?_
           intro g9 w19 hN9
           replace hS1 := hS1.trans hN9.mod
           replace hL := hL.new hN9
           replace hbd := hbd.new hN9
           have hge_g9 := New.ge hN9 hm0.size
           replace hm0 := hm0.trans (hN9.mod.mono (by simp))
           replace hn41 := hn41.new hN9
           replace hd41 := hd41.new hN9
           have hne_g7_g9 := hb7.ne_ hN9
           replace hb7 := Blk.gr hb7 hN9.mod
           replace hn45 := hn45.new hN9
           replace hd45 := hd45.new hN9
           replace hn49 := hn49.new hN9
           replace hd49 := hd49.new hN9
           have hb9 := hN9.blk
           clear hN9
           refine L.nil (hX _ _ ⟨.inr hS1, ?_⟩)
           refine D.one 3 rfl (by decide +kernel) (fun hX => ?_)
           refine L.buildSlice (cells := [.int .i64 v, .bool (decide ((((1 : Int)) : Rat).num < 0)), .slice A45 (toL (((1 : Int)) : Rat).num.natAbs).length c45, .slice B45 (toL (((1 : Int)) : Rat).den).length e45]) rfl tyS24 tyZ50 (fillN1 _ _ _ _ _ _ _ _) (by decide) (by decide) rfl ?_
           intro g47 w20 hN47
           have hgs_g47 := New.ge hN47 hS1.size
           replace hS1 := hS1.trans hN47.mod
           replace hL := hL.new hN47
           replace hbd := hbd.new hN47
           have hge_g47 := New.ge hN47 hm0.size
           replace hm0 := hm0.trans (hN47.mod.mono (by simp))
           replace hn41 := hn41.new hN47
           replace hd41 := hd41.new hN47
           have hne_g7_g47 := hb7.ne_ hN47
           replace hb7 := Blk.gr hb7 hN47.mod
           replace hn45 := hn45.new hN47
           replace hd45 := hd45.new hN47
           replace hn49 := hn49.new hN47
           replace hd49 := hd49.new hN47
           have hne_g9_g47 := hb9.ne_ hN47
           replace hb9 := Blk.gr hb9 hN47.mod
           have hb47 := hN47.blk
           clear hN47
           refine L.nil (hX _ _ ⟨.inr hS1, ?_⟩)
           refine D.take 6 rfl (by decide +kernel) (fun w_ hS => (R1.build (vs := [.slice (some ⟨g47, 0, none⟩) 1 1, .agg #[.bool (decide ((-x).num < 0)), .slice A49 (toL (-x).num.natAbs).length c49, .slice B49 (toL (-x).den).length e49]]) rfl (built_C12g _ _ _ _ _ _ _ _ _ _))) hS1 rfl <| D.one 8 rfl (by decide +kernel) (fun hX => ?_)
           refine L.storeBox rfl rfl hb9 rfl rfl tyG29 ?_
           intro w21 hb9' hm21
           replace hL := hL.mod hm21 (by simp)
           replace hbd := hbd.gr hm21
           replace hm0 := hm0.old1 hm21 hge_g9
           replace hn41 := hn41.mod hm21 (by simp)
           replace hd41 := hd41.mod hm21 (by simp)
           replace hb7 := Blk.far hb7 hm21 (by first | exact hne_g7_g9 | exact (hne_g9_g7).symm)
           replace hn45 := hn45.mod hm21 (by simp)
           replace hd45 := hd45.mod hm21 (by simp)
           replace hn49 := hn49.mod hm21 (by simp)
           replace hd49 := hd49.mod hm21 (by simp)
           replace hb47 := Blk.far hb47 hm21 (by first | exact hne_g47_g9 | exact (hne_g9_g47).symm)
           clear hm21
           replace hb9 := hb9'; clear hb9'
           refine L.nil (hX _ _ ⟨.inl rfl, ?_⟩)
           refine D.done (by decide +kernel) ?_ _
           refine X.join (g47, A49, c49, B49, e49, g9) ?_ ?_
           · exact ⟨rfl, rfl, rfl, rfl, rfl, trivial⟩
           ·
            have hT : Lay rdT [] w21 (.slice (some ⟨g47, 0, none⟩) 1 1) (fxC v (-x)).ts := Lay.of_blk (css := [[.int .i64 v, .bool (decide ((((1 : Int)) : Rat).num < 0)), .slice A45 (toL (((1 : Int)) : Rat).num.natAbs).length c45, .slice B45 (toL (((1 : Int)) : Rat).den).length e45]]) hb47 (LayL.one _ (⟨v, QR.nf (((1 : Int)) : Rat)⟩ : TR) (rdT_mk (t := ⟨v, QR.nf (((1 : Int)) : Rat)⟩) (hn45.sub (fun b hb => by cases hb)) (hd45.sub (fun b hb => by cases hb)))) rfl rfl (by decide) (by simp)
            exact ⟨hL.sub (fun b hb => by cases hb), hT, hn49.sub (fun b hb => by cases hb), hd49.sub (fun b hb => by cases hb), hb9, hbd.sub (fun b hb => by cases hb), hm0⟩
         ·
          refine ⟨_, rfl, fun hX => ?_⟩
          refine L.alloc tyZ29 rfl ?_
          intro g9 w22 hN9
          replace hS1 := hS1.trans hN9.mod
          replace hL := hL.new hN9
          replace hbd := hbd.new hN9
          have hge_g9 := New.ge hN9 hm0.size
          replace hm0 := hm0.trans (hN9.mod.mono (by simp))
          replace hn41 := hn41.new hN9
          replace hd41 := hd41.new hN9
          have hne_g7_g9 := hb7.ne_ hN9
          replace hb7 := Blk.gr hb7 hN9.mod
          replace hn45 := hn45.new hN9
          replace hd45 := hd45.new hN9
          have hb9 := hN9.blk
          clear hN9
          refine L.nil (hX _ _ ⟨.inr hS1, ?_⟩)
          refine D.many (rs := [3, 5]) (by decide +kernel) rfl ?_
          intro i_ hi_
          simp only [List.mem_cons, List.not_mem_nil, or_false] at hi_
          rcases hi_ with rfl | rfl
          ·
           refine ⟨_, rfl, fun hX => ?_⟩
           refine L.buildSlice (cells := [.int .i64 v, .bool (decide ((((1 : Int)) : Rat).num < 0)), .slice A45 (toL (((1 : Int)) : Rat).num.natAbs).length c45, .slice B45 (toL (((1 : Int)) : Rat).den).length e45]) rfl tyS24 tyZ50 (fillN1 _ _ _ _ _ _ _ _) (by decide) (by decide) rfl ?_
           intro g47 w23 hN47
           have hgs_g47 := New.ge hN47 hS1.size
           replace hS1 := hS1.trans hN47.mod
           replace hL := hL.new hN47
           replace hbd := hbd.new hN47
           have hge_g47 := New.ge hN47 hm0.size
           replace hm0 := hm0.trans (hN47.mod.mono (by simp))
           replace hn41 := hn41.new hN47
           replace hd41 := hd41.new hN47
           have hne_g7_g47 := hb7.ne_ hN47
           replace hb7 := Blk.gr hb7 hN47.mod
           replace hn45 := hn45.new hN47
           replace hd45 := hd45.new hN47
           have hne_g9_g47 := hb9.ne_ hN47
           replace hb9 := Blk.gr hb9 hN47.mod
           have hb47 := hN47.blk
           clear hN47
           refine L.nil (hX _ _ ⟨.inr hS1, ?_⟩)
           refine D.one 5 rfl (by decide +kernel) (fun hX => ?_)
           refine L.call rfl (c_ref2_Neg (q := x) hq41 hn41 hd41 hbd (Nat.le_trans hla41 (by decide)) (Nat.le_trans hlb41 (by decide))) rfl ?_
           rintro _ w24 ⟨⟨A49, c49, B49, e49, rfl, hn49, hd49⟩, hm24⟩
           replace hL := hL.gr hm24
           replace hbd := hbd.gr hm24
           replace hm0 := hm0.trans hm24
           replace hn41 := hn41.gr hm24
           replace hd41 := hd41.gr hm24
           replace hb7 := Blk.gr hb7 hm24
           replace hn45 := hn45.gr hm24
           replace hd45 := hd45.gr hm24
           replace hb9 := Blk.gr hb9 hm24
           replace hb47 := Blk.gr hb47 hm24
           replace hS1 := hS1.trans hm24
           clear hm24
           have F49 := Fit.neg FF41
           refine L.nil (hX _ _ ⟨.inr hS1, ?_⟩)
           refine D.take 6 rfl (by decide +kernel) (fun w_ hS => (R1.build (vs := [.slice (some ⟨g47, 0, none⟩) 1 1, .agg #[.bool (decide ((-x).num < 0)), .slice A49 (toL (-x).num.natAbs).length c49, .slice B49 (toL (-x).den).length e49]]) rfl (built_C12g _ _ _ _ _ _ _ _ _ _))) hS1 rfl <| D.one 8 rfl (by decide +kernel) (fun hX => ?_)
           refine L.storeBox rfl rfl hb9 rfl rfl tyG29 ?_
           intro w25 hb9' hm25
           replace hL := hL.mod hm25 (by simp)
           replace hbd := hbd.gr hm25
           replace hm0 := hm0.old1 hm25 hge_g9
           replace hn41 := hn41.mod hm25 (by simp)
           replace hd41 := hd41.mod hm25 (by simp)
           replace hb7 := Blk.far hb7 hm25 (by first | exact hne_g7_g9 | exact (hne_g9_g7).symm)
           replace hn45 := hn45.mod hm25 (by simp)
           replace hd45 := hd45.mod hm25 (by simp)
           replace hb47 := Blk.far hb47 hm25 (by first | exact hne_g47_g9 | exact (hne_g9_g47).symm)
           replace hn49 := hn49.mod hm25 (by simp)
           replace hd49 := hd49.mod hm25 (by simp)
           clear hm25
           replace hb9 := hb9'; clear hb9'
           refine L.nil (hX _ _ ⟨.inl rfl, ?_⟩)
           refine D.done (by decide +kernel) ?_ _
           refine X.join (g47, A49, c49, B49, e49, g9) ?_ ?_
           · exact ⟨rfl, rfl, rfl, rfl, rfl, trivial⟩
           ·
            have hT : Lay rdT [] w25 (.slice (some ⟨g47, 0, none⟩) 1 1) (fxC v (-x)).ts := Lay.of_blk (css := [[.int .i64 v, .bool (decide ((((1 : Int)) : Rat).num < 0)), .slice A45 (toL (((1 : Int)) : Rat).num.natAbs).length c45, .slice B45 (toL (((1 : Int)) : Rat).den).length e45]]) hb47 (LayL.one _ (⟨v, QR.nf (((1 : Int)) : Rat)⟩ : TR) (rdT_mk (t := ⟨v, QR.nf (((1 : Int)) : Rat)⟩) (hn45.sub (fun b hb => by cases hb)) (hd45.sub (fun b hb => by cases hb)))) rfl rfl (by decide) (by simp)
            exact ⟨hL.sub (fun b hb => by cases hb), hT, hn49.sub (fun b hb => by cases hb), hd49.sub (fun b hb => by cases hb), hb9, hbd.sub (fun b hb => by cases hb), hm0⟩
          ·
           refine ⟨_, rfl, fun hX => ?_⟩
           refine L.call rfl (c_ref2_Neg (q := x) hq41 hn41 hd41 hbd (Nat.le_trans hla41 (by decide)) (Nat.le_trans hlb41 (by decide))) rfl ?_
           rintro _ w26 ⟨⟨A49, c49, B49, e49, rfl, hn49, hd49⟩, hm26⟩
           replace hL := hL.gr hm26
           replace hbd := hbd.gr hm26
           replace hm0 := hm0.trans hm26
           replace hn41 := hn41.gr hm26
           replace hd41 := hd41.gr hm26
           replace hb7 := Blk.gr hb7 hm26
           replace hn45 := hn45.gr hm26
           replace hd45 := hd45.gr hm26
           replace hb9 := Blk.gr hb9 hm26
           replace hS1 := hS1.trans hm26
           clear hm26
           have F49 := Fit.neg FF41
           refine L.nil (hX _ _ ⟨.inr hS1, ?_⟩)
           refine D.one 3 rfl (by decide +kernel) (fun hX => ?_)
           refine L.buildSlice (cells := [.int .i64 v, .bool (decide ((((1 : Int)) : Rat).num < 0)), .slice A45 (toL (((1 : Int)) : Rat).num.natAbs).length c45, .slice B45 (toL (((1 : Int)) : Rat).den).length e45]) rfl tyS24 tyZ50 (fillN1 _ _ _ _ _ _ _ _) (by decide) (by decide) rfl ?_
           intro g47 w27 hN47
           have hgs_g47 := New.ge hN47 hS1.size
           replace hS1 := hS1.trans hN47.mod
           replace hL := hL.new hN47
           replace hbd := hbd.new hN47
           have hge_g47 := New.ge hN47 hm0.size
           replace hm0 := hm0.trans (hN47.mod.mono (by simp))
           replace hn41 := hn41.new hN47
           replace hd41 := hd41.new hN47
           have hne_g7_g47 := hb7.ne_ hN47
           replace hb7 := Blk.gr hb7 hN47.mod
           replace hn45 := hn45.new hN47
           replace hd45 := hd45.new hN47
           have hne_g9_g47 := hb9.ne_ hN47
           replace hb9 := Blk.gr hb9 hN47.mod
           replace hn49 := hn49.new hN47
           replace hd49 := hd49.new hN47
           have hb47 := hN47.blk
           clear hN47
           refine L.nil (hX _ _ ⟨.inr hS1, ?_⟩)
           refine D.take 6 rfl (by decide +kernel) (fun w_ hS => (R1.build (vs := [.slice (some ⟨g47, 0, none⟩) 1 1, .agg #[.bool (decide ((-x).num < 0)), .slice A49 (toL (-x).num.natAbs).length c49, .slice B49 (toL (-x).den).length e49]]) rfl (built_C12g _ _ _ _ _ _ _ _ _ _))) hS1 rfl <| D.one 8 rfl (by decide +kernel) (fun hX => ?_)
           refine L.storeBox rfl rfl hb9 rfl rfl tyG29 ?_
           intro w28 hb9' hm28
           replace hL := hL.mod hm28 (by simp)
           replace hbd := hbd.gr hm28
           replace hm0 := hm0.old1 hm28 hge_g9
           replace hn41 := hn41.mod hm28 (by simp)
           replace hd41 := hd41.mod hm28 (by simp)
           replace hb7 := Blk.far hb7 hm28 (by first | exact hne_g7_g9 | exact (hne_g9_g7).symm)
           replace hn45 := hn45.mod hm28 (by simp)
           replace hd45 := hd45.mod hm28 (by simp)
           replace hn49 := hn49.mod hm28 (by simp)
           replace hd49 := hd49.mod hm28 (by simp)
           replace hb47 := Blk.far hb47 hm28 (by first | exact hne_g47_g9 | exact (hne_g9_g47).symm)
           clear hm28
           replace hb9 := hb9'; clear hb9'
           refine L.nil (hX _ _ ⟨.inl rfl, ?_⟩)
           refine D.done (by decide +kernel) ?_ _
           refine X.join (g47, A49, c49, B49, e49, g9) ?_ ?_
           · exact ⟨rfl, rfl, rfl, rfl, rfl, trivial⟩
           ·
            have hT : Lay rdT [] w28 (.slice (some ⟨g47, 0, none⟩) 1 1) (fxC v (-x)).ts := Lay.of_blk (css := [[.int .i64 v, .bool (decide ((((1 : Int)) : Rat).num < 0)), .slice A45 (toL (((1 : Int)) : Rat).num.natAbs).length c45, .slice B45 (toL (((1 : Int)) : Rat).den).length e45]]) hb47 (LayL.one _ (⟨v, QR.nf (((1 : Int)) : Rat)⟩ : TR) (rdT_mk (t := ⟨v, QR.nf (((1 : Int)) : Rat)⟩) (hn45.sub (fun b hb => by cases hb)) (hd45.sub (fun b hb => by cases hb)))) rfl rfl (by decide) (by simp)
            exact ⟨hL.sub (fun b hb => by cases hb), hT, hn49.sub (fun b hb => by cases hb), hd49.sub (fun b hb => by cases hb), hb9, hbd.sub (fun b hb => by cases hb), hm0⟩
        ·
         refine ⟨_, rfl, fun hX => ?_⟩
         refine L.alloc tyZ29 rfl ?_
         intro g9 w29 hN9
         replace hS1 := hS1.trans hN9.mod
         replace hL := hL.new hN9
         replace hbd := hbd.new hN9
         have hge_g9 := New.ge hN9 hm0.size
         replace hm0 := hm0.trans (hN9.mod.mono (by simp))
         replace hn41 := hn41.new hN9
         replace hd41 := hd41.new hN9
         have hne_g7_g9 := hb7.ne_ hN9
         replace hb7 := Blk.gr hb7 hN9.mod
         have hb9 := hN9.blk
         clear hN9
         refine L.nil (hX _ _ ⟨.inr hS1, ?_⟩)
         refine D.one 1 rfl (by decide +kernel) (fun hX => ?_)
         refine L.call rfl (c_ref2_Int (n := 1) (by decide) (by decide) hbd) rfl ?_
         rintro _ w30 ⟨⟨A45, c45, B45, e45, rfl, hn45, hd45⟩, hm30⟩
         replace hL := hL.gr hm30
         replace hbd := hbd.gr hm30
         replace hm0 := hm0.trans hm30
         replace hn41 := hn41.gr hm30
         replace hd41 := hd41.gr hm30
         replace hb7 := Blk.gr hb7 hm30
         replace hb9 := Blk.gr hb9 hm30
         replace hS1 := hS1.trans hm30
         clear hm30
         have F45 := Fit.int (n := 1) (by decide) (by decide)
         refine L.nil (hX _ _ ⟨.inr hS1, ?_⟩)
         refine D.take 2 rfl (by decide +kernel) (fun w_ hS => (R1.build (vs := [.int .i64 v, .agg #[.bool (decide ((((1 : Int)) : Rat).num < 0)), .slice A45 (toL (((1 : Int)) : Rat).num.natAbs).length c45, .slice B45 (toL (((1 : Int)) : Rat).den).length e45]]) rfl (built_T01 _ _ _ _ _ _ _ _))) hS1 rfl <| D.many (rs := [3, 5]) (by decide +kernel) rfl ?_
         intro i_ hi_
         simp only [List.mem_cons, List.not_mem_nil, or_false] at hi_
         rcases hi_ with rfl | rfl
         ·
          refine ⟨_, rfl, fun hX => ?_⟩
          refine L.buildSlice (cells := [.int .i64 v, .bool (decide ((((1 : Int)) : Rat).num < 0)), .slice A45 (toL (((1 : Int)) : Rat).num.natAbs).length c45, .slice B45 (toL (((1 : Int)) : Rat).den).length e45]) rfl tyS24 tyZ50 (fillN1 _ _ _ _ _ _ _ _) (by decide) (by decide) rfl ?_
          intro g47 w31 hN47
          have hgs_g47 := New.ge hN47 hS1.size
          replace hS1 := hS1.trans hN47.mod
          replace hL := hL.new hN47
          replace hbd := hbd.new hN47
          have hge_g47 := New.ge hN47 hm0.size
          replace hm0 := hm0.trans (hN47.mod.mono (by simp))
          replace hn41 := hn41.new hN47
          replace hd41 := hd41.new hN47
          have hne_g7_g47 := hb7.ne_ hN47
          replace hb7 := Blk.gr hb7 hN47.mod
          have hne_g9_g47 := hb9.ne_ hN47
          replace hb9 := Blk.gr hb9 hN47.mod
          replace hn45 := hn45.new hN47
          replace hd45 := hd45.new hN47
          have hb47 := hN47.blk
          clear hN47
          refine L.nil (hX _ _ ⟨.inr hS1, ?_⟩)
          refine D.one 5 rfl (by decide +kernel) (fun hX => ?_)
          refine L.call rfl (c_ref2_Neg (q := x) hq41 hn41 hd41 hbd (Nat.le_trans hla41 (by decide)) (Nat.le_trans hlb41 (by decide))) rfl ?_
          rintro _ w32 ⟨⟨A49, c49, B49, e49, rfl, hn49, hd49⟩, hm32⟩
          replace hL := hL.gr hm32
          replace hbd := hbd.gr hm32
          replace hm0 := hm0.trans hm32
          replace hn41 := hn41.gr hm32
          replace hd41 := hd41.gr hm32
          replace hb7 := Blk.gr hb7 hm32
          replace hb9 := Blk.gr hb9 hm32
          replace hn45 := hn45.gr hm32
          replace hd45 := hd45.gr hm32
          replace hb47 := Blk.gr hb47 hm32
          replace hS1 := hS1.trans hm32
          clear hm32
          have F49 := Fit.neg FF41
          refine L.nil (hX _ _ ⟨.inr hS1, ?_⟩)
          refine D.take 6 rfl (by decide +kernel) (fun w_ hS => (R1.build (vs := [.slice (some ⟨g47, 0, none⟩) 1 1, .agg #[.bool (decide ((-x).num < 0)), .slice A49 (toL (-x).num.natAbs).length c49, .slice B49 (toL (-x).den).length e49]]) rfl (built_C12g _ _ _ _ _ _ _ _ _ _))) hS1 rfl <| D.one 8 rfl (by decide +kernel) (fun hX => ?_)
          refine L.storeBox rfl rfl hb9 rfl rfl tyG29 ?_
          intro w33 hb9' hm33
          replace hL := hL.mod hm33 (by simp)
          replace hbd := hbd.gr hm33
          replace hm0 := hm0.old1 hm33 hge_g9
          replace hn41 := hn41.mod hm33 (by simp)
          replace hd41 := hd41.mod hm33 (by simp)
          replace hb7 := Blk.far hb7 hm33 (by first | exact hne_g7_g9 | exact (hne_g9_g7).symm)
          replace hn45 := hn45.mod hm33 (by simp)
          replace hd45 := hd45.mod hm33 (by simp)
          replace hb47 := Blk.far hb47 hm33 (by first | exact hne_g47_g9 | exact (hne_g9_g47).symm)
          replace hn49 := hn49.mod hm33 (by simp)
          replace hd49 := hd49.mod hm33 (by simp)
          clear hm33
          replace hb9 := hb9'; clear hb9'
          refine L.nil (hX _ _ ⟨.inl rfl, ?_⟩)
          refine D.done (by decide +kernel) ?_ _
          refine X.join (g47, A49, c49, B49, e49, g9) ?_ ?_
          · exact ⟨rfl, rfl, rfl, rfl, rfl, trivial⟩
          ·
           have hT : Lay rdT [] w33 (.slice (some ⟨g47, 0, none⟩) 1 1) (fxC v (-x)).ts := Lay.of_blk (css := [[.int .i64 v, .bool (decide ((((1 : Int)) : Rat).num < 0)), .slice A45 (toL (((1 : Int)) : Rat).num.natAbs).length c45, .slice B45 (toL (((1 : Int)) : Rat).den).length e45]]) hb47 (LayL.one _ (⟨v, QR.nf (((1 : Int)) : Rat)⟩ : TR) (rdT_mk (t := ⟨v, QR.nf (((1 : Int)) : Rat)⟩) (hn45.sub (fun b hb => by cases hb)) (hd45.sub (fun b hb => by cases hb)))) rfl rfl (by decide) (by simp)
           exact ⟨hL.sub (fun b hb => by cases hb), hT, hn49.sub (fun b hb => by cases hb), hd49.sub (fun b hb => by cases hb), hb9, hbd.sub (fun b hb => by cases hb), hm0⟩
         ·
          refine ⟨_, rfl, fun hX => ?_⟩
          refine L.call rfl (c_ref2_Neg (q := x) hq41 hn41 hd41 hbd (Nat.le_trans hla41 (by decide)) (Nat.le_trans hlb41 (by decide))) rfl ?_
          rintro _ w34 ⟨⟨A49, c49, B49, e49, rfl, hn49, hd49⟩, hm34⟩
          replace hL := hL.gr hm34
          replace hbd := hbd.gr hm34
          replace hm0 := hm0.trans hm34
          replace hn41 := hn41.gr hm34
          replace hd41 := hd41.gr hm34
          replace hb7 := Blk.gr hb7 hm34
          replace hb9 := Blk.gr hb9 hm34
          replace hn45 := hn45.gr hm34
          replace hd45 := hd45.gr hm34
          replace hS1 := hS1.trans hm34
          clear hm34
          have F49 := Fit.neg FF41
          refine L.nil (hX _ _ ⟨.inr hS1, ?_⟩)
          refine D.one 3 rfl (by decide +kernel) (fun hX => ?_)
          refine L.buildSlice (cells := [.int .i64 v, .bool (decide ((((1 : Int)) : Rat).num < 0)), .slice A45 (toL (((1 : Int)) : Rat).num.natAbs).length c45, .slice B45 (toL (((1 : Int)) : Rat).den).length e45]) rfl tyS24 tyZ50 (fillN1 _ _ _ _ _ _ _ _) (by decide) (by decide) rfl ?_
          intro g47 w35 hN47
          have hgs_g47 := New.ge hN47 hS1.size
          replace hS1 := hS1.trans hN47.mod
          replace hL := hL.new hN47
          replace hbd := hbd.new hN47
          have hge_g47 := New.ge hN47 hm0.size
          replace hm0 := hm0.trans (hN47.mod.mono (by simp))
          replace hn41 := hn41.new hN47
          replace hd41 := hd41.new hN47
          have hne_g7_g47 := hb7.ne_ hN47
          replace hb7 := Blk.gr hb7 hN47.mod
          have hne_g9_g47 := hb9.ne_ hN47
          replace hb9 := Blk.gr hb9 hN47.mod
          replace hn45 := hn45.new hN47
          replace hd45 := hd45.new hN47
          replace hn49 := hn49.new hN47
          replace hd49 := hd49.new hN47
          have hb47 := hN47.blk
          clear hN47
          refine L.nil (hX _ _ ⟨.inr hS1, ?_⟩)
          refine D.take 6 rfl (by decide +kernel) (fun w_ hS => (R1.build (vs := [.slice (some ⟨g47, 0, none⟩) 1 1, .agg #[.bool (decide ((-x).num < 0)), .slice A49 (toL (-x).num.natAbs).length c49, .slice B49 (toL (-x).den).length e49]]) rfl (built_C12g _ _ _ _ _ _ _ _ _ _))) hS1 rfl <| D.one 8 rfl (by decide +kernel) (fun hX => ?_)
          refine L.storeBox rfl rfl hb9 rfl rfl tyG29 ?_
          intro w36 hb9' hm36
          replace hL := hL.mod hm36 (by simp)
          replace hbd := hbd.gr hm36
          replace hm0 := hm0.old1 hm36 hge_g9
          replace hn41 := hn41.mod hm36 (by simp)
          replace hd41 := hd41.mod hm36 (by simp)
          replace hb7 := Blk.far hb7 hm36 (by first | exact hne_g7_g9 | exact (hne_g9_g7).symm)
          replace hn45 := hn45.mod hm36 (by simp)
          replace hd45 := hd45.mod hm36 (by simp)
          replace hn49 := hn49.mod hm36 (by simp)
          replace hd49 := hd49.mod hm36 (by simp)
          replace hb47 := Blk.far hb47 hm36 (by first | exact hne_g47_g9 | exact (hne_g9_g47).symm)
          clear hm36
          replace hb9 := hb9'; clear hb9'
          refine L.nil (hX _ _ ⟨.inl rfl, ?_⟩)
          refine D.done (by decide +kernel) ?_ _
          refine X.join (g47, A49, c49, B49, e49, g9) ?_ ?_
          · exact ⟨rfl, rfl, rfl, rfl, rfl, trivial⟩
          ·
           have hT : Lay rdT [] w36 (.slice (some ⟨g47, 0, none⟩) 1 1) (fxC v (-x)).ts := Lay.of_blk (css := [[.int .i64 v, .bool (decide ((((1 : Int)) : Rat).num < 0)), .slice A45 (toL (((1 : Int)) : Rat).num.natAbs).length c45, .slice B45 (toL (((1 : Int)) : Rat).den).length e45]]) hb47 (LayL.one _ (⟨v, QR.nf (((1 : Int)) : Rat)⟩ : TR) (rdT_mk (t := ⟨v, QR.nf (((1 : Int)) : Rat)⟩) (hn45.sub (fun b hb => by cases hb)) (hd45.sub (fun b hb => by cases hb)))) rfl rfl (by decide) (by simp)
           exact ⟨hL.sub (fun b hb => by cases hb), hT, hn49.sub (fun b hb => by cases hb), hd49.sub (fun b hb => by cases hb), hb9, hbd.sub (fun b hb => by cases hb), hm0⟩
       ·
        rintro ⟨g47, A49, c49, B49, e49, g9⟩ wj ⟨hL, hT, hn49, hd49, hb9, hbd, hm0⟩
        refine X.seq <| W.seq <| W.region <| L.v (R1.loadBox rfl hb9 tyG29) rfl <| L.alloc tyZ29 rfl ?_
        intro g10 w37 hN10
        replace hL := hL.new hN10
        replace hT := hT.new hN10
        replace hn49 := hn49.new hN10
        replace hd49 := hd49.new hN10
        have hne_g9_g10 := hb9.ne_ hN10
        replace hb9 := Blk.gr hb9 hN10.mod
        replace hbd := hbd.new hN10
        have hge_g10 := New.ge hN10 hm0.size
        replace hm0 := hm0.trans (hN10.mod.mono (by simp))
        have hb10 := hN10.blk
        clear hN10
        refine L.storeBox rfl rfl hb10 rfl rfl tyG29 ?_
        intro w38 hb10' hm38
        replace hL := hL.mod hm38 (by simp)
        replace hT := hT.mod hm38 (by simp)
        replace hn49 := hn49.mod hm38 (by simp)
        replace hd49 := hd49.mod hm38 (by simp)
        replace hb9 := Blk.far hb9 hm38 (by first | exact hne_g9_g10 | exact (hne_g10_g9).symm)
        replace hbd := hbd.gr hm38
        replace hm0 := hm0.old1 hm38 hge_g10
        clear hm38
        replace hb10 := hb10'; clear hb10'
        refine L.nil <| X.seq <| W.seq <| W.drawW (T := [5]) rfl (by decide +kernel) (NoHang.then NoHang.post) (fun w39 hm39 => ?_)
        replace hL := hL.gr hm39
        replace hT := hT.gr hm39
        replace hn49 := hn49.gr hm39
        replace hd49 := hd49.gr hm39
        replace hb9 := Blk.gr hb9 hm39
        replace hbd := hbd.gr hm39
        replace hm0 := hm0.trans hm39
        replace hb10 := Blk.gr hb10 hm39
        have hS2 : Mod [] w39 w39 := Mod.refl _ _
        clear hm39
        have hb9_s := hb9
        have hb10_s := hb10
        refine D.take 0 rfl (by decide +kernel) (fun w_ hS => (R1.fieldAt rfl tyF29_2)) hS2 rfl <| D.take 1 rfl (by decide +kernel) (fun w_ hS => (R1.loadBoxAt (ds := [.bool (decide ((-x).num < 0)), .slice A49 (toL (-x).num.natAbs).length c49, .slice B49 (toL (-x).den).length e49]) rfl (Blk.gr hb10_s hS) rfl tyG27)) hS2 rfl <| D.one 2 rfl (by decide +kernel) (fun hX => ?_)
        refine L.call rfl (c_ref2_Int (n := 1) (by decide) (by decide) hbd) rfl ?_
        rintro _ w40 ⟨⟨A54, c54, B54, e54, rfl, hn54, hd54⟩, hm40⟩
        replace hL := hL.gr hm40
        replace hT := hT.gr hm40
        replace hn49 := hn49.gr hm40
        replace hd49 := hd49.gr hm40
        replace hb9 := Blk.gr hb9 hm40
        replace hbd := hbd.gr hm40
        replace hm0 := hm0.trans hm40
        replace hb10 := Blk.gr hb10 hm40
        replace hS2 := hS2.trans hm40
        clear hm40
        have F54 := Fit.int (n := 1) (by decide) (by decide)
        refine L.nil (hX _ _ ⟨.inr hS2, ?_⟩)
        refine D.one 3 rfl (by decide +kernel) (fun hX => ?_)
        refine L.call rfl (c_ref2_Add (qa := (-x)) (qb := (((1 : Int)) : Rat)) (rv_toL _) (rv_toL _) hn49 hd49 hn54 hd54 hbd (Nat.le_trans F49.1 (by decide)) (Nat.le_trans F49.2 (by decide)) (Nat.le_trans F54.1 (by decide)) (Nat.le_trans F54.2 (by decide))) rfl ?_
        rintro _ w41 ⟨⟨A55, c55, B55, e55, rfl, hn55, hd55⟩, hm41⟩
        replace hL := hL.gr hm41
        replace hT := hT.gr hm41
        replace hn49 := hn49.gr hm41
        replace hd49 := hd49.gr hm41
        replace hb9 := Blk.gr hb9 hm41
        replace hbd := hbd.gr hm41
        replace hm0 := hm0.trans hm41
        replace hb10 := Blk.gr hb10 hm41
        replace hn54 := hn54.gr hm41
        replace hd54 := hd54.gr hm41
        replace hS2 := hS2.trans hm41
        clear hm41
        have F55 := Fit.add F49 F54
        refine L.nil (hX _ _ ⟨.inr hS2, ?_⟩)
        refine D.take 4 rfl (by decide +kernel) (fun w_ hS => (R1.fieldAt rfl tyF29_2)) hS2 rfl <| D.one 5 rfl (by decide +kernel) (fun hX => ?_)
        refine L.storeAgg rfl rfl hb10 (show 2 + 3 ≤ 5 by decide) (by intro c hc; simp only [List.mem_cons, List.not_mem_nil, or_false] at hc; rcases hc with rfl | rfl | rfl <;> rfl) tyG27 ?_
        intro w42 hb10' hm42
        replace hL := hL.mod hm42 (by simp)
        replace hT := hT.mod hm42 (by simp)
        replace hn49 := hn49.mod hm42 (by simp)
        replace hd49 := hd49.mod hm42 (by simp)
        replace hb9 := Blk.far hb9 hm42 (by first | exact hne_g9_g10 | exact (hne_g10_g9).symm)
        replace hbd := hbd.gr hm42
        replace hm0 := hm0.old1 hm42 hge_g10
        replace hn54 := hn54.mod hm42 (by simp)
        replace hd54 := hd54.mod hm42 (by simp)
        replace hn55 := hn55.mod hm42 (by simp)
        replace hd55 := hd55.mod hm42 (by simp)
        clear hm42
        replace hb10 := hb10'; clear hb10'
        refine L.nil (hX _ _ ⟨.inl rfl, ?_⟩)
        replace hb10 : Blk _ g10 29 #[.int .i64 0, .slice (some ⟨g47, 0, none⟩) 1 1, .bool (decide ((-x + (((1 : Int)) : Rat)).num < 0)), .slice A55 (toL (-x + (((1 : Int)) : Rat)).num.natAbs).length c55, .slice B55 (toL (-x + (((1 : Int)) : Rat)).den).length e55] := hb10
        refine D.done (by decide +kernel) ?_ _
        refine X.seq <| W.seq <| W.cut (ι := Value) (fun vB => [(0, .slice TL cs.length tL), (1, .int .i64 v), (2, .int .i64 z0), (8, .bool bb), (9, .pointer (some ⟨g9, 0, none⟩)), (11, vB)]) (fun vB w_ => Lay rdC [] w_ (.slice TL cs.length tL) cs ∧ Lay rdT [] w_ (.slice (some ⟨g47, 0, none⟩) 1 1) (fxC v (-x)).ts ∧ U32 [] w_ (.slice A49 (toL (-x).num.natAbs).length c49) (toL (-x).num.natAbs) ∧ U32 [] w_ (.slice B49 (toL (-x).den).length e49) (toL (-x).den) ∧ Blk w_ g9 29 #[.int .i64 0, .slice (some ⟨g47, 0, none⟩) 1 1, .bool (decide ((-x).num < 0)), .slice A49 (toL (-x).num.natAbs).length c49, .slice B49 (toL (-x).den).length e49] ∧ Bd [] w_ ∧ Mod [] w w_ ∧ Lay rdC [] w_ vB (cs ++ [fxC v (-x + (((1 : Int)) : Rat))])) ?_ ?_
        ·
         refine W.drawW (T := [5, 6]) rfl (by decide +kernel) (NoHang.join (NoHang.then NoHang.post)) (fun w43 hm43 => ?_)
         replace hL := hL.gr hm43
         replace hT := hT.gr hm43
         replace hn49 := hn49.gr hm43
         replace hd49 := hd49.gr hm43
         replace hb9 := Blk.gr hb9 hm43
         replace hbd := hbd.gr hm43
         replace hm0 := hm0.trans hm43
         replace hn54 := hn54.gr hm43
         replace hd54 := hd54.gr hm43
         replace hn55 := hn55.gr hm43
         replace hd55 := hd55.gr hm43
         replace hb10 := Blk.gr hb10 hm43
         have hS3 : Mod [] w43 w43 := Mod.refl _ _
         clear hm43
         have hb9_s := hb9
         have hb10_s := hb10
         refine D.take 1 rfl (by decide +kernel) (fun w_ hS => (R1.move rfl)) hS3 rfl <| D.take 3 rfl (by decide +kernel) (fun w_ hS => (R1.loadBox rfl (Blk.gr hb10_s hS) tyG29)) hS3 rfl <| D.many (rs := [0, 4]) (by decide +kernel) rfl ?_
         intro i_ hi_
         simp only [List.mem_cons, List.not_mem_nil, or_false] at hi_
         rcases hi_ with rfl | rfl
         ·
          refine ⟨_, rfl, fun hX => ?_⟩
          refine L.buildEmpty tyS22 rfl ?_
          intro g57 w44 hN57
          have hgs_g57 := New.ge hN57 hS3.size
          replace hS3 := hS3.trans hN57.mod
          have ho : World.ownsRow w44 w.heap.size 29 5 (.slice (some ⟨g57, 0, none⟩) 0 0) 0 [] := ⟨rfl, .inr ⟨g57, 0, #[], rfl, New.ge hN57 hm0.size, hN57.blk, Nat.le_refl _, by decide, rfl, rfl⟩⟩
          replace hL := hL.new hN57
          replace hT := hT.new hN57
          replace hn49 := hn49.new hN57
          replace hd49 := hd49.new hN57
          have hno_ho_g9 : (Value.slice (some ⟨g57, 0, none⟩) 0 0).ownBlock ≠ some g9 := own_ne_new' (hb9.ne_ hN57)
          replace hb9 := Blk.gr hb9 hN57.mod
          replace hbd := hbd.new hN57
          replace hm0 := hm0.trans (hN57.mod.mono (by simp))
          replace hn54 := hn54.new hN57
          replace hd54 := hd54.new hN57
          replace hn55 := hn55.new hN57
          replace hd55 := hd55.new hN57
          have hno_ho_g10 : (Value.slice (some ⟨g57, 0, none⟩) 0 0).ownBlock ≠ some g10 := own_ne_new' (hb10.ne_ hN57)
          replace hb10 := Blk.gr hb10 hN57.mod
          clear hN57
          obtain ⟨v57, hv_v57⟩ : ∃ v, v = Value.slice (some ⟨g57, 0, none⟩) 0 0 := ⟨_, rfl⟩
          have hol_v57 : ownL v57 = [g57] := by rw [hv_v57]; rfl
          have hgs_v57 : ∀ g, v57.ownBlock = some g → _ ≤ g := fun g h9 => by rw [hv_v57] at h9; simp only [Value.ownBlock, Option.some.injEq] at h9; subst h9; exact hgs_g57
          rw [← hv_v57] at ho ⊢
          replace hL := hL.sub (of_cons hol_v57)
          replace hT := hT.sub (of_cons hol_v57)
          replace hn49 := hn49.sub (of_cons hol_v57)
          replace hd49 := hd49.sub (of_cons hol_v57)
          rw [← hv_v57] at hno_ho_g9
          replace hbd := hbd.sub (of_cons hol_v57)
          replace hn54 := hn54.sub (of_cons hol_v57)
          replace hd54 := hd54.sub (of_cons hol_v57)
          replace hn55 := hn55.sub (of_cons hol_v57)
          replace hd55 := hd55.sub (of_cons hol_v57)
          rw [← hv_v57] at hno_ho_g10
          clear hv_v57 hol_v57
          refine L.nil (hX _ _ ⟨.inr hS3, ?_⟩)
          refine D.many (rs := [2, 4]) (by decide +kernel) rfl ?_
          intro i_ hi_
          simp only [List.mem_cons, List.not_mem_nil, or_false] at hi_
          rcases hi_ with rfl | rfl
          ·
           refine ⟨_, rfl, fun hX => ?_⟩
           have hL_ := hL
           obtain ⟨dss, hs2, hl2⟩ := hL_
           refine L.append rfl rfl ho hs2 (hl2.ones) tyS22 tyZ29 (by omega) (by unfold maxLen; omega) hm0.size rfl ?_
           intro v59 w45 ho59' hG59
           replace hL := hL.grew2 hG59 (by first | exact mem_own | (intro b hb; simp [hb]))
           replace hT := hT.grew2 hG59 (by first | exact mem_own | (intro b hb; simp [hb]))
           replace hn49 := hn49.grew2 hG59 (by first | exact mem_own | (intro b hb; simp [hb]))
           replace hd49 := hd49.grew2 hG59 (by first | exact mem_own | (intro b hb; simp [hb]))
           have hnn_g9 := hG59.ne hno_ho_g9 hb9
           replace hb9 := Blk.grew hb9 hG59 hno_ho_g9
           replace hno_ho_g9 := hnn_g9
           replace hbd := hbd.grew2 hG59 (by first | exact mem_own | (intro b hb; simp [hb]))
           replace hm0 := Mod.oldOwn hm0 hG59.mod ho
           replace hn54 := hn54.grew2 hG59 (by first | exact mem_own | (intro b hb; simp [hb]))
           replace hd54 := hd54.grew2 hG59 (by first | exact mem_own | (intro b hb; simp [hb]))
           replace hn55 := hn55.grew2 hG59 (by first | exact mem_own | (intro b hb; simp [hb]))
           replace hd55 := hd55.grew2 hG59 (by first | exact mem_own | (intro b hb; simp [hb]))
           have hnn_g10 := hG59.ne hno_ho_g10 hb10
           replace hb10 := Blk.grew hb10 hG59 hno_ho_g10
           replace hno_ho_g10 := hnn_g10
           replace hl2 := hl2.grew2 hG59 (by first | exact mem_own | (intro b hb; simp [hb]))
           replace ho := ho59'; clear ho59'
           replace hS3 := hS3.grew hG59 (hgs_v57)
           clear hG59
           refine L.nil (hX _ _ ⟨.inr hS3, ?_⟩)
           refine D.one 4 rfl (by decide +kernel) (fun hX => ?_)
           refine L.buildSlice (cells := [.int .i64 0, .slice (some ⟨g47, 0, none⟩) 1 1, .bool (decide ((-x + (((1 : Int)) : Rat)).num < 0)), .slice A55 (toL (-x + (((1 : Int)) : Rat)).num.natAbs).length c55, .slice B55 (toL (-x + (((1 : Int)) : Rat)).den).length e55]) rfl tyS22 tyZ29 (fillK1 _ _ _ _ _ _ _ _ _ _ _) (by decide) (by decide) rfl ?_
           intro g61 w46 hN61
           have hgs_g61 := New.ge hN61 hS3.size
           replace hS3 := hS3.trans hN61.mod
           replace hL := hL.new hN61
           replace hT := hT.new hN61
           replace hn49 := hn49.new hN61
           replace hd49 := hd49.new hN61
           have hne_g9_g61 := hb9.ne_ hN61
           replace hb9 := Blk.gr hb9 hN61.mod
           replace hbd := hbd.new hN61
           have hge_g61 := New.ge hN61 hm0.size
           replace hm0 := hm0.trans (hN61.mod.mono (by simp))
           replace hn54 := hn54.new hN61
           replace hd54 := hd54.new hN61
           replace hn55 := hn55.new hN61
           replace hd55 := hd55.new hN61
           have hne_g10_g61 := hb10.ne_ hN61
           replace hb10 := Blk.gr hb10 hN61.mod
           have hno_ho_g61 := own_ne_new ho hN61
           replace ho := own_gr ho hN61.mod (by simp)
           replace hl2 := hl2.new hN61
           have hb61 := hN61.blk
           clear hN61
           refine L.nil (hX _ _ ⟨.inr hS3, ?_⟩)
           have hs5 : Sl [] w46 5 (.slice (some ⟨g61, 0, none⟩) 1 1) 1 [.int .i64 0, .slice (some ⟨g47, 0, none⟩) 1 1, .bool (decide ((-x + (((1 : Int)) : Rat)).num < 0)), .slice A55 (toL (-x + (((1 : Int)) : Rat)).num.natAbs).length c55, .slice B55 (toL (-x + (((1 : Int)) : Rat)).den).length e55] := Sl.of_blk hb61 0 (Nat.le_refl _) (by decide) rfl (by simp) (fun j hj => by simp)
           refine D.one 5 rfl (by decide +kernel) (fun hX => ?_)
           refine L.append rfl rfl ho hs5 (by intro c hc; simp only [List.mem_cons, List.not_mem_nil, or_false] at hc; rcases hc with rfl | rfl | rfl | rfl | rfl <;> rfl) tyS22 tyZ29 (by omega) (by unfold maxLen; omega) hm0.size rfl ?_
           intro v62 w47 ho62' hG62
           replace hL := hL.grew2 hG62 (by first | exact mem_own | (intro b hb; simp [hb]))
           replace hT := hT.grew2 hG62 (by first | exact mem_own | (intro b hb; simp [hb]))
           replace hn49 := hn49.grew2 hG62 (by first | exact mem_own | (intro b hb; simp [hb]))
           replace hd49 := hd49.grew2 hG62 (by first | exact mem_own | (intro b hb; simp [hb]))
           have hnn_g9 := hG62.ne hno_ho_g9 hb9
           replace hb9 := Blk.grew hb9 hG62 hno_ho_g9
           replace hno_ho_g9 := hnn_g9
           replace hbd := hbd.grew2 hG62 (by first | exact mem_own | (intro b hb; simp [hb]))
           replace hm0 := Mod.oldOwn hm0 hG62.mod ho
           replace hn54 := hn54.grew2 hG62 (by first | exact mem_own | (intro b hb; simp [hb]))
           replace hd54 := hd54.grew2 hG62 (by first | exact mem_own | (intro b hb; simp [hb]))
           replace hn55 := hn55.grew2 hG62 (by first | exact mem_own | (intro b hb; simp [hb]))
           replace hd55 := hd55.grew2 hG62 (by first | exact mem_own | (intro b hb; simp [hb]))
           have hnn_g10 := hG62.ne hno_ho_g10 hb10
           replace hb10 := Blk.grew hb10 hG62 hno_ho_g10
           replace hno_ho_g10 := hnn_g10
           replace hl2 := hl2.grew2 hG62 (by first | exact mem_own | (intro b hb; simp [hb]))
           have hnn_g61 := hG62.ne hno_ho_g61 hb61
           replace hb61 := Blk.grew hb61 hG62 hno_ho_g61
           replace hno_ho_g61 := hnn_g61
           replace ho := ho62'; clear ho62'
           clear hG62
           refine L.nil (hX _ _ ⟨.inl rfl, ?_⟩)
           refine D.one 6 rfl (by decide +kernel) (fun hX => ?_)
           refine L.v (R1.assign rfl) rfl (L.nil (hX _ _ ⟨.inl rfl, ?_⟩))
           refine D.done (by decide +kernel) ?_ _
           refine X.join v62 ?_ ?_
           · exact ⟨rfl, rfl, rfl, rfl, rfl, rfl, trivial⟩
           ·
            have hB : Lay rdC [] w47 v62 (cs ++ [fxC v (-x + (((1 : Int)) : Rat))]) := Lay.of_own (css := dss ++ [[.int .i64 0, .slice (some ⟨g47, 0, none⟩) 1 1, .bool (decide ((-x + (((1 : Int)) : Rat)).num < 0)), .slice A55 (toL (-x + (((1 : Int)) : Rat)).num.natAbs).length c55, .slice B55 (toL (-x + (((1 : Int)) : Rat)).den).length e55]]) (own_congr ho (by simp) (by simp)) ((hl2.sub (fun b hb => by cases hb)).append (LayL.one _ (fxC v (-x + (((1 : Int)) : Rat))) (rdC_mk (c := fxC v (-x + (((1 : Int)) : Rat))) (vt := .slice (some ⟨g47, 0, none⟩) 1 1) (hT.sub (M' := []) (fun b hb => by cases hb)) (hn55.sub (M' := []) (fun b hb => by cases hb)) (hd55.sub (M' := []) (fun b hb => by cases hb))))) (by simp)
            exact ⟨hL.sub (fun b hb => by cases hb), hT.sub (fun b hb => by cases hb), hn49.sub (fun b hb => by cases hb), hd49.sub (fun b hb => by cases hb), hb9, hbd.sub (fun b hb => by cases hb), hm0, hB⟩
          ·
           refine ⟨_, rfl, fun hX => ?_⟩
           refine L.buildSlice (cells := [.int .i64 0, .slice (some ⟨g47, 0, none⟩) 1 1, .bool (decide ((-x + (((1 : Int)) : Rat)).num < 0)), .slice A55 (toL (-x + (((1 : Int)) : Rat)).num.natAbs).length c55, .slice B55 (toL (-x + (((1 : Int)) : Rat)).den).length e55]) rfl tyS22 tyZ29 (fillK1 _ _ _ _ _ _ _ _ _ _ _) (by decide) (by decide) rfl ?_
           intro g61 w48 hN61
           have hgs_g61 := New.ge hN61 hS3.size
           replace hS3 := hS3.trans hN61.mod
           replace hL := hL.new hN61
           replace hT := hT.new hN61
           replace hn49 := hn49.new hN61
           replace hd49 := hd49.new hN61
           have hne_g9_g61 := hb9.ne_ hN61
           replace hb9 := Blk.gr hb9 hN61.mod
           replace hbd := hbd.new hN61
           have hge_g61 := New.ge hN61 hm0.size
           replace hm0 := hm0.trans (hN61.mod.mono (by simp))
           replace hn54 := hn54.new hN61
           replace hd54 := hd54.new hN61
           replace hn55 := hn55.new hN61
           replace hd55 := hd55.new hN61
           have hne_g10_g61 := hb10.ne_ hN61
           replace hb10 := Blk.gr hb10 hN61.mod
           have hno_ho_g61 := own_ne_new ho hN61
           replace ho := own_gr ho hN61.mod (by simp)
           have hb61 := hN61.blk
           clear hN61
           refine L.nil (hX _ _ ⟨.inr hS3, ?_⟩)
           have hL_ := hL
           obtain ⟨dss, hs2, hl2⟩ := hL_
           refine D.one 2 rfl (by decide +kernel) (fun hX => ?_)
           refine L.append rfl rfl ho hs2 (hl2.ones) tyS22 tyZ29 (by omega) (by unfold maxLen; omega) hm0.size rfl ?_
           intro v59 w49 ho59' hG59
           replace hL := hL.grew2 hG59 (by first | exact mem_own | (intro b hb; simp [hb]))
           replace hT := hT.grew2 hG59 (by first | exact mem_own | (intro b hb; simp [hb]))
           replace hn49 := hn49.grew2 hG59 (by first | exact mem_own | (intro b hb; simp [hb]))
           replace hd49 := hd49.grew2 hG59 (by first | exact mem_own | (intro b hb; simp [hb]))
           have hnn_g9 := hG59.ne hno_ho_g9 hb9
           replace hb9 := Blk.grew hb9 hG59 hno_ho_g9
           replace hno_ho_g9 := hnn_g9
           replace hbd := hbd.grew2 hG59 (by first | exact mem_own | (intro b hb; simp [hb]))
           replace hm0 := Mod.oldOwn hm0 hG59.mod ho
           replace hn54 := hn54.grew2 hG59 (by first | exact mem_own | (intro b hb; simp [hb]))
           replace hd54 := hd54.grew2 hG59 (by first | exact mem_own | (intro b hb; simp [hb]))
           replace hn55 := hn55.grew2 hG59 (by first | exact mem_own | (intro b hb; simp [hb]))
           replace hd55 := hd55.grew2 hG59 (by first | exact mem_own | (intro b hb; simp [hb]))
           have hnn_g10 := hG59.ne hno_ho_g10 hb10
           replace hb10 := Blk.grew hb10 hG59 hno_ho_g10
           replace hno_ho_g10 := hnn_g10
           have hnn_g61 := hG59.ne hno_ho_g61 hb61
           replace hb61 := Blk.grew hb61 hG59 hno_ho_g61
           replace hno_ho_g61 := hnn_g61
           replace hl2 := hl2.grew2 hG59 (by first | exact mem_own | (intro b hb; simp [hb]))
           replace ho := ho59'; clear ho59'
           replace hS3 := hS3.grew hG59 (hgs_v57)
           clear hG59
           refine L.nil (hX _ _ ⟨.inr hS3, ?_⟩)
           have hs5 : Sl [] w49 5 (.slice (some ⟨g61, 0, none⟩) 1 1) 1 [.int .i64 0, .slice (some ⟨g47, 0, none⟩) 1 1, .bool (decide ((-x + (((1 : Int)) : Rat)).num < 0)), .slice A55 (toL (-x + (((1 : Int)) : Rat)).num.natAbs).length c55, .slice B55 (toL (-x + (((1 : Int)) : Rat)).den).length e55] := Sl.of_blk hb61 0 (Nat.le_refl _) (by decide) rfl (by simp) (fun j hj => by simp)
           refine D.one 5 rfl (by decide +kernel) (fun hX => ?_)
           refine L.append rfl rfl ho hs5 (by intro c hc; simp only [List.mem_cons, List.not_mem_nil, or_false] at hc; rcases hc with rfl | rfl | rfl | rfl | rfl <;> rfl) tyS22 tyZ29 (by omega) (by unfold maxLen; omega) hm0.size rfl ?_
           intro v62 w50 ho62' hG62
           replace hL := hL.grew2 hG62 (by first | exact mem_own | (intro b hb; simp [hb]))
           replace hT := hT.grew2 hG62 (by first | exact mem_own | (intro b hb; simp [hb]))
           replace hn49 := hn49.grew2 hG62 (by first | exact mem_own | (intro b hb; simp [hb]))
           replace hd49 := hd49.grew2 hG62 (by first | exact mem_own | (intro b hb; simp [hb]))
           have hnn_g9 := hG62.ne hno_ho_g9 hb9
           replace hb9 := Blk.grew hb9 hG62 hno_ho_g9
           replace hno_ho_g9 := hnn_g9
           replace hbd := hbd.grew2 hG62 (by first | exact mem_own | (intro b hb; simp [hb]))
           replace hm0 := Mod.oldOwn hm0 hG62.mod ho
           replace hn54 := hn54.grew2 hG62 (by first | exact mem_own | (intro b hb; simp [hb]))
           replace hd54 := hd54.grew2 hG62 (by first | exact mem_own | (intro b hb; simp [hb]))
           replace hn55 := hn55.grew2 hG62 (by first | exact mem_own | (intro b hb; simp [hb]))
           replace hd55 := hd55.grew2 hG62 (by first | exact mem_own | (intro b hb; simp [hb]))
           have hnn_g10 := hG62.ne hno_ho_g10 hb10
           replace hb10 := Blk.grew hb10 hG62 hno_ho_g10
           replace hno_ho_g10 := hnn_g10
           have hnn_g61 := hG62.ne hno_ho_g61 hb61
           replace hb61 := Blk.grew hb61 hG62 hno_ho_g61
           replace hno_ho_g61 := hnn_g61
           replace hl2 := hl2.grew2 hG62 (by first | exact mem_own | (intro b hb; simp [hb]))
           replace ho := ho62'; clear ho62'
           clear hG62
           refine L.nil (hX _ _ ⟨.inl rfl, ?_⟩)
           refine D.one 6 rfl (by decide +kernel) (fun hX => ?_)
           refine L.v (R1.assign rfl) rfl (L.nil (hX _ _ ⟨.inl rfl, ?_⟩))
           refine D.done (by decide +kernel) ?_ _
           refine X.join v62 ?_ ?_
           · exact ⟨rfl, rfl, rfl, rfl, rfl, rfl, trivial⟩
           ·
            have hB : Lay rdC [] w50 v62 (cs ++ [fxC v (-x + (((1 : Int)) : Rat))]) := Lay.of_own (css := dss ++ [[.int .i64 0, .slice (some ⟨g47, 0, none⟩) 1 1, .bool (decide ((-x + (((1 : Int)) : Rat)).num < 0)), .slice A55 (toL (-x + (((1 : Int)) : Rat)).num.natAbs).length c55, .slice B55 (toL (-x + (((1 : Int)) : Rat)).den).length e55]]) (own_congr ho (by simp) (by simp)) ((hl2.sub (fun b hb => by cases hb)).append (LayL.one _ (fxC v (-x + (((1 : Int)) : Rat))) (rdC_mk (c := fxC v (-x + (((1 : Int)) : Rat))) (vt := .slice (some ⟨g47, 0, none⟩) 1 1) (hT.sub (M' := []) (fun b hb => by cases hb)) (hn55.sub (M' := []) (fun b hb => by cases hb)) (hd55.sub (M' := []) (fun b hb => by cases hb))))) (by simp)
            exact ⟨hL.sub (fun b hb => by cases hb), hT.sub (fun b hb => by cases hb), hn49.sub (fun b hb => by cases hb), hd49.sub (fun b hb => by cases hb), hb9, hbd.sub (fun b hb => by cases hb), hm0, hB⟩
         ·
          refine ⟨_, rfl, fun hX => ?_⟩
          refine L.buildSlice (cells := [.int .i64 0, .slice (some ⟨g47, 0, none⟩) 1 1, .bool (decide ((-x + (((1 : Int)) : Rat)).num < 0)), .slice A55 (toL (-x + (((1 : Int)) : Rat)).num.natAbs).length c55, .slice B55 (toL (-x + (((1 : Int)) : Rat)).den).length e55]) rfl tyS22 tyZ29 (fillK1 _ _ _ _ _ _ _ _ _ _ _) (by decide) (by decide) rfl ?_
          intro g61 w51 hN61
          have hgs_g61 := New.ge hN61 hS3.size
          replace hS3 := hS3.trans hN61.mod
          replace hL := hL.new hN61
          replace hT := hT.new hN61
          replace hn49 := hn49.new hN61
          replace hd49 := hd49.new hN61
          have hne_g9_g61 := hb9.ne_ hN61
          replace hb9 := Blk.gr hb9 hN61.mod
          replace hbd := hbd.new hN61
          have hge_g61 := New.ge hN61 hm0.size
          replace hm0 := hm0.trans (hN61.mod.mono (by simp))
          replace hn54 := hn54.new hN61
          replace hd54 := hd54.new hN61
          replace hn55 := hn55.new hN61
          replace hd55 := hd55.new hN61
          have hne_g10_g61 := hb10.ne_ hN61
          replace hb10 := Blk.gr hb10 hN61.mod
          have hb61 := hN61.blk
          clear hN61
          refine L.nil (hX _ _ ⟨.inr hS3, ?_⟩)
          refine D.one 0 rfl (by decide +kernel) (fun hX => ?_)
          refine L.buildEmpty tyS22 rfl ?_
          intro g57 w52 hN57
          have hgs_g57 := New.ge hN57 hS3.size
          replace hS3 := hS3.trans hN57.mod
          have ho : World.ownsRow w52 w.heap.size 29 5 (.slice (some ⟨g57, 0, none⟩) 0 0) 0 [] := ⟨rfl, .inr ⟨g57, 0, #[], rfl, New.ge hN57 hm0.size, hN57.blk, Nat.le_refl _, by decide, rfl, rfl⟩⟩
          replace hL := hL.new hN57
          replace hT := hT.new hN57
          replace hn49 := hn49.new hN57
          replace hd49 := hd49.new hN57
          have hno_ho_g9 : (Value.slice (some ⟨g57, 0, none⟩) 0 0).ownBlock ≠ some g9 := own_ne_new' (hb9.ne_ hN57)
          replace hb9 := Blk.gr hb9 hN57.mod
          replace hbd := hbd.new hN57
          replace hm0 := hm0.trans (hN57.mod.mono (by simp))
          replace hn54 := hn54.new hN57
          replace hd54 := hd54.new hN57
          replace hn55 := hn55.new hN57
          replace hd55 := hd55.new hN57
          have hno_ho_g10 : (Value.slice (some ⟨g57, 0, none⟩) 0 0).ownBlock ≠ some g10 := own_ne_new' (hb10.ne_ hN57)
          replace hb10 := Blk.gr hb10 hN57.mod
          have hno_ho_g61 : (Value.slice (some ⟨g57, 0, none⟩) 0 0).ownBlock ≠ some g61 := own_ne_new' (hb61.ne_ hN57)
          replace hb61 := Blk.gr hb61 hN57.mod
          clear hN57
          obtain ⟨v57, hv_v57⟩ : ∃ v, v = Value.slice (some ⟨g57, 0, none⟩) 0 0 := ⟨_, rfl⟩
          have hol_v57 : ownL v57 = [g57] := by rw [hv_v57]; rfl
          have hgs_v57 : ∀ g, v57.ownBlock = some g → _ ≤ g := fun g h9 => by rw [hv_v57] at h9; simp only [Value.ownBlock, Option.some.injEq] at h9; subst h9; exact hgs_g57
          rw [← hv_v57] at ho ⊢
          replace hL := hL.sub (of_cons hol_v57)
          replace hT := hT.sub (of_cons hol_v57)
          replace hn49 := hn49.sub (of_cons hol_v57)
          replace hd49 := hd49.sub (of_cons hol_v57)
          rw [← hv_v57] at hno_ho_g9
          replace hbd := hbd.sub (of_cons hol_v57)
          replace hn54 := hn54.sub (of_cons hol_v57)
          replace hd54 := hd54.sub (of_cons hol_v57)
          replace hn55 := hn55.sub (of_cons hol_v57)
          replace hd55 := hd55.sub (of_cons hol_v57)
          rw [← hv_v57] at hno_ho_g10
          rw [← hv_v57] at hno_ho_g61
          clear hv_v57 hol_v57
          refine L.nil (hX _ _ ⟨.inr hS3, ?_⟩)
          have hL_ := hL
          obtain ⟨dss, hs2, hl2⟩ := hL_
          refine D.one 2 rfl (by decide +kernel) (fun hX => ?_)
          refine L.append rfl rfl ho hs2 (hl2.ones) tyS22 tyZ29 (by omega) (by unfold maxLen; omega) hm0.size rfl ?_
          intro v59 w53 ho59' hG59
          replace hL := hL.grew2 hG59 (by first | exact mem_own | (intro b hb; simp [hb]))
          replace hT := hT.grew2 hG59 (by first | exact mem_own | (intro b hb; simp [hb]))
          replace hn49 := hn49.grew2 hG59 (by first | exact mem_own | (intro b hb; simp [hb]))
          replace hd49 := hd49.grew2 hG59 (by first | exact mem_own | (intro b hb; simp [hb]))
          have hnn_g9 := hG59.ne hno_ho_g9 hb9
          replace hb9 := Blk.grew hb9 hG59 hno_ho_g9
          replace hno_ho_g9 := hnn_g9
          replace hbd := hbd.grew2 hG59 (by first | exact mem_own | (intro b hb; simp [hb]))
          replace hm0 := Mod.oldOwn hm0 hG59.mod ho
          replace hn54 := hn54.grew2 hG59 (by first | exact mem_own | (intro b hb; simp [hb]))
          replace hd54 := hd54.grew2 hG59 (by first | exact mem_own | (intro b hb; simp [hb]))
          replace hn55 := hn55.grew2 hG59 (by first | exact mem_own | (intro b hb; simp [hb]))
          replace hd55 := hd55.grew2 hG59 (by first | exact mem_own | (intro b hb; simp [hb]))
          have hnn_g10 := hG59.ne hno_ho_g10 hb10
          replace hb10 := Blk.grew hb10 hG59 hno_ho_g10
          replace hno_ho_g10 := hnn_g10
          have hnn_g61 := hG59.ne hno_ho_g61 hb61
          replace hb61 := Blk.grew hb61 hG59 hno_ho_g61
          replace hno_ho_g61 := hnn_g61
          replace hl2 := hl2.grew2 hG59 (by first | exact mem_own | (intro b hb; simp [hb]))
          replace ho := ho59'; clear ho59'
          replace hS3 := hS3.grew hG59 (hgs_v57)
          clear hG59
          refine L.nil (hX _ _ ⟨.inr hS3, ?_⟩)
          have hs5 : Sl [] w53 5 (.slice (some ⟨g61, 0, none⟩) 1 1) 1 [.int .i64 0, .slice (some ⟨g47, 0, none⟩) 1 1, .bool (decide ((-x + (((1 : Int)) : Rat)).num < 0)), .slice A55 (toL (-x + (((1 : Int)) : Rat)).num.natAbs).length c55, .slice B55 (toL (-x + (((1 : Int)) : Rat)).den).length e55] := Sl.of_blk hb61 0 (Nat.le_refl _) (by decide) rfl (by simp) (fun j hj => by simp)
          refine D.one 5 rfl (by decide +kernel) (fun hX => ?_)
          refine L.append rfl rfl ho hs5 (by intro c hc; simp only [List.mem_cons, List.not_mem_nil, or_false] at hc; rcases hc with rfl | rfl | rfl | rfl | rfl <;> rfl) tyS22 tyZ29 (by omega) (by unfold maxLen; omega) hm0.size rfl ?_
          intro v62 w54 ho62' hG62
          replace hL := hL.grew2 hG62 (by first | exact mem_own | (intro b hb; simp [hb]))
          replace hT := hT.grew2 hG62 (by first | exact mem_own | (intro b hb; simp [hb]))
          replace hn49 := hn49.grew2 hG62 (by first | exact mem_own | (intro b hb; simp [hb]))
          replace hd49 := hd49.grew2 hG62 (by first | exact mem_own | (intro b hb; simp [hb]))
          have hnn_g9 := hG62.ne hno_ho_g9 hb9
          replace hb9 := Blk.grew hb9 hG62 hno_ho_g9
          replace hno_ho_g9 := hnn_g9
          replace hbd := hbd.grew2 hG62 (by first | exact mem_own | (intro b hb; simp [hb]))
          replace hm0 := Mod.oldOwn hm0 hG62.mod ho
          replace hn54 := hn54.grew2 hG62 (by first | exact mem_own | (intro b hb; simp [hb]))
          replace hd54 := hd54.grew2 hG62 (by first | exact mem_own | (intro b hb; simp [hb]))
          replace hn55 := hn55.grew2 hG62 (by first | exact mem_own | (intro b hb; simp [hb]))
          replace hd55 := hd55.grew2 hG62 (by first | exact mem_own | (intro b hb; simp [hb]))
          have hnn_g10 := hG62.ne hno_ho_g10 hb10
          replace hb10 := Blk.grew hb10 hG62 hno_ho_g10
          replace hno_ho_g10 := hnn_g10
          have hnn_g61 := hG62.ne hno_ho_g61 hb61
          replace hb61 := Blk.grew hb61 hG62 hno_ho_g61
          replace hno_ho_g61 := hnn_g61
          replace hl2 := hl2.grew2 hG62 (by first | exact mem_own | (intro b hb; simp [hb]))
          replace ho := ho62'; clear ho62'
          clear hG62
          refine L.nil (hX _ _ ⟨.inl rfl, ?_⟩)
          refine D.one 6 rfl (by decide +kernel) (fun hX => ?_)
          refine L.v (R1.assign rfl) rfl (L.nil (hX _ _ ⟨.inl rfl, ?_⟩))
          refine D.done (by decide +kernel) ?_ _
          refine X.join v62 ?_ ?_
          · exact ⟨rfl, rfl, rfl, rfl, rfl, rfl, trivial⟩
          ·
           have hB : Lay rdC [] w54 v62 (cs ++ [fxC v (-x + (((1 : Int)) : Rat))]) := Lay.of_own (css := dss ++ [[.int .i64 0, .slice (some ⟨g47, 0, none⟩) 1 1, .bool (decide ((-x + (((1 : Int)) : Rat)).num < 0)), .slice A55 (toL (-x + (((1 : Int)) : Rat)).num.natAbs).length c55, .slice B55 (toL (-x + (((1 : Int)) : Rat)).den).length e55]]) (own_congr ho (by simp) (by simp)) ((hl2.sub (fun b hb => by cases hb)).append (LayL.one _ (fxC v (-x + (((1 : Int)) : Rat))) (rdC_mk (c := fxC v (-x + (((1 : Int)) : Rat))) (vt := .slice (some ⟨g47, 0, none⟩) 1 1) (hT.sub (M' := []) (fun b hb => by cases hb)) (hn55.sub (M' := []) (fun b hb => by cases hb)) (hd55.sub (M' := []) (fun b hb => by cases hb))))) (by simp)
           exact ⟨hL.sub (fun b hb => by cases hb), hT.sub (fun b hb => by cases hb), hn49.sub (fun b hb => by cases hb), hd49.sub (fun b hb => by cases hb), hb9, hbd.sub (fun b hb => by cases hb), hm0, hB⟩
        ·
         rintro vB wk ⟨hL, hT, hn49, hd49, hb9, hbd, hm0, hB⟩
         refine X.seq <| W.seq <| W.region <| L.v (R1.move rfl) rfl <| L.v (R1.loadBox rfl hb9 tyG29) rfl <| L.v (R1.move rfl) rfl <| L.call rfl (c_Implies (c := fxC v (-x)) hL hbd oksB hT hn49 hd49 (fx_sm (hfx.1.mono (by decide))) (fun _ => fx_ov (hfx.1.mono (by decide)))) rfl ?_
         rintro _ w55 ⟨rs66, ok66, hP66, rfl, hm55⟩
         replace hL := hL.gr hm55
         replace hT := hT.gr hm55
         replace hn49 := hn49.gr hm55
         replace hd49 := hd49.gr hm55
         replace hb9 := Blk.gr hb9 hm55
         replace hbd := hbd.gr hm55
         replace hm0 := hm0.trans hm55
         replace hB := hB.gr hm55
         clear hm55
         refine L.v (R1.move rfl) rfl <| L.v ((R1.eqB rfl rfl tyB4).asB (c := true) (by rw [fx_imp hP41 hP66 hv0 hv1 hok hx hbb]; simp)) rfl <| L.v (R1.move rfl) rfl <| L.on rfl rfl rfl (R1.move rfl) rfl <| L.on rfl rfl rfl (R1.move rfl) rfl <| L.callOn rfl rfl rfl rfl (c_Consistent hB hbd oksW) rfl ?_
         rintro _ w56 ⟨rs72, ok72, hP72, rfl, hm56⟩
         replace hL := hL.gr hm56
         replace hT := hT.gr hm56
         replace hn49 := hn49.gr hm56
         replace hd49 := hd49.gr hm56
         replace hb9 := Blk.gr hb9 hm56
         replace hbd := hbd.gr hm56
         replace hm0 := hm0.trans hm56
         replace hB := hB.gr hm56
         clear hm56
         refine L.on rfl rfl rfl (R1.move rfl) rfl <| L.on rfl rfl rfl (R1.not rfl) rfl <| L.on rfl rfl rfl ((R1.eqB rfl rfl tyB4).asB (c := true) (by rw [fx_with hP41 hP72 hv0 hv1 hok hx hbb]; simp)) rfl <| L.v (R1.pickT rfl rfl) rfl <| L.v (R1.move rfl) rfl <| L.callOn rfl rfl rfl rfl (c_known10) rfl ?_
         rintro _ w57 ⟨rfl, hm57⟩
         replace hL := hL.gr hm57
         replace hT := hT.gr hm57
         replace hn49 := hn49.gr hm57
         replace hd49 := hd49.gr hm57
         replace hb9 := Blk.gr hb9 hm57
         replace hbd := hbd.gr hm57
         replace hm0 := hm0.trans hm57
         replace hB := hB.gr hm57
         clear hm57
         refine L.v (R1.pickT rfl rfl) rfl <| L.v (R1.assign rfl) rfl <| L.nil <| X.seq <| W.ret <| X.result1 rfl (.tmp rfl .nil) ?_
         exact ⟨rfl, hm0⟩
     ·
      simp only [bq] at hgd31
      refine L.off rfl rfl rfl rfl rfl <| L.off rfl rfl rfl rfl rfl <| L.off rfl rfl rfl rfl rfl <| L.off rfl rfl rfl rfl rfl <| L.v (R1.pickT rfl rfl) rfl <| L.nil <| X.seq <| W.condT rfl <| W.seq <| W.region <| L.v (R1.assign rfl) rfl ?_
      refine L.nil <| X.seq <| W.ret <| X.thenRet <| X.result1 rfl (.tmp rfl .nil) ?_
      exact ⟨rfl, hm0⟩
    ·
     simp only [bq] at hgd26
     refine L.off rfl rfl rfl rfl rfl <| L.off rfl rfl rfl rfl rfl <| L.off rfl rfl rfl rfl rfl <| L.v (R1.pickT rfl rfl) rfl <| L.v (R1.move rfl) rfl <| L.off rfl rfl rfl rfl rfl <| L.off rfl rfl rfl rfl rfl <| L.off rfl rfl rfl rfl rfl <| L.off rfl rfl rfl rfl rfl <| L.v (R1.pickT rfl rfl) rfl <| L.nil ?_
     refine X.seq <| W.condT rfl <| W.seq <| W.region <| L.v (R1.assign rfl) rfl <| L.nil <| X.seq <| W.ret <| X.thenRet <| X.result1 rfl (.tmp rfl .nil) ?_
     exact ⟨rfl, hm0⟩
   ·
    simp only [bq] at hgd22
    refine L.off rfl rfl rfl rfl rfl <| L.off rfl rfl rfl rfl rfl <| L.v (R1.pickT rfl rfl) rfl <| L.v (R1.move rfl) rfl <| L.off rfl rfl rfl rfl rfl <| L.off rfl rfl rfl rfl rfl <| L.off rfl rfl rfl rfl rfl <| L.v (R1.pickT rfl rfl) rfl <| L.v (R1.move rfl) rfl <| L.off rfl rfl rfl rfl rfl <| L.off rfl rfl rfl rfl rfl ?_
    refine L.off rfl rfl rfl rfl rfl <| L.off rfl rfl rfl rfl rfl <| L.v (R1.pickT rfl rfl) rfl <| L.nil <| X.seq <| W.condT rfl <| W.seq <| W.region <| L.v (R1.assign rfl) rfl <| L.nil <| X.seq ?_
    refine W.ret <| X.thenRet <| X.result1 rfl (.tmp rfl .nil) ?_
    exact ⟨rfl, hm0⟩
  ·
   simp only [bq] at hgd18
   refine L.off rfl rfl rfl rfl rfl <| L.off rfl rfl rfl rfl rfl <| L.v (R1.pickT rfl rfl) rfl <| L.v (R1.move rfl) rfl <| L.off rfl rfl rfl rfl rfl <| L.off rfl rfl rfl rfl rfl <| L.v (R1.pickT rfl rfl) rfl <| L.v (R1.move rfl) rfl <| L.off rfl rfl rfl rfl rfl <| L.off rfl rfl rfl rfl rfl <| L.off rfl rfl rfl rfl rfl ?_
   refine L.v (R1.pickT rfl rfl) rfl <| L.v (R1.move rfl) rfl <| L.off rfl rfl rfl rfl rfl <| L.off rfl rfl rfl rfl rfl <| L.off rfl rfl rfl rfl rfl <| L.off rfl rfl rfl rfl rfl <| L.v (R1.pickT rfl rfl) rfl <| L.nil <| X.seq <| W.condT rfl <| W.seq ?_
   refine W.region <| L.v (R1.assign rfl) rfl <| L.nil <| X.seq <| W.ret <| X.thenRet <| X.result1 rfl (.tmp rfl .nil) ?_
   exact ⟨rfl, hm0⟩
 ·
  have hcc_ := hgd14
  refine L.off rfl rfl rfl rfl rfl <| L.off rfl rfl rfl rfl rfl <| L.v (R1.pickT rfl rfl) rfl <| L.v (R1.move rfl) rfl <| L.off rfl rfl rfl rfl rfl <| L.off rfl rfl rfl rfl rfl <| L.v (R1.pickT rfl rfl) rfl <| L.v (R1.move rfl) rfl <| L.off rfl rfl rfl rfl rfl <| L.off rfl rfl rfl rfl rfl <| L.v (R1.pickT rfl rfl) rfl ?_
  refine L.v (R1.move rfl) rfl <| L.off rfl rfl rfl rfl rfl <| L.off rfl rfl rfl rfl rfl <| L.off rfl rfl rfl rfl rfl <| L.v (R1.pickT rfl rfl) rfl <| L.v (R1.move rfl) rfl <| L.off rfl rfl rfl rfl rfl <| L.off rfl rfl rfl rfl rfl <| L.off rfl rfl rfl rfl rfl <| L.off rfl rfl rfl rfl rfl <| L.v (R1.pickT rfl rfl) rfl ?_
  refine L.nil <| X.seq <| W.condT rfl <| W.seq <| W.region <| L.v (R1.assign rfl) rfl <| L.nil <| X.seq <| W.ret <| X.thenRet <| X.result1 rfl (.tmp rfl .nil) ?_
  exact ⟨rfl, hm0⟩

end Go.Proofs.Ytkjllbpfcokalaa
