/- Walks: what the functions compute. -/
import Derived.Test.YtpnhihljgkohcaaHpA
namespace Go.Proofs.Ytpnhihljgkohcaa
open Go.RowKit
set_option linter.unusedVariables false
set_option linter.unusedSimpArgs false
set_option maxRecDepth 10000
set_option maxHeartbeats 2000000 in
theorem c_known12 {w : World} :
    Ret Try.prog 12 #[] w (fun r w' => r = .bool true ∧ Mod [] w w') := by
 have hbd : Bd [] w := fun m h9 => by cases h9
 refine Ret.of (vs := []) (n := 25) Try.func12 rfl rfl rfl rfl ?_
 have hm0 : Mod [] w w := Mod.refl _ _
 refine W.seq <| W.region <| L.v (R1.assign rfl) rfl <| L.nil <| X.seq <| W.seq <| W.region <| L.call rfl (c_ref2_Int (n := 1) (by decide) (by decide) hbd) rfl ?_
 rintro _ w1 ⟨⟨A3, c3, B3, e3, rfl, hn3, hd3⟩, hm1⟩
 replace hbd := hbd.gr hm1
 replace hm0 := hm0.trans hm1
 clear hm1
 have F3 := Fit.int (n := 1) (by decide) (by decide)
 refine L.v (R1.build (vs := [.int .i64 0, .agg #[.bool (decide ((((1 : Int)) : Rat).num < 0)), .slice A3 (toL (((1 : Int)) : Rat).num.natAbs).length c3, .slice B3 (toL (((1 : Int)) : Rat).den).length e3]]) rfl (built_T01 _ _ _ _ _ _ _ _)) rfl <| L.buildSlice (cells := [.int .i64 0, .bool (decide ((((1 : Int)) : Rat).num < 0)), .slice A3 (toL (((1 : Int)) : Rat).num.natAbs).length c3, .slice B3 (toL (((1 : Int)) : Rat).den).length e3]) rfl tyS28 tyZ46 (fillN1 _ _ _ _ _ _ _ _) (by decide) (by decide) rfl ?_
 intro g5 w2 hN5
 replace hbd := hbd.new hN5
 replace hm0 := hm0.trans (hN5.mod.mono (by simp))
 replace hn3 := hn3.new hN5
 replace hd3 := hd3.new hN5
 have hb5 := hN5.blk
 clear hN5
 refine L.call rfl (c_ref2_Int (n := -5) (by decide) (by decide) hbd) rfl ?_
 rintro _ w3 ⟨⟨A6, c6, B6, e6, rfl, hn6, hd6⟩, hm3⟩
 replace hbd := hbd.gr hm3
 replace hm0 := hm0.trans hm3
 replace hn3 := hn3.gr hm3
 replace hd3 := hd3.gr hm3
 replace hb5 := Blk.gr hb5 hm3
 clear hm3
 have F6 := Fit.int (n := -5) (by decide) (by decide)
 refine L.v (R1.build (vs := [.int .i64 3, .slice (some ⟨g5, 0, none⟩) 1 1, .agg #[.bool (decide ((((-5 : Int)) : Rat).num < 0)), .slice A6 (toL (((-5 : Int)) : Rat).num.natAbs).length c6, .slice B6 (toL (((-5 : Int)) : Rat).den).length e6]]) rfl (built_C012 _ _ _ _ _ _ _ _ _ _ _)) rfl <| L.alloc tyZ33 rfl ?_
 intro g1 w4 hN1
 replace hbd := hbd.new hN1
 have hge_g1 := New.ge hN1 hm0.size
 replace hm0 := hm0.trans (hN1.mod.mono (by simp))
 replace hn3 := hn3.new hN1
 replace hd3 := hd3.new hN1
 have hne_g5_g1 := hb5.ne_ hN1
 replace hb5 := Blk.gr hb5 hN1.mod
 replace hn6 := hn6.new hN1
 replace hd6 := hd6.new hN1
 have hb1 := hN1.blk
 clear hN1
 refine L.storeBox rfl rfl hb1 rfl rfl tyG33 ?_
 intro w5 hb1' hm5
 replace hbd := hbd.gr hm5
 replace hm0 := hm0.old1 hm5 hge_g1
 replace hn3 := hn3.mod hm5 (by simp)
 replace hd3 := hd3.mod hm5 (by simp)
 replace hb5 := Blk.far hb5 hm5 (by first | exact hne_g5_g1 | exact (hne_g1_g5).symm)
 replace hn6 := hn6.mod hm5 (by simp)
 replace hd6 := hd6.mod hm5 (by simp)
 clear hm5
 replace hb1 := hb1'; clear hb1'
 refine L.nil <| X.seq <| W.seq <| W.cut (ι := Nat × Option Addr × Nat × Option Addr × Nat × Nat × Nat) (fun (g5, A6, c6, B6, e6, g1, g9) => [(1, .pointer (some ⟨g1, 0, none⟩)), (2, .slice (some ⟨g9, 0, none⟩) 1 1)]) (fun (g5, A6, c6, B6, e6, g1, g9) w_ => Lay rdT [] w_ (.slice (some ⟨g5, 0, none⟩) 1 1) knC.ts ∧ U32 [] w_ (.slice A6 (toL (((-5 : Int)) : Rat).num.natAbs).length c6) (toL (((-5 : Int)) : Rat).num.natAbs) ∧ U32 [] w_ (.slice B6 (toL (((-5 : Int)) : Rat).den).length e6) (toL (((-5 : Int)) : Rat).den) ∧ Blk w_ g1 33 #[.int .i64 3, .slice (some ⟨g5, 0, none⟩) 1 1, .bool (decide ((((-5 : Int)) : Rat).num < 0)), .slice A6 (toL (((-5 : Int)) : Rat).num.natAbs).length c6, .slice B6 (toL (((-5 : Int)) : Rat).den).length e6] ∧ Lay rdQ [] w_ (.slice (some ⟨g9, 0, none⟩) 1 1) [QR.nf (((1 : Int)) : Rat)] ∧ Bd [] w_ ∧ Mod [] w w_) ?_ ?_
 ·
  refine W.region <| L.call rfl (c_ref2_Int (n := 1) (by decide) (by decide) hbd) rfl ?_
  rintro _ w6 ⟨⟨A8, c8, B8, e8, rfl, hn8, hd8⟩, hm6⟩
  replace hbd := hbd.gr hm6
  replace hm0 := hm0.trans hm6
  replace hn3 := hn3.gr hm6
  replace hd3 := hd3.gr hm6
  replace hb5 := Blk.gr hb5 hm6
  replace hn6 := hn6.gr hm6
  replace hd6 := hd6.gr hm6
  replace hb1 := Blk.gr hb1 hm6
  clear hm6
  have F8 := Fit.int (n := 1) (by decide) (by decide)
  refine L.buildSlice (cells := [.bool (decide ((((1 : Int)) : Rat).num < 0)), .slice A8 (toL (((1 : Int)) : Rat).num.natAbs).length c8, .slice B8 (toL (((1 : Int)) : Rat).den).length e8]) rfl tyS23 tyZ31 (fillQ1s _ _ _ _ _ _ _) (by decide) (by decide) rfl ?_
  intro g9 w7 hN9
  replace hbd := hbd.new hN9
  replace hm0 := hm0.trans (hN9.mod.mono (by simp))
  replace hn3 := hn3.new hN9
  replace hd3 := hd3.new hN9
  replace hb5 := Blk.gr hb5 hN9.mod
  replace hn6 := hn6.new hN9
  replace hd6 := hd6.new hN9
  replace hb1 := Blk.gr hb1 hN9.mod
  replace hn8 := hn8.new hN9
  replace hd8 := hd8.new hN9
  have hb9 := hN9.blk
  clear hN9
  have hQ : Lay rdQ [] w7 (.slice (some ⟨g9, 0, none⟩) 1 1) [QR.nf (((1 : Int)) : Rat)] := Lay.of_blk (css := [[.bool (decide ((((1 : Int)) : Rat).num < 0)), .slice A8 (toL (((1 : Int)) : Rat).num.natAbs).length c8, .slice B8 (toL (((1 : Int)) : Rat).den).length e8]]) hb9 (LayL.one _ (QR.nf (((1 : Int)) : Rat)) (rdQ_mk (q := QR.nf (((1 : Int)) : Rat)) (hn8.sub (M' := []) (fun b hb => by cases hb)) (hd8.sub (M' := []) (fun b hb => by cases hb)))) rfl rfl (by decide) (by simp)
  refine L.v (R1.assign rfl) rfl <| L.nil <| X.join (g5, A6, c6, B6, e6, g1, g9) ?_ ?_
  · exact ⟨rfl, rfl, trivial⟩
  ·
   have hT : Lay rdT [] w7 (.slice (some ⟨g5, 0, none⟩) 1 1) knC.ts := Lay.of_blk (css := [[.int .i64 0, .bool (decide ((((1 : Int)) : Rat).num < 0)), .slice A3 (toL (((1 : Int)) : Rat).num.natAbs).length c3, .slice B3 (toL (((1 : Int)) : Rat).den).length e3]]) hb5 (LayL.one _ (⟨0, QR.nf (((1 : Int)) : Rat)⟩ : TR) (rdT_mk (t := ⟨0, QR.nf (((1 : Int)) : Rat)⟩) (hn3.sub (M' := []) (fun b hb => by cases hb)) (hd3.sub (M' := []) (fun b hb => by cases hb)))) rfl rfl (by decide) (by simp)
   exact ⟨hT, hn6.sub (fun b hb => by cases hb), hd6.sub (fun b hb => by cases hb), hb1, hQ.sub (fun b hb => by cases hb), hbd.sub (fun b hb => by cases hb), hm0⟩
 ·
  rintro ⟨g5, A6, c6, B6, e6, g1, g9⟩ wj ⟨hT, hn6, hd6, hb1, hQ, hbd, hm0⟩
  refine X.seq <| W.seq ?_
  have F6 : Fit (((-5 : Int)) : Rat) 2 := Fit.int (by decide) (by decide)
  refine W.drawW (T := []) rfl (by decide +kernel) (NoHang.then NoHang.post) (fun w8 hm8 => ?_)
  replace hT := hT.gr hm8
  replace hn6 := hn6.gr hm8
  replace hd6 := hd6.gr hm8
  replace hb1 := Blk.gr hb1 hm8
  replace hQ := hQ.gr hm8
  replace hbd := hbd.gr hm8
  replace hm0 := hm0.trans hm8
  have hS1 : Mod [] w8 w8 := Mod.refl _ _
  clear hm8
  have hb1_s := hb1
  refine D.take 0 rfl (by decide +kernel) (fun w_ hS => (R1.loadBox rfl (Blk.gr hb1_s hS) tyG33)) hS1 rfl <| D.take 2 rfl (by decide +kernel) (fun w_ hS => (R1.move rfl)) hS1 rfl <| D.take 3 rfl (by decide +kernel) (fun w_ hS => (R1.move rfl)) hS1 rfl <| D.one 1 rfl (by decide +kernel) (fun hX => ?_)
  refine L.buildSlice (cells := [.int .i64 3, .slice (some ⟨g5, 0, none⟩) 1 1, .bool (decide ((((-5 : Int)) : Rat).num < 0)), .slice A6 (toL (((-5 : Int)) : Rat).num.natAbs).length c6, .slice B6 (toL (((-5 : Int)) : Rat).den).length e6]) rfl tyS22 tyZ33 (fillK1 _ _ _ _ _ _ _ _ _ _ _) (by decide) (by decide) rfl ?_
  intro g11 w9 hN11
  replace hS1 := hS1.trans hN11.mod
  replace hT := hT.new hN11
  replace hn6 := hn6.new hN11
  replace hd6 := hd6.new hN11
  replace hQ := hQ.new hN11
  replace hbd := hbd.new hN11
  replace hm0 := hm0.trans (hN11.mod.mono (by simp))
  have hb11 := hN11.blk
  clear hN11
  refine L.nil (hX _ _ ⟨.inr hS1, ?_⟩)
  have hL11 : Lay rdC [] w9 (.slice (some ⟨g11, 0, none⟩) 1 1) [knC] := Lay.of_blk (css := [[.int .i64 3, .slice (some ⟨g5, 0, none⟩) 1 1, .bool (decide ((((-5 : Int)) : Rat).num < 0)), .slice A6 (toL (((-5 : Int)) : Rat).num.natAbs).length c6, .slice B6 (toL (((-5 : Int)) : Rat).den).length e6]]) hb11 (LayL.one _ knC (rdC_mk (c := knC) (vt := .slice (some ⟨g5, 0, none⟩) 1 1) (hT.sub (M' := []) (fun b hb => by cases hb)) (hn6.sub (M' := []) (fun b hb => by cases hb)) (hd6.sub (M' := []) (fun b hb => by cases hb)))) rfl rfl (by decide) (by simp)
  refine D.one 4 rfl (by decide +kernel) (fun hX => ?_)
  refine L.call rfl (c_Beaten (M := []) (cs := [knC]) (bs := [QR.nf (((1 : Int)) : Rat)]) (val := [QR.nf (((1 : Int)) : Rat)]) (t := 22651) (hL11.sub (M' := []) (fun b hb => by cases hb)) (hQ.sub (M' := []) (fun b hb => by cases hb)) (hQ.sub (M' := []) (fun b hb => by cases hb)) (fun b hb => by cases hb) kn_sm1 (kn_smq (x := 1) (by decide) (by decide)) (kn_smq (x := 1) (by decide) (by decide)) (by decide) (by decide) (oks_al hQ (kn_smq (x := 1) (by decide) (by decide)) kn_sm1 (by decide))) rfl ?_
  rintro _ w10 ⟨z14, rfl, hBt14, hm10⟩
  replace hT := hT.gr hm10
  replace hn6 := hn6.gr hm10
  replace hd6 := hd6.gr hm10
  replace hQ := hQ.gr hm10
  replace hbd := hbd.gr hm10
  replace hm0 := hm0.trans hm10
  replace hS1 := hS1.trans hm10
  clear hm10
  refine L.nil (hX _ _ ⟨.inr hS1, ?_⟩)
  refine D.take 5 rfl (by decide +kernel) (fun w_ hS => ((R1.eq rfl rfl).asB (c := true) (by rw [kn_first hBt14]; rfl))) hS1 rfl <| D.take 6 rfl (by decide +kernel) (fun w_ hS => (R1.move rfl)) hS1 rfl <| D.takeOn 7 rfl rfl rfl rfl (by decide +kernel) (fun w_ hS => (R1.loadBox rfl (Blk.gr hb1_s hS) tyG33)) hS1 rfl <| D.takeOn 9 rfl rfl rfl rfl (by decide +kernel) (fun w_ hS => (R1.move rfl)) hS1 rfl <| D.many (rs := [8, 10]) (by decide +kernel) rfl ?_
  intro i_ hi_
  simp only [List.mem_cons, List.not_mem_nil, or_false] at hi_
  rcases hi_ with rfl | rfl
  ·
   refine ⟨_, rfl, fun hX => ?_⟩
   refine L.guardOn rfl rfl rfl <| L.buildSlice (cells := [.int .i64 3, .slice (some ⟨g5, 0, none⟩) 1 1, .bool (decide ((((-5 : Int)) : Rat).num < 0)), .slice A6 (toL (((-5 : Int)) : Rat).num.natAbs).length c6, .slice B6 (toL (((-5 : Int)) : Rat).den).length e6]) rfl tyS22 tyZ33 (fillK1 _ _ _ _ _ _ _ _ _ _ _) (by decide) (by decide) rfl ?_
   intro g18 w11 hN18
   replace hS1 := hS1.trans hN18.mod
   replace hT := hT.new hN18
   replace hn6 := hn6.new hN18
   replace hd6 := hd6.new hN18
   replace hQ := hQ.new hN18
   replace hbd := hbd.new hN18
   replace hm0 := hm0.trans (hN18.mod.mono (by simp))
   have hb18 := hN18.blk
   clear hN18
   refine L.nil (hX _ _ ⟨.inr hS1, ?_⟩)
   have hL18 : Lay rdC [] w11 (.slice (some ⟨g18, 0, none⟩) 1 1) [knC] := Lay.of_blk (css := [[.int .i64 3, .slice (some ⟨g5, 0, none⟩) 1 1, .bool (decide ((((-5 : Int)) : Rat).num < 0)), .slice A6 (toL (((-5 : Int)) : Rat).num.natAbs).length c6, .slice B6 (toL (((-5 : Int)) : Rat).den).length e6]]) hb18 (LayL.one _ knC (rdC_mk (c := knC) (vt := .slice (some ⟨g5, 0, none⟩) 1 1) (hT.sub (M' := []) (fun b hb => by cases hb)) (hn6.sub (M' := []) (fun b hb => by cases hb)) (hd6.sub (M' := []) (fun b hb => by cases hb)))) rfl rfl (by decide) (by simp)
   refine D.one 10 rfl (by decide +kernel) (fun hX => ?_)
   refine L.callOn rfl rfl rfl rfl (c_ref2_Int (n := 5) (by decide) (by decide) hbd) rfl ?_
   rintro _ w12 ⟨⟨A20, c20, B20, e20, rfl, hn20, hd20⟩, hm12⟩
   replace hQ := hQ.gr hm12
   replace hm0 := hm0.trans hm12
   replace hL18 := hL18.gr hm12
   replace hS1 := hS1.trans hm12
   clear hm12
   have F20 := Fit.int (n := 5) (by decide) (by decide)
   refine L.nil (hX _ _ ⟨.inr hS1, ?_⟩)
   refine D.one 11 rfl (by decide +kernel) (fun hX => ?_)
   refine L.guardOn rfl rfl rfl <| L.buildSlice (cells := [.bool (decide ((((5 : Int)) : Rat).num < 0)), .slice A20 (toL (((5 : Int)) : Rat).num.natAbs).length c20, .slice B20 (toL (((5 : Int)) : Rat).den).length e20]) rfl tyS23 tyZ31 (fillQ1s _ _ _ _ _ _ _) (by decide) (by decide) rfl ?_
   intro g21 w13 hN21
   replace hS1 := hS1.trans hN21.mod
   replace hQ := hQ.new hN21
   replace hm0 := hm0.trans (hN21.mod.mono (by simp))
   replace hL18 := hL18.new hN21
   replace hn20 := hn20.new hN21
   replace hd20 := hd20.new hN21
   have hb21 := hN21.blk
   clear hN21
   refine L.nil (hX _ _ ⟨.inr hS1, ?_⟩)
   have hQ5 : Lay rdQ [] w13 (.slice (some ⟨g21, 0, none⟩) 1 1) [QR.nf (((5 : Int)) : Rat)] := Lay.of_blk (css := [[.bool (decide ((((5 : Int)) : Rat).num < 0)), .slice A20 (toL (((5 : Int)) : Rat).num.natAbs).length c20, .slice B20 (toL (((5 : Int)) : Rat).den).length e20]]) hb21 (LayL.one _ (QR.nf (((5 : Int)) : Rat)) (rdQ_mk (q := QR.nf (((5 : Int)) : Rat)) (hn20.sub (M' := []) (fun b hb => by cases hb)) (hd20.sub (M' := []) (fun b hb => by cases hb)))) rfl rfl (by decide) (by simp)
   refine D.one 12 rfl (by decide +kernel) (fun hX => ?_)
   refine L.callOn rfl rfl rfl rfl (c_Beaten (M := []) (cs := [knC]) (bs := [QR.nf (((1 : Int)) : Rat)]) (val := [QR.nf (((5 : Int)) : Rat)]) (t := 22651) (hL18.sub (M' := []) (fun b hb => by cases hb)) (hQ.sub (M' := []) (fun b hb => by cases hb)) (hQ5.sub (M' := []) (fun b hb => by cases hb)) (fun b hb => by cases hb) kn_sm1 (kn_smq (x := 1) (by decide) (by decide)) (kn_smq (x := 5) (by decide) (by decide)) (by decide) (by decide) (oks_al hQ (kn_smq (x := 1) (by decide) (by decide)) kn_sm1 (by decide))) rfl ?_
   rintro _ w14 ⟨z22, rfl, hBt22, hm14⟩
   replace hm0 := hm0.trans hm14
   replace hS1 := hS1.trans hm14
   clear hm14
   refine L.nil (hX _ _ ⟨.inr hS1, ?_⟩)
   refine D.takeOn 13 rfl rfl rfl rfl (by decide +kernel) (fun w_ hS => ((R1.eq rfl rfl).asB (c := true) (by rw [kn_second hBt22]; rfl))) hS1 rfl <| D.take 14 rfl (by decide +kernel) (fun w_ hS => (R1.pickT rfl rfl)) hS1 rfl <| D.take 15 rfl (by decide +kernel) (fun w_ hS => (R1.assign rfl)) hS1 rfl <| D.done (by decide +kernel) ?_ _
   refine X.seq <| W.ret <| X.result1 rfl (.tmp rfl .nil) ?_
   exact ⟨rfl, hm0⟩
  ·
   refine ⟨_, rfl, fun hX => ?_⟩
   refine L.callOn rfl rfl rfl rfl (c_ref2_Int (n := 5) (by decide) (by decide) hbd) rfl ?_
   rintro _ w15 ⟨⟨A20, c20, B20, e20, rfl, hn20, hd20⟩, hm15⟩
   replace hT := hT.gr hm15
   replace hn6 := hn6.gr hm15
   replace hd6 := hd6.gr hm15
   replace hQ := hQ.gr hm15
   replace hm0 := hm0.trans hm15
   replace hS1 := hS1.trans hm15
   clear hm15
   have F20 := Fit.int (n := 5) (by decide) (by decide)
   refine L.nil (hX _ _ ⟨.inr hS1, ?_⟩)
   refine D.many (rs := [8, 11]) (by decide +kernel) rfl ?_
   intro i_ hi_
   simp only [List.mem_cons, List.not_mem_nil, or_false] at hi_
   rcases hi_ with rfl | rfl
   ·
    refine ⟨_, rfl, fun hX => ?_⟩
    refine L.guardOn rfl rfl rfl <| L.buildSlice (cells := [.int .i64 3, .slice (some ⟨g5, 0, none⟩) 1 1, .bool (decide ((((-5 : Int)) : Rat).num < 0)), .slice A6 (toL (((-5 : Int)) : Rat).num.natAbs).length c6, .slice B6 (toL (((-5 : Int)) : Rat).den).length e6]) rfl tyS22 tyZ33 (fillK1 _ _ _ _ _ _ _ _ _ _ _) (by decide) (by decide) rfl ?_
    intro g18 w16 hN18
    replace hS1 := hS1.trans hN18.mod
    replace hT := hT.new hN18
    replace hn6 := hn6.new hN18
    replace hd6 := hd6.new hN18
    replace hQ := hQ.new hN18
    replace hm0 := hm0.trans (hN18.mod.mono (by simp))
    replace hn20 := hn20.new hN18
    replace hd20 := hd20.new hN18
    have hb18 := hN18.blk
    clear hN18
    refine L.nil (hX _ _ ⟨.inr hS1, ?_⟩)
    have hL18 : Lay rdC [] w16 (.slice (some ⟨g18, 0, none⟩) 1 1) [knC] := Lay.of_blk (css := [[.int .i64 3, .slice (some ⟨g5, 0, none⟩) 1 1, .bool (decide ((((-5 : Int)) : Rat).num < 0)), .slice A6 (toL (((-5 : Int)) : Rat).num.natAbs).length c6, .slice B6 (toL (((-5 : Int)) : Rat).den).length e6]]) hb18 (LayL.one _ knC (rdC_mk (c := knC) (vt := .slice (some ⟨g5, 0, none⟩) 1 1) (hT.sub (M' := []) (fun b hb => by cases hb)) (hn6.sub (M' := []) (fun b hb => by cases hb)) (hd6.sub (M' := []) (fun b hb => by cases hb)))) rfl rfl (by decide) (by simp)
    refine D.one 11 rfl (by decide +kernel) (fun hX => ?_)
    refine L.guardOn rfl rfl rfl <| L.buildSlice (cells := [.bool (decide ((((5 : Int)) : Rat).num < 0)), .slice A20 (toL (((5 : Int)) : Rat).num.natAbs).length c20, .slice B20 (toL (((5 : Int)) : Rat).den).length e20]) rfl tyS23 tyZ31 (fillQ1s _ _ _ _ _ _ _) (by decide) (by decide) rfl ?_
    intro g21 w17 hN21
    replace hS1 := hS1.trans hN21.mod
    replace hQ := hQ.new hN21
    replace hm0 := hm0.trans (hN21.mod.mono (by simp))
    replace hn20 := hn20.new hN21
    replace hd20 := hd20.new hN21
    replace hL18 := hL18.new hN21
    have hb21 := hN21.blk
    clear hN21
    refine L.nil (hX _ _ ⟨.inr hS1, ?_⟩)
    have hQ5 : Lay rdQ [] w17 (.slice (some ⟨g21, 0, none⟩) 1 1) [QR.nf (((5 : Int)) : Rat)] := Lay.of_blk (css := [[.bool (decide ((((5 : Int)) : Rat).num < 0)), .slice A20 (toL (((5 : Int)) : Rat).num.natAbs).length c20, .slice B20 (toL (((5 : Int)) : Rat).den).length e20]]) hb21 (LayL.one _ (QR.nf (((5 : Int)) : Rat)) (rdQ_mk (q := QR.nf (((5 : Int)) : Rat)) (hn20.sub (M' := []) (fun b hb => by cases hb)) (hd20.sub (M' := []) (fun b hb => by cases hb)))) rfl rfl (by decide) (by simp)
    refine D.one 12 rfl (by decide +kernel) (fun hX => ?_)
    refine L.callOn rfl rfl rfl rfl (c_Beaten (M := []) (cs := [knC]) (bs := [QR.nf (((1 : Int)) : Rat)]) (val := [QR.nf (((5 : Int)) : Rat)]) (t := 22651) (hL18.sub (M' := []) (fun b hb => by cases hb)) (hQ.sub (M' := []) (fun b hb => by cases hb)) (hQ5.sub (M' := []) (fun b hb => by cases hb)) (fun b hb => by cases hb) kn_sm1 (kn_smq (x := 1) (by decide) (by decide)) (kn_smq (x := 5) (by decide) (by decide)) (by decide) (by decide) (oks_al hQ (kn_smq (x := 1) (by decide) (by decide)) kn_sm1 (by decide))) rfl ?_
    rintro _ w18 ⟨z22, rfl, hBt22, hm18⟩
    replace hm0 := hm0.trans hm18
    replace hS1 := hS1.trans hm18
    clear hm18
    refine L.nil (hX _ _ ⟨.inr hS1, ?_⟩)
    refine D.takeOn 13 rfl rfl rfl rfl (by decide +kernel) (fun w_ hS => ((R1.eq rfl rfl).asB (c := true) (by rw [kn_second hBt22]; rfl))) hS1 rfl <| D.take 14 rfl (by decide +kernel) (fun w_ hS => (R1.pickT rfl rfl)) hS1 rfl <| D.take 15 rfl (by decide +kernel) (fun w_ hS => (R1.assign rfl)) hS1 rfl <| D.done (by decide +kernel) ?_ _
    refine X.seq <| W.ret <| X.result1 rfl (.tmp rfl .nil) ?_
    exact ⟨rfl, hm0⟩
   ·
    refine ⟨_, rfl, fun hX => ?_⟩
    refine L.guardOn rfl rfl rfl <| L.buildSlice (cells := [.bool (decide ((((5 : Int)) : Rat).num < 0)), .slice A20 (toL (((5 : Int)) : Rat).num.natAbs).length c20, .slice B20 (toL (((5 : Int)) : Rat).den).length e20]) rfl tyS23 tyZ31 (fillQ1s _ _ _ _ _ _ _) (by decide) (by decide) rfl ?_
    intro g21 w19 hN21
    replace hS1 := hS1.trans hN21.mod
    replace hT := hT.new hN21
    replace hn6 := hn6.new hN21
    replace hd6 := hd6.new hN21
    replace hQ := hQ.new hN21
    replace hm0 := hm0.trans (hN21.mod.mono (by simp))
    replace hn20 := hn20.new hN21
    replace hd20 := hd20.new hN21
    have hb21 := hN21.blk
    clear hN21
    refine L.nil (hX _ _ ⟨.inr hS1, ?_⟩)
    have hQ5 : Lay rdQ [] w19 (.slice (some ⟨g21, 0, none⟩) 1 1) [QR.nf (((5 : Int)) : Rat)] := Lay.of_blk (css := [[.bool (decide ((((5 : Int)) : Rat).num < 0)), .slice A20 (toL (((5 : Int)) : Rat).num.natAbs).length c20, .slice B20 (toL (((5 : Int)) : Rat).den).length e20]]) hb21 (LayL.one _ (QR.nf (((5 : Int)) : Rat)) (rdQ_mk (q := QR.nf (((5 : Int)) : Rat)) (hn20.sub (M' := []) (fun b hb => by cases hb)) (hd20.sub (M' := []) (fun b hb => by cases hb)))) rfl rfl (by decide) (by simp)
    refine D.one 8 rfl (by decide +kernel) (fun hX => ?_)
    refine L.guardOn rfl rfl rfl <| L.buildSlice (cells := [.int .i64 3, .slice (some ⟨g5, 0, none⟩) 1 1, .bool (decide ((((-5 : Int)) : Rat).num < 0)), .slice A6 (toL (((-5 : Int)) : Rat).num.natAbs).length c6, .slice B6 (toL (((-5 : Int)) : Rat).den).length e6]) rfl tyS22 tyZ33 (fillK1 _ _ _ _ _ _ _ _ _ _ _) (by decide) (by decide) rfl ?_
    intro g18 w20 hN18
    replace hS1 := hS1.trans hN18.mod
    replace hT := hT.new hN18
    replace hn6 := hn6.new hN18
    replace hd6 := hd6.new hN18
    replace hQ := hQ.new hN18
    replace hm0 := hm0.trans (hN18.mod.mono (by simp))
    replace hQ5 := hQ5.new hN18
    have hb18 := hN18.blk
    clear hN18
    refine L.nil (hX _ _ ⟨.inr hS1, ?_⟩)
    have hL18 : Lay rdC [] w20 (.slice (some ⟨g18, 0, none⟩) 1 1) [knC] := Lay.of_blk (css := [[.int .i64 3, .slice (some ⟨g5, 0, none⟩) 1 1, .bool (decide ((((-5 : Int)) : Rat).num < 0)), .slice A6 (toL (((-5 : Int)) : Rat).num.natAbs).length c6, .slice B6 (toL (((-5 : Int)) : Rat).den).length e6]]) hb18 (LayL.one _ knC (rdC_mk (c := knC) (vt := .slice (some ⟨g5, 0, none⟩) 1 1) (hT.sub (M' := []) (fun b hb => by cases hb)) (hn6.sub (M' := []) (fun b hb => by cases hb)) (hd6.sub (M' := []) (fun b hb => by cases hb)))) rfl rfl (by decide) (by simp)
    refine D.one 12 rfl (by decide +kernel) (fun hX => ?_)
    refine L.callOn rfl rfl rfl rfl (c_Beaten (M := []) (cs := [knC]) (bs := [QR.nf (((1 : Int)) : Rat)]) (val := [QR.nf (((5 : Int)) : Rat)]) (t := 22651) (hL18.sub (M' := []) (fun b hb => by cases hb)) (hQ.sub (M' := []) (fun b hb => by cases hb)) (hQ5.sub (M' := []) (fun b hb => by cases hb)) (fun b hb => by cases hb) kn_sm1 (kn_smq (x := 1) (by decide) (by decide)) (kn_smq (x := 5) (by decide) (by decide)) (by decide) (by decide) (oks_al hQ (kn_smq (x := 1) (by decide) (by decide)) kn_sm1 (by decide))) rfl ?_
    rintro _ w21 ⟨z22, rfl, hBt22, hm21⟩
    replace hm0 := hm0.trans hm21
    replace hS1 := hS1.trans hm21
    clear hm21
    refine L.nil (hX _ _ ⟨.inr hS1, ?_⟩)
    refine D.takeOn 13 rfl rfl rfl rfl (by decide +kernel) (fun w_ hS => ((R1.eq rfl rfl).asB (c := true) (by rw [kn_second hBt22]; rfl))) hS1 rfl <| D.take 14 rfl (by decide +kernel) (fun w_ hS => (R1.pickT rfl rfl)) hS1 rfl <| D.take 15 rfl (by decide +kernel) (fun w_ hS => (R1.assign rfl)) hS1 rfl <| D.done (by decide +kernel) ?_ _
    refine X.seq <| W.ret <| X.result1 rfl (.tmp rfl .nil) ?_
    exact ⟨rfl, hm0⟩

end Go.Proofs.Ytpnhihljgkohcaa
