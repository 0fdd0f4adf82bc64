/- Walks: what the functions compute. -/
import Derived.Test.YtkjllbpfcokalaaLkA
import Derived.Test.YtkjllbpfcokalaaLpT
import Derived.Test.YtkjllbpfcokalaaGPA
import Derived.Test.YtkjllbpfcokalaaGaH
namespace Go.Proofs.Ytkjllbpfcokalaa
open Go.RowKit
set_option linter.unusedVariables false
set_option linter.unusedSimpArgs false
set_option maxRecDepth 10000
set_option maxHeartbeats 1000000 in
theorem c_GaussTells {w : World} {vl vt vn vd vv : Value} {cs : List CR} {c : CR} {val : List QR} {v z0 : Int} (hL : Lay rdC [] w vl cs) (ht : Lay rdT [] w vt c.ts) (h : U32 [] w vn c.k.n) (k : U32 [] w vd c.k.d) (hv : Lay rdQ [] w vv val) (hb : szCs cs ≤ 4194304) (hbc : szC c ≤ 4194304) (hbv : szQs val ≤ 4194304) :
    Ret Try.prog 8 #[vl, .agg #[.int .i64 c.st, vt, .bool c.k.s, vn, vd], vv, .int .i64 v, .int .i64 z0] w (fun r w' => r = .bool true ∧ Mod [] w w') := by
 have hbd : Bd [] w := fun m hm => by cases hm
 obtain ⟨T9, t9, rfl⟩ := ht.form
 obtain ⟨A9, c9, rfl⟩ := h.form
 obtain ⟨B9, e9, rfl⟩ := k.form
 refine Ret.of (vs := [vl, .agg #[.int .i64 c.st, .slice T9 c.ts.length t9, .bool c.k.s, .slice A9 c.k.n.length c9, .slice B9 c.k.d.length e9], vv, .int .i64 v, .int .i64 z0]) (n := 93) Try.func8 rfl rfl rfl rfl ?_
 have hm0 : Mod [] w w := Mod.refl _ _
 refine W.seq <| W.region <| L.box rfl rfl ?_
 intro g6 w1 hN6
 replace hL := hL.new hN6
 replace hv := hv.new hN6
 replace hbd := hbd.new hN6
 replace ht := ht.new hN6
 replace h := h.new hN6
 replace k := k.new hN6
 have hge_g6 := New.ge hN6 hm0.size
 replace hm0 := hm0.trans (hN6.mod.mono (by simp))
 have hb6 := hN6.blk
 clear hN6
 refine L.v (R1.assign rfl) rfl <| L.nil <| X.seq <| W.seq <| W.seq <| W.region <| L.v (R1.move rfl) rfl <| L.call rfl (c_heavy_pantographlaw10 hL (hb)) rfl ?_
 rintro _ w2 ⟨rfl, hm2⟩
 replace hL := hL.gr hm2
 replace hv := hv.gr hm2
 replace hbd := hbd.gr hm2
 replace ht := ht.gr hm2
 replace h := h.gr hm2
 replace k := k.gr hm2
 replace hm0 := hm0.trans hm2
 replace hb6 := Blk.gr hb6 hm2
 clear hm2
 refine L.v (R1.move rfl) rfl ?_
 cases hgd17 : (decide (150 < szCs cs))
 ·
  have hcc_ := hgd17
  refine L.on rfl rfl rfl (R1.loadBox rfl hb6 tyG29) rfl <| L.guardOn rfl rfl rfl <| L.buildSlice (cells := [.int .i64 c.st, .slice T9 c.ts.length t9, .bool c.k.s, .slice A9 c.k.n.length c9, .slice B9 c.k.d.length e9]) rfl tyS22 tyZ29 (fillK1 _ _ _ _ _ _ _ _ _ _ _) (by decide) (by decide) rfl ?_
  intro g19 w3 hN19
  replace hL := hL.new hN19
  replace hv := hv.new hN19
  replace hbd := hbd.new hN19
  replace ht := ht.new hN19
  replace h := h.new hN19
  replace k := k.new hN19
  have hge_g19 := New.ge hN19 hm0.size
  replace hm0 := hm0.trans (hN19.mod.mono (by simp))
  have hne_g6_g19 := hb6.ne_ hN19
  replace hb6 := Blk.gr hb6 hN19.mod
  have hb19 := hN19.blk
  clear hN19
  have hL19 : Lay rdC [] w3 (.slice (some ⟨g19, 0, none⟩) 1 1) [c] := Lay.of_blk (css := [[.int .i64 c.st, .slice T9 c.ts.length t9, .bool c.k.s, .slice A9 c.k.n.length c9, .slice B9 c.k.d.length e9]]) hb19 (LayL.one _ c (rdC_mk (ht.sub (by simp)) (h.sub (by simp)) (k.sub (by simp)))) rfl rfl (by decide) (by simp)
  refine L.callOn rfl rfl rfl rfl (c_heavy_pantographlaw10 hL19 (by rw [szCs_one]; omega)) rfl ?_
  rintro _ w4 ⟨rfl, hm4⟩
  replace hL := hL.gr hm4
  replace hv := hv.gr hm4
  replace hbd := hbd.gr hm4
  replace ht := ht.gr hm4
  replace h := h.gr hm4
  replace k := k.gr hm4
  replace hm0 := hm0.trans hm4
  replace hb6 := Blk.gr hb6 hm4
  replace hb19 := Blk.gr hb19 hm4
  replace hL19 := hL19.gr hm4
  clear hm4
  refine L.v (R1.pickF rfl rfl) rfl <| L.v (R1.move rfl) rfl ?_
  cases hgd22 : (decide (150 < szCs [c]))
  ·
   have hcc_ := hgd22
   refine L.on rfl rfl rfl (R1.move rfl) rfl <| L.callOn rfl rfl rfl rfl (c_many_pantographlaw10 hv (hbv)) rfl ?_
   rintro _ w5 ⟨b24, rfl, hb24, hm5⟩
   replace hL := hL.gr hm5
   replace hv := hv.gr hm5
   replace hbd := hbd.gr hm5
   replace ht := ht.gr hm5
   replace h := h.gr hm5
   replace k := k.gr hm5
   replace hm0 := hm0.trans hm5
   replace hb6 := Blk.gr hb6 hm5
   replace hb19 := Blk.gr hb19 hm5
   replace hL19 := hL19.gr hm5
   clear hm5
   refine L.v (R1.pickF rfl rfl) rfl <| L.v (R1.move rfl) rfl ?_
   cases hgd26 : b24
   ·
    have hcc_ := hgd26
    refine L.on rfl rfl rfl (R1.move rfl) rfl <| L.on rfl rfl rfl ((R1.gt rfl rfl).asB (c := decide (12 < z0)) (rfl)) rfl <| L.v (R1.pickF rfl rfl) rfl <| L.nil <| X.seq <| W.cond rfl ?_ ?_
    ·
     intro hc29
     simp only [bq] at hc29
     refine W.seq <| W.region <| L.v (R1.assign rfl) rfl <| L.nil <| X.seq <| W.ret <| X.thenRet <| X.result1 rfl (.tmp rfl .nil) ?_
     exact ⟨rfl, hm0⟩
    ·
     intro hc29
     simp only [bq] at hc29
     have hsm := sm150 (by simpa using hgd17)
     have hsc := sm150c (c := c) (by simpa using hgd22)
     obtain ⟨hq3, hq100⟩ := hb24 hgd26
     have oks := oks12 (z0 := z0) hsm (by omega)
     refine W.skip <| X.seq <| W.seq <| W.region <| L.v (R1.move rfl) rfl <| L.v (R1.move rfl) rfl <| L.v (R1.move rfl) rfl <| L.call rfl (c_Fixed hL hbd oks) rfl ?_
     rintro _ w6 ⟨rs34, ok34, _, hP34, rfl, ⟨s34, A34, c34, B34, e34, xs34, ys34, rfl, hn34, hd34, hq34, hla34, hlb34⟩, hm6⟩
     replace hL := hL.gr hm6
     replace hv := hv.gr hm6
     replace hbd := hbd.gr hm6
     replace ht := ht.gr hm6
     replace h := h.gr hm6
     replace k := k.gr hm6
     replace hm0 := hm0.trans hm6
     replace hb6 := Blk.gr hb6 hm6
     replace hb19 := Blk.gr hb19 hm6
     replace hL19 := hL19.gr hm6
     clear hm6
     refine L.v (R1.move rfl) rfl <| L.v (R1.extract rfl rfl) rfl <| L.v (R1.extract rfl rfl) rfl <| L.alloc tyZ27 rfl ?_
     intro g11 w7 hN11
     replace hL := hL.new hN11
     replace hv := hv.new hN11
     replace hbd := hbd.new hN11
     replace ht := ht.new hN11
     replace h := h.new hN11
     replace k := k.new hN11
     have hge_g11 := New.ge hN11 hm0.size
     replace hm0 := hm0.trans (hN11.mod.mono (by simp))
     have hne_g6_g11 := hb6.ne_ hN11
     replace hb6 := Blk.gr hb6 hN11.mod
     have hne_g19_g11 := hb19.ne_ hN11
     replace hb19 := Blk.gr hb19 hN11.mod
     replace hL19 := hL19.new hN11
     replace hn34 := hn34.new hN11
     replace hd34 := hd34.new hN11
     have hb11 := hN11.blk
     clear hN11
     refine L.storeBox rfl rfl hb11 rfl rfl tyG27 ?_
     intro w8 hb11' hm8
     replace hL := hL.mod hm8 (by simp)
     replace hv := hv.mod hm8 (by simp)
     replace hbd := hbd.gr hm8
     replace ht := ht.mod hm8 (by simp)
     replace h := h.mod hm8 (by simp)
     replace k := k.mod hm8 (by simp)
     replace hm0 := hm0.old1 hm8 hge_g11
     replace hb6 := Blk.far hb6 hm8 (by first | exact hne_g6_g11 | exact (hne_g11_g6).symm)
     replace hb19 := Blk.far hb19 hm8 (by first | exact hne_g19_g11 | exact (hne_g11_g19).symm)
     replace hL19 := hL19.mod hm8 (by simp)
     replace hn34 := hn34.mod hm8 (by simp)
     replace hd34 := hd34.mod hm8 (by simp)
     clear hm8
     replace hb11 := hb11'; clear hb11'
     refine L.v (R1.assign rfl) rfl <| L.nil <| X.seq <| W.seq <| W.region <| L.v (R1.move rfl) rfl <| L.v (R1.move rfl) rfl <| L.v (R1.move rfl) rfl <| L.call rfl (c_Fixed10 hL hbd oks) rfl ?_
     rintro _ w9 ⟨rs41, ok41, _, hP41, rfl, ⟨s41, A41, c41, B41, e41, xs41, ys41, rfl, hn41, hd41, hq41, hla41, hlb41⟩, hm9⟩
     replace hL := hL.gr hm9
     replace hv := hv.gr hm9
     replace hbd := hbd.gr hm9
     replace ht := ht.gr hm9
     replace h := h.gr hm9
     replace k := k.gr hm9
     replace hm0 := hm0.trans hm9
     replace hb6 := Blk.gr hb6 hm9
     replace hb19 := Blk.gr hb19 hm9
     replace hL19 := hL19.gr hm9
     replace hn34 := hn34.gr hm9
     replace hd34 := hd34.gr hm9
     replace hb11 := Blk.gr hb11 hm9
     clear hm9
     refine L.v (R1.move rfl) rfl <| L.v (R1.extract rfl rfl) rfl <| L.v (R1.extract rfl rfl) rfl <| L.alloc tyZ27 rfl ?_
     intro g13 w10 hN13
     replace hL := hL.new hN13
     replace hv := hv.new hN13
     replace hbd := hbd.new hN13
     replace ht := ht.new hN13
     replace h := h.new hN13
     replace k := k.new hN13
     have hge_g13 := New.ge hN13 hm0.size
     replace hm0 := hm0.trans (hN13.mod.mono (by simp))
     have hne_g6_g13 := hb6.ne_ hN13
     replace hb6 := Blk.gr hb6 hN13.mod
     have hne_g19_g13 := hb19.ne_ hN13
     replace hb19 := Blk.gr hb19 hN13.mod
     replace hL19 := hL19.new hN13
     replace hn34 := hn34.new hN13
     replace hd34 := hd34.new hN13
     have hne_g11_g13 := hb11.ne_ hN13
     replace hb11 := Blk.gr hb11 hN13.mod
     replace hn41 := hn41.new hN13
     replace hd41 := hd41.new hN13
     have hb13 := hN13.blk
     clear hN13
     refine L.storeBox rfl rfl hb13 rfl rfl tyG27 ?_
     intro w11 hb13' hm11
     replace hL := hL.mod hm11 (by simp)
     replace hv := hv.mod hm11 (by simp)
     replace hbd := hbd.gr hm11
     replace ht := ht.mod hm11 (by simp)
     replace h := h.mod hm11 (by simp)
     replace k := k.mod hm11 (by simp)
     replace hm0 := hm0.old1 hm11 hge_g13
     replace hb6 := Blk.far hb6 hm11 (by first | exact hne_g6_g13 | exact (hne_g13_g6).symm)
     replace hb19 := Blk.far hb19 hm11 (by first | exact hne_g19_g13 | exact (hne_g13_g19).symm)
     replace hL19 := hL19.mod hm11 (by simp)
     replace hn34 := hn34.mod hm11 (by simp)
     replace hd34 := hd34.mod hm11 (by simp)
     replace hb11 := Blk.far hb11 hm11 (by first | exact hne_g11_g13 | exact (hne_g13_g11).symm)
     replace hn41 := hn41.mod hm11 (by simp)
     replace hd41 := hd41.mod hm11 (by simp)
     clear hm11
     replace hb13 := hb13'; clear hb13'
     refine L.v (R1.assign rfl) rfl <| L.nil <| X.seq <| W.seq <| W.drawW (T := []) rfl (by decide +kernel) (NoHang.then NoHang.post) (fun w12 hm12 => ?_)
     replace hL := hL.gr hm12
     replace hv := hv.gr hm12
     replace hbd := hbd.gr hm12
     replace ht := ht.gr hm12
     replace h := h.gr hm12
     replace k := k.gr hm12
     replace hm0 := hm0.trans hm12
     replace hb6 := Blk.gr hb6 hm12
     replace hb19 := Blk.gr hb19 hm12
     replace hL19 := hL19.gr hm12
     replace hn34 := hn34.gr hm12
     replace hd34 := hd34.gr hm12
     replace hb11 := Blk.gr hb11 hm12
     replace hn41 := hn41.gr hm12
     replace hd41 := hd41.gr hm12
     replace hb13 := Blk.gr hb13 hm12
     have hS1 : Mod [] w12 w12 := Mod.refl _ _
     clear hm12
     have hb6_s := hb6
     have hb19_s := hb19
     have hb11_s := hb11
     have hb13_s := hb13
     refine D.take 0 rfl (by decide +kernel) (fun w_ hS => (R1.loadBox rfl (Blk.gr hb6_s hS) tyG29)) hS1 rfl <| D.take 1 rfl (by decide +kernel) (fun w_ hS => (R1.move rfl)) hS1 rfl <| D.take 3 rfl (by decide +kernel) (fun w_ hS => (R1.loadBox rfl (Blk.gr hb6_s hS) tyG29)) hS1 rfl <| D.take 4 rfl (by decide +kernel) (fun w_ hS => (R1.move rfl)) hS1 rfl <| D.one 2 rfl (by decide +kernel) (fun hX => ?_)
     refine L.call rfl (c_Holds ht h k hv hbd (hsc.mono (by decide)) (sm_mono3 hq3)) rfl ?_
     rintro _ w13 ⟨rfl, hm13⟩
     replace hL := hL.gr hm13
     replace hv := hv.gr hm13
     replace hbd := hbd.gr hm13
     replace ht := ht.gr hm13
     replace h := h.gr hm13
     replace k := k.gr hm13
     replace hm0 := hm0.trans hm13
     replace hb6 := Blk.gr hb6 hm13
     replace hb19 := Blk.gr hb19 hm13
     replace hL19 := hL19.gr hm13
     replace hn34 := hn34.gr hm13
     replace hd34 := hd34.gr hm13
     replace hb11 := Blk.gr hb11 hm13
     replace hn41 := hn41.gr hm13
     replace hd41 := hd41.gr hm13
     replace hb13 := Blk.gr hb13 hm13
     replace hS1 := hS1.trans hm13
     clear hm13
     refine L.nil (hX _ _ ⟨.inr hS1, ?_⟩)
     refine D.one 5 rfl (by decide +kernel) (fun hX => ?_)
     refine L.call rfl (c_Holds10 ht h k hv hbd (hsc.mono (by decide)) (sm_mono3 hq3)) rfl ?_
     rintro _ w14 ⟨rfl, hm14⟩
     replace hL := hL.gr hm14
     replace hv := hv.gr hm14
     replace hbd := hbd.gr hm14
     replace ht := ht.gr hm14
     replace h := h.gr hm14
     replace k := k.gr hm14
     replace hm0 := hm0.trans hm14
     replace hb6 := Blk.gr hb6 hm14
     replace hb19 := Blk.gr hb19 hm14
     replace hL19 := hL19.gr hm14
     replace hn34 := hn34.gr hm14
     replace hd34 := hd34.gr hm14
     replace hb11 := Blk.gr hb11 hm14
     replace hn41 := hn41.gr hm14
     replace hd41 := hd41.gr hm14
     replace hb13 := Blk.gr hb13 hm14
     replace hS1 := hS1.trans hm14
     clear hm14
     refine L.nil (hX _ _ ⟨.inr hS1, ?_⟩)
     refine D.take 6 rfl (by decide +kernel) (fun w_ hS => ((R1.eqB rfl rfl tyB4).asB (c := true) (by simp))) hS1 rfl <| D.take 7 rfl (by decide +kernel) (fun w_ hS => (R1.move rfl)) hS1 rfl <| D.takeOn 8 rfl rfl rfl rfl (by decide +kernel) (fun w_ hS => (R1.move rfl)) hS1 rfl <| D.takeOn 9 rfl rfl rfl rfl (by decide +kernel) (fun w_ hS => (R1.move rfl)) hS1 rfl <| D.takeOn 11 rfl rfl rfl rfl (by decide +kernel) (fun w_ hS => (R1.move rfl)) hS1 rfl <| D.takeOn 12 rfl rfl rfl rfl (by decide +kernel) (fun w_ hS => (R1.move rfl)) hS1 rfl <| D.one 10 rfl (by decide +kernel) (fun hX => ?_)
     refine L.callOn rfl rfl rfl rfl (c_Consistent hL hbd oks) rfl ?_
     rintro _ w15 ⟨rs54, ok54, hP54, rfl, hm15⟩
     replace hL := hL.gr hm15
     replace hv := hv.gr hm15
     replace hbd := hbd.gr hm15
     replace ht := ht.gr hm15
     replace h := h.gr hm15
     replace k := k.gr hm15
     replace hm0 := hm0.trans hm15
     replace hb6 := Blk.gr hb6 hm15
     replace hb19 := Blk.gr hb19 hm15
     replace hL19 := hL19.gr hm15
     replace hn34 := hn34.gr hm15
     replace hd34 := hd34.gr hm15
     replace hb11 := Blk.gr hb11 hm15
     replace hn41 := hn41.gr hm15
     replace hd41 := hd41.gr hm15
     replace hb13 := Blk.gr hb13 hm15
     replace hS1 := hS1.trans hm15
     clear hm15
     refine L.nil (hX _ _ ⟨.inr hS1, ?_⟩)
     refine D.one 13 rfl (by decide +kernel) (fun hX => ?_)
     refine L.callOn rfl rfl rfl rfl (c_Consistent10 hL hbd oks) rfl ?_
     rintro _ w16 ⟨rs57, ok57, hP57, rfl, hm16⟩
     replace hL := hL.gr hm16
     replace hv := hv.gr hm16
     replace hbd := hbd.gr hm16
     replace ht := ht.gr hm16
     replace h := h.gr hm16
     replace k := k.gr hm16
     replace hm0 := hm0.trans hm16
     replace hb6 := Blk.gr hb6 hm16
     replace hb19 := Blk.gr hb19 hm16
     replace hL19 := hL19.gr hm16
     replace hn34 := hn34.gr hm16
     replace hd34 := hd34.gr hm16
     replace hb11 := Blk.gr hb11 hm16
     replace hn41 := hn41.gr hm16
     replace hd41 := hd41.gr hm16
     replace hb13 := Blk.gr hb13 hm16
     replace hS1 := hS1.trans hm16
     clear hm16
     refine L.nil (hX _ _ ⟨.inr hS1, ?_⟩)
     refine D.takeOn 14 rfl rfl rfl rfl (by decide +kernel) (fun w_ hS => ((R1.eqB rfl rfl tyB4).asB (c := true) (by rw [PA_ok hP54 hP57 (Eqv.refl _)]; simp))) hS1 rfl <| D.take 15 rfl (by decide +kernel) (fun w_ hS => (R1.pickT rfl rfl)) hS1 rfl <| D.take 16 rfl (by decide +kernel) (fun w_ hS => (R1.move rfl)) hS1 rfl <| D.takeOn 17 rfl rfl rfl rfl (by decide +kernel) (fun w_ hS => (R1.move rfl)) hS1 rfl <| D.takeOn 18 rfl rfl rfl rfl (by decide +kernel) (fun w_ hS => (R1.move rfl)) hS1 rfl <| D.takeOn 20 rfl rfl rfl rfl (by decide +kernel) (fun w_ hS => (R1.move rfl)) hS1 rfl <| D.takeOn 21 rfl rfl rfl rfl (by decide +kernel) (fun w_ hS => (R1.move rfl)) hS1 rfl <| D.one 19 rfl (by decide +kernel) (fun hX => ?_)
     refine L.callOn rfl rfl rfl rfl (c_Rank hL hbd oks) rfl ?_
     rintro _ w17 ⟨rs63, ok63, ⟨hP63, hrk63⟩, rfl, hm17⟩
     replace hL := hL.gr hm17
     replace hv := hv.gr hm17
     replace hbd := hbd.gr hm17
     replace ht := ht.gr hm17
     replace h := h.gr hm17
     replace k := k.gr hm17
     replace hm0 := hm0.trans hm17
     replace hb6 := Blk.gr hb6 hm17
     replace hb19 := Blk.gr hb19 hm17
     replace hL19 := hL19.gr hm17
     replace hn34 := hn34.gr hm17
     replace hd34 := hd34.gr hm17
     replace hb11 := Blk.gr hb11 hm17
     replace hn41 := hn41.gr hm17
     replace hd41 := hd41.gr hm17
     replace hb13 := Blk.gr hb13 hm17
     replace hS1 := hS1.trans hm17
     clear hm17
     refine L.nil (hX _ _ ⟨.inr hS1, ?_⟩)
     refine D.one 22 rfl (by decide +kernel) (fun hX => ?_)
     refine L.callOn rfl rfl rfl rfl (c_Rank10 hL hbd oks) rfl ?_
     rintro _ w18 ⟨rs66, ok66, hP66, rfl, hm18⟩
     replace hL := hL.gr hm18
     replace hv := hv.gr hm18
     replace hbd := hbd.gr hm18
     replace ht := ht.gr hm18
     replace h := h.gr hm18
     replace k := k.gr hm18
     replace hm0 := hm0.trans hm18
     replace hb6 := Blk.gr hb6 hm18
     replace hb19 := Blk.gr hb19 hm18
     replace hL19 := hL19.gr hm18
     replace hn34 := hn34.gr hm18
     replace hd34 := hd34.gr hm18
     replace hb11 := Blk.gr hb11 hm18
     replace hn41 := hn41.gr hm18
     replace hd41 := hd41.gr hm18
     replace hb13 := Blk.gr hb13 hm18
     replace hS1 := hS1.trans hm18
     clear hm18
     refine L.nil (hX _ _ ⟨.inr hS1, ?_⟩)
     refine D.takeOn 23 rfl rfl rfl rfl (by decide +kernel) (fun w_ hS => ((R1.eq rfl rfl).asB (c := true) (decide_eq_true (by rw [PA_rank hP63 hP66 (Eqv.refl _)])))) hS1 rfl <| D.take 24 rfl (by decide +kernel) (fun w_ hS => (R1.pickT rfl rfl)) hS1 rfl <| D.take 25 rfl (by decide +kernel) (fun w_ hS => (R1.move rfl)) hS1 rfl <| D.takeOn 26 rfl rfl rfl rfl (by decide +kernel) (fun w_ hS => (R1.move rfl)) hS1 rfl <| D.takeOn 27 rfl rfl rfl rfl (by decide +kernel) (fun w_ hS => (R1.loadBox rfl (Blk.gr hb6_s hS) tyG29)) hS1 rfl <| D.takeOn 28 rfl rfl rfl rfl (by decide +kernel) (fun w_ hS => (R1.move rfl)) hS1 rfl <| D.takeOn 30 rfl rfl rfl rfl (by decide +kernel) (fun w_ hS => (R1.move rfl)) hS1 rfl <| D.takeOn 31 rfl rfl rfl rfl (by decide +kernel) (fun w_ hS => (R1.loadBox rfl (Blk.gr hb6_s hS) tyG29)) hS1 rfl <| D.takeOn 32 rfl rfl rfl rfl (by decide +kernel) (fun w_ hS => (R1.move rfl)) hS1 rfl <| D.one 29 rfl (by decide +kernel) (fun hX => ?_)
     refine L.callOn rfl rfl rfl rfl (c_Implies hL hbd oks ht h k (hsc.mono (by decide)) (hv150 hsc)) rfl ?_
     rintro _ w19 ⟨rs73, ok73, hP73, rfl, hm19⟩
     replace hL := hL.gr hm19
     replace hv := hv.gr hm19
     replace hbd := hbd.gr hm19
     replace ht := ht.gr hm19
     replace h := h.gr hm19
     replace k := k.gr hm19
     replace hm0 := hm0.trans hm19
     replace hb6 := Blk.gr hb6 hm19
     replace hb19 := Blk.gr hb19 hm19
     replace hL19 := hL19.gr hm19
     replace hn34 := hn34.gr hm19
     replace hd34 := hd34.gr hm19
     replace hb11 := Blk.gr hb11 hm19
     replace hn41 := hn41.gr hm19
     replace hd41 := hd41.gr hm19
     replace hb13 := Blk.gr hb13 hm19
     replace hS1 := hS1.trans hm19
     clear hm19
     refine L.nil (hX _ _ ⟨.inr hS1, ?_⟩)
     refine D.one 33 rfl (by decide +kernel) (fun hX => ?_)
     refine L.callOn rfl rfl rfl rfl (c_Implies10 hL hbd oks ht h k (hsc.mono (by decide)) (hv150 hsc)) rfl ?_
     rintro _ w20 ⟨rs77, ok77, hP77, rfl, hm20⟩
     replace hL := hL.gr hm20
     replace hv := hv.gr hm20
     replace hbd := hbd.gr hm20
     replace ht := ht.gr hm20
     replace h := h.gr hm20
     replace k := k.gr hm20
     replace hm0 := hm0.trans hm20
     replace hb6 := Blk.gr hb6 hm20
     replace hb19 := Blk.gr hb19 hm20
     replace hL19 := hL19.gr hm20
     replace hn34 := hn34.gr hm20
     replace hd34 := hd34.gr hm20
     replace hb11 := Blk.gr hb11 hm20
     replace hn41 := hn41.gr hm20
     replace hd41 := hd41.gr hm20
     replace hb13 := Blk.gr hb13 hm20
     replace hS1 := hS1.trans hm20
     clear hm20
     refine L.nil (hX _ _ ⟨.inr hS1, ?_⟩)
     refine D.takeOn 34 rfl rfl rfl rfl (by decide +kernel) (fun w_ hS => ((R1.eqB rfl rfl tyB4).asB (c := true) (by rw [PA_imp hP73 hP77 (Eqv.refl _)]; simp))) hS1 rfl <| D.take 35 rfl (by decide +kernel) (fun w_ hS => (R1.pickT rfl rfl)) hS1 rfl <| D.take 36 rfl (by decide +kernel) (fun w_ hS => (R1.move rfl)) hS1 rfl <| D.takeOn 37 rfl rfl rfl rfl (by decide +kernel) (fun w_ hS => (R1.loadBox rfl (Blk.gr hb11_s hS) tyG27)) hS1 rfl <| D.takeOn 38 rfl rfl rfl rfl (by decide +kernel) (fun w_ hS => (R1.loadBox rfl (Blk.gr hb13_s hS) tyG27)) hS1 rfl <| D.one 39 rfl (by decide +kernel) (fun hX => ?_)
     refine L.callOn rfl rfl rfl rfl ((c_ref2_Same (qa := ((fixT z0 v rs34 ok34).getD 0)) (qb := ((fixDD z0 v rs41 ok41).getD 0)) hq34 hq41 hn34 hd34 hn41 hd41 hbd (Nat.le_trans hla34 (by decide)) (Nat.le_trans hlb34 (by decide)) (Nat.le_trans hla41 (by decide)) (Nat.le_trans hlb41 (by decide))).mono (R' := fun r w' => r = .bool true ∧ Mod [] w20 w') (fun r w' h9 => ⟨h9.1.trans (congrArg Value.bool (decide_eq_true (by rw [PA_fix hP34 hP41 (Eqv.refl _)]))), h9.2⟩)) rfl ?_
     rintro _ w21 ⟨rfl, hm21⟩
     replace hL := hL.gr hm21
     replace hv := hv.gr hm21
     replace hbd := hbd.gr hm21
     replace ht := ht.gr hm21
     replace h := h.gr hm21
     replace k := k.gr hm21
     replace hm0 := hm0.trans hm21
     replace hb6 := Blk.gr hb6 hm21
     replace hb19 := Blk.gr hb19 hm21
     replace hL19 := hL19.gr hm21
     replace hn34 := hn34.gr hm21
     replace hd34 := hd34.gr hm21
     replace hb11 := Blk.gr hb11 hm21
     replace hn41 := hn41.gr hm21
     replace hd41 := hd41.gr hm21
     replace hb13 := Blk.gr hb13 hm21
     replace hS1 := hS1.trans hm21
     clear hm21
     refine L.nil (hX _ _ ⟨.inr hS1, ?_⟩)
     refine D.take 40 rfl (by decide +kernel) (fun w_ hS => (R1.pickT rfl rfl)) hS1 rfl <| D.take 41 rfl (by decide +kernel) (fun w_ hS => (R1.move rfl)) hS1 rfl <| D.takeOn 42 rfl rfl rfl rfl (by decide +kernel) (fun w_ hS => (R1.move rfl)) hS1 rfl <| D.takeOn 43 rfl rfl rfl rfl (by decide +kernel) (fun w_ hS => (R1.move rfl)) hS1 rfl <| D.takeOn 44 rfl rfl rfl rfl (by decide +kernel) (fun w_ hS => ((R1.eqB rfl rfl tyB4).asB (c := true) (by rw [PA_fix hP34 hP41 (Eqv.refl _)]; simp))) hS1 rfl <| D.take 45 rfl (by decide +kernel) (fun w_ hS => (R1.pickT rfl rfl)) hS1 rfl <| D.take 46 rfl (by decide +kernel) (fun w_ hS => (R1.move rfl)) hS1 rfl <| D.one 47 rfl (by decide +kernel) (fun hX => ?_)
     refine L.callOn rfl rfl rfl rfl (c_known10) rfl ?_
     rintro _ w22 ⟨rfl, hm22⟩
     replace hL := hL.gr hm22
     replace hv := hv.gr hm22
     replace hbd := hbd.gr hm22
     replace ht := ht.gr hm22
     replace h := h.gr hm22
     replace k := k.gr hm22
     replace hm0 := hm0.trans hm22
     replace hb6 := Blk.gr hb6 hm22
     replace hb19 := Blk.gr hb19 hm22
     replace hL19 := hL19.gr hm22
     replace hn34 := hn34.gr hm22
     replace hd34 := hd34.gr hm22
     replace hb11 := Blk.gr hb11 hm22
     replace hn41 := hn41.gr hm22
     replace hd41 := hd41.gr hm22
     replace hb13 := Blk.gr hb13 hm22
     replace hS1 := hS1.trans hm22
     clear hm22
     refine L.nil (hX _ _ ⟨.inr hS1, ?_⟩)
     refine D.take 48 rfl (by decide +kernel) (fun w_ hS => (R1.pickT rfl rfl)) hS1 rfl <| D.take 49 rfl (by decide +kernel) (fun w_ hS => (R1.assign rfl)) hS1 rfl <| D.done (by decide +kernel) ?_ _
     refine X.seq <| W.ret <| X.result1 rfl (.tmp rfl .nil) ?_
     exact ⟨rfl, hm0⟩
   ·
    have hcc_ := hgd26
    refine L.off rfl rfl rfl rfl rfl <| L.off rfl rfl rfl rfl rfl <| L.v (R1.pickT rfl rfl) rfl <| L.nil <| X.seq <| W.condT rfl <| W.seq <| W.region <| L.v (R1.assign rfl) rfl <| L.nil <| X.seq ?_
    refine W.ret <| X.thenRet <| X.result1 rfl (.tmp rfl .nil) ?_
    exact ⟨rfl, hm0⟩
  ·
   have hcc_ := hgd22
   refine L.off rfl rfl rfl rfl rfl <| L.off rfl rfl rfl rfl rfl <| L.v (R1.pickT rfl rfl) rfl <| L.v (R1.move rfl) rfl <| L.off rfl rfl rfl rfl rfl <| L.off rfl rfl rfl rfl rfl <| L.v (R1.pickT rfl rfl) rfl <| L.nil <| X.seq <| W.condT rfl <| W.seq ?_
   refine W.region <| L.v (R1.assign rfl) rfl <| L.nil <| X.seq <| W.ret <| X.thenRet <| X.result1 rfl (.tmp rfl .nil) ?_
   exact ⟨rfl, hm0⟩
 ·
  have hcc_ := hgd17
  refine L.off rfl rfl rfl rfl rfl <| L.off rfl rfl rfl rfl rfl <| L.off rfl rfl rfl rfl rfl <| L.v (R1.pickT rfl rfl) rfl <| L.v (R1.move rfl) rfl <| L.off rfl rfl rfl rfl rfl <| L.off rfl rfl rfl rfl rfl <| L.v (R1.pickT rfl rfl) rfl <| L.v (R1.move rfl) rfl <| L.off rfl rfl rfl rfl rfl <| L.off rfl rfl rfl rfl rfl ?_
  refine L.v (R1.pickT rfl rfl) rfl <| L.nil <| X.seq <| W.condT rfl <| W.seq <| W.region <| L.v (R1.assign rfl) rfl <| L.nil <| X.seq <| W.ret <| X.thenRet ?_
  refine X.result1 rfl (.tmp rfl .nil) ?_
  exact ⟨rfl, hm0⟩

end Go.Proofs.Ytkjllbpfcokalaa
