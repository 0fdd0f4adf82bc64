/- Walks: what the functions compute. -/
import Derived.Test.YtkjllbpfcokalaaLkA
import Derived.Test.YtkjllbpfcokalaaLpT
namespace Go.Proofs.Ytkjllbpfcokalaa
open Go.RowKit
set_option linter.unusedVariables false
set_option linter.unusedSimpArgs false
set_option maxRecDepth 10000
set_option maxHeartbeats 1000000 in
theorem c_GaussTurns {w : World} {vl : Value} {cs : List CR} {v z0 : Int} (hL : Lay rdC [] w vl cs) (hb : szCs cs ≤ 4194304) :
    Ret Try.prog 3 #[vl, .int .i64 v, .int .i64 z0] w (fun r w' => r = .bool true ∧ Mod [] w w') := by
 have hbd : Bd [] w := fun m hm => by cases hm
 obtain ⟨TL, tL, rfl⟩ := hL.form
 have hcl := cs_len cs
 refine Ret.of (vs := [.slice TL cs.length tL, .int .i64 v, .int .i64 z0]) (n := 79) Try.func3 rfl rfl rfl rfl ?_
 have hm0 : Mod [] w w := Mod.refl _ _
 refine W.seq <| W.region <| L.v (R1.assign rfl) rfl <| L.nil <| X.seq <| W.seq <| W.seq <| W.region <| L.v (R1.move rfl) rfl <| L.call rfl (c_heavy_pantographlaw10 hL (hb)) rfl ?_
 rintro _ w1 ⟨rfl, hm1⟩
 replace hL := hL.gr hm1
 replace hbd := hbd.gr hm1
 replace hm0 := hm0.trans hm1
 clear hm1
 refine L.v (R1.move rfl) rfl ?_
 cases hgd15 : (decide (150 < szCs cs))
 ·
  have hcc_ := hgd15
  refine L.on rfl rfl rfl (R1.move rfl) rfl <| L.on rfl rfl rfl ((R1.gt rfl rfl).asB (c := decide (10 < z0)) (rfl)) rfl <| L.v (R1.pickF rfl rfl) rfl <| L.nil <| X.seq <| W.cond rfl ?_ ?_
  ·
   intro hc18
   simp only [bq] at hc18
   refine W.seq <| W.region <| L.v (R1.assign rfl) rfl <| L.nil <| X.seq <| W.ret <| X.thenRet <| X.result1 rfl (.tmp rfl .nil) ?_
   exact ⟨rfl, hm0⟩
  ·
   intro hc18
   simp only [bq] at hc18
   have hsm := sm150 (by simpa using hgd15)
   have oks := oks12 (z0 := z0) hsm (by omega)
   have oks2 := oks12 (z0 := z0) (cs := (cs.reverse ++ cs)) (fun c hc => hsm c (by simpa using hc)) (by omega)
   refine W.skip <| X.seq <| W.seq <| W.region <| L.v (R1.assign rfl) rfl <| L.nil <| X.seq <| W.seq <| W.seq <| W.region <| L.v (R1.move rfl) rfl ?_
   refine L.v (R1.lenLay rfl hL tyS22) rfl <| L.v ((R1.sub rfl rfl).as (wrap_i64 (by omega) (by omega))) rfl <| L.v (R1.assign rfl) rfl <| L.nil <| X.seq <| W.block <| W.loop (ι := Nat × Value × List (List Value)) (fun (k, u, css) => [(0, .slice TL cs.length tL), (1, .int .i64 v), (2, .int .i64 z0), (7, u), (8, .int .i64 ((k : Int) - 1))]) (fun (k, u, css) w_ => k ≤ cs.length ∧ World.ownsRow w_ w.heap.size 29 5 u (cs.length - k) (css).flatten ∧ LayL rdC (ownL u ++ []) w_ css (cs.drop k).reverse ∧ Lay rdC (ownL u ++ []) w_ (.slice TL cs.length tL) cs ∧ Bd (ownL u ++ []) w_ ∧ Mod [] w w_) (fun (k, u, css) => k) (cs.length, .slice none 0 0, []) ?_ ?_ ?_
   · exact ⟨rfl, rfl, rfl, rfl, rfl, trivial⟩
   ·
    refine ⟨Nat.le_refl _, own_congr (own_nil _ _ _ _) (by simp) rfl, ?_, hL.sub (fun b h9 => by simp [ownL, Value.ownBlock] at h9), hbd.sub (fun b h9 => by simp [ownL, Value.ownBlock] at h9), hm0⟩
    rw [List.drop_length]; exact LayL.nil
   ·
    rintro ⟨k, u, css⟩ w2 ⟨hk, ho, hlU, hL, hbd, hm0⟩
    refine W.seq <| W.seq <| W.region <| L.v (R1.move rfl) rfl <| L.v (R1.ge rfl rfl) rfl <| L.nil <| X.seq <| W.cond rfl ?_ ?_
    ·
     intro hc23
     try simp only [bq, ne_eq] at hc23
     refine W.skip <| X.seq <| W.seq <| W.block <| W.region <| L.v (R1.move rfl) rfl <| L.v (R1.move rfl) rfl <| L.v (R1.move rfl) rfl <| L.v (R1.atLay (j := (k - 1)) rfl rfl hL tyS22 (by omega) (by omega)) rfl ?_
     obtain ⟨z30, cs30, hz30, hE30, vt30, ds30, rfl, ht30, vn30, vd30, rfl, hn30, hd30⟩ := Lay.elemQ hL (j := (k - 1)) (by omega)
     obtain ⟨T30, t30, rfl⟩ := ht30.form
     obtain ⟨A30, c30, rfl⟩ := hn30.form
     obtain ⟨B30, e30, rfl⟩ := hd30.form
     refine L.v (R1.loadE rfl hE30 tyG29) rfl <| L.buildSlice (cells := [.int .i64 z30.st, .slice T30 z30.ts.length t30, .bool z30.k.s, .slice A30 z30.k.n.length c30, .slice B30 z30.k.d.length e30]) rfl tyS22 tyZ29 (fillK1 _ _ _ _ _ _ _ _ _ _ _) (by decide) (by decide) rfl ?_
     intro g31 w3 hN31
     replace hL := hL.gr hN31.mod
     replace hlU := hlU.gr hN31.mod
     replace hbd := hbd.gr hN31.mod
     replace hm0 := hm0.trans hN31.mod
     replace ho := own_gr ho hN31.mod (by simp)
     replace ht30 := ht30.gr hN31.mod
     replace hn30 := hn30.gr hN31.mod
     replace hd30 := hd30.gr hN31.mod
     have hrow : Sl [] w3 5 (.slice (some ⟨g31, 0, none⟩) 1 1) 1 [.int .i64 z30.st, .slice T30 z30.ts.length t30, .bool z30.k.s, .slice A30 z30.k.n.length c30, .slice B30 z30.k.d.length e30] := Sl.of_blk hN31.blk 0 (Nat.le_refl _) (by decide) rfl (by simp) (fun j hj => by simp)
     clear hN31
     refine L.append rfl rfl ho hrow (by intro c hc; simp only [List.mem_cons, List.not_mem_nil, or_false] at hc; rcases hc with rfl | rfl | rfl | rfl | rfl <;> rfl) tyS22 tyZ29 (by omega) (by unfold maxLen; omega) hm0.size rfl ?_
     intro v32 w4 ho32' hG32
     replace hL := hL.grew2 hG32 (by first | exact mem_own | (intro b hb; simp [hb]))
     replace hlU := hlU.grew2 hG32 (by first | exact mem_own | (intro b hb; simp [hb]))
     replace hbd := hbd.grew2 hG32 (by first | exact mem_own | (intro b hb; simp [hb]))
     replace hm0 := Mod.oldOwn hm0 hG32.mod ho
     replace ht30 := ht30.grew2 hG32 (by first | exact mem_own | (intro b hb; simp [hb]))
     replace hn30 := hn30.grew2 hG32 (by first | exact mem_own | (intro b hb; simp [hb]))
     replace hd30 := hd30.grew2 hG32 (by first | exact mem_own | (intro b hb; simp [hb]))
     replace ho := ho32'; clear ho32'
     clear hG32
     refine L.v (R1.assign rfl) rfl <| L.nil <| X.blockEnd <| X.seq <| W.region <| L.v (R1.move rfl) rfl <| L.v ((R1.sub rfl rfl).as (j := (((k - 1 : Nat) : Int) - 1)) (by rw [wrap_i64 (by omega) (by omega)]; omega)) rfl <| L.v (R1.assign rfl) rfl <| L.nil <| X.next (k - 1, v32, css ++ [[.int .i64 z30.st, .slice T30 z30.ts.length t30, .bool z30.k.s, .slice A30 z30.k.n.length c30, .slice B30 z30.k.d.length e30]]) ?_ ?_ ?_
     · exact ⟨rfl, rfl, rfl, rfl, rfl, trivial⟩
     ·
      have hdr := drop_get hz30
      rw [show k - 1 + 1 = k by omega] at hdr
      refine ⟨by omega, own_congr ho (by omega) (by simp), ?_, hL.sub (by intro b hb; first | exact hb | (simp at hb; simp [hb]) | (simp only [List.mem_append, List.mem_cons, List.not_mem_nil, or_false] at hb ⊢; rcases hb with hb | hb <;> simp [hb])), hbd.sub (by intro b hb; first | exact hb | (simp at hb; simp [hb]) | (simp only [List.mem_append, List.mem_cons, List.not_mem_nil, or_false] at hb ⊢; rcases hb with hb | hb <;> simp [hb])), hm0⟩
      rw [hdr, List.reverse_cons]
      exact (hlU.sub (by intro b hb; first | exact hb | (simp at hb; simp [hb]) | (simp only [List.mem_append, List.mem_cons, List.not_mem_nil, or_false] at hb ⊢; rcases hb with hb | hb <;> simp [hb]))).append (LayL.one _ z30 (rdC_mk (ht30.sub (by intro b hb; first | exact hb | (simp at hb; simp [hb]) | (simp only [List.mem_append, List.mem_cons, List.not_mem_nil, or_false] at hb ⊢; rcases hb with hb | hb <;> simp [hb]))) (hn30.sub (by intro b hb; first | exact hb | (simp at hb; simp [hb]) | (simp only [List.mem_append, List.mem_cons, List.not_mem_nil, or_false] at hb ⊢; rcases hb with hb | hb <;> simp [hb]))) (hd30.sub (by intro b hb; first | exact hb | (simp at hb; simp [hb]) | (simp only [List.mem_append, List.mem_cons, List.not_mem_nil, or_false] at hb ⊢; rcases hb with hb | hb <;> simp [hb])))))
     · first | omega | (dsimp only; omega)
    ·
     intro hc23
     try simp only [bq, ne_eq] at hc23
     obtain rfl : k = 0 := by omega
     refine W.exit <| X.thenExit <| X.nextExit <| X.here <| X.seq <| W.seq <| W.region <| L.v (R1.move rfl) rfl <| L.v (R1.move rfl) rfl ?_
     have hL_ := hL
     obtain ⟨dss, hs2, hl2⟩ := hL_
     refine L.append rfl rfl ho hs2 (hl2.ones) tyS22 tyZ29 (by omega) (by unfold maxLen; omega) hm0.size rfl ?_
     intro v35 w5 ho35' hG35
     replace hL := hL.grew2 hG35 (by first | exact mem_own | (intro b hb; simp [hb]))
     replace hlU := hlU.grew2 hG35 (by first | exact mem_own | (intro b hb; simp [hb]))
     replace hbd := hbd.grew2 hG35 (by first | exact mem_own | (intro b hb; simp [hb]))
     replace hm0 := Mod.oldOwn hm0 hG35.mod ho
     replace hl2 := hl2.grew2 hG35 (by first | exact mem_own | (intro b hb; simp [hb]))
     replace ho := ho35'; clear ho35'
     clear hG35
     refine L.v (R1.assign rfl) rfl ?_
     have hB : Lay rdC [] w5 v35 (cs.reverse ++ cs) := Lay.of_own (css := css ++ dss) (own_congr ho (by simp) (by simp)) ((LayL.sub (by simpa using hlU) (fun m h9 => by cases h9)).append (hl2.sub (fun m h9 => by cases h9))) (by simp)
     replace hL := hL.sub (M' := []) (fun m h9 => by cases h9)
     replace hbd := hbd.sub (M' := []) (fun m h9 => by cases h9)
     refine L.nil <| X.seq <| W.seq <| W.region <| L.v (R1.move rfl) rfl <| L.v (R1.move rfl) rfl <| L.v (R1.move rfl) rfl <| L.call rfl (c_Fixed hL hbd oks) rfl ?_
     rintro _ w6 ⟨rs40, ok40, _, hP40, rfl, ⟨s40, A40, c40, B40, e40, xs40, ys40, rfl, hn40, hd40, hq40, hla40, hlb40⟩, hm6⟩
     replace hL := hL.gr hm6
     replace hbd := hbd.gr hm6
     replace hm0 := hm0.trans hm6
     replace hB := hB.gr hm6
     clear hm6
     refine L.v (R1.move rfl) rfl <| L.v (R1.extract rfl rfl) rfl <| L.v (R1.extract rfl rfl) rfl <| L.alloc tyZ27 rfl ?_
     intro g9 w7 hN9
     replace hL := hL.new hN9
     replace hbd := hbd.new hN9
     have hge_g9 := New.ge hN9 hm0.size
     replace hm0 := hm0.trans (hN9.mod.mono (by simp))
     replace hB := hB.new hN9
     replace hn40 := hn40.new hN9
     replace hd40 := hd40.new hN9
     have hb9 := hN9.blk
     clear hN9
     refine L.storeBox rfl rfl hb9 rfl rfl tyG27 ?_
     intro w8 hb9' hm8
     replace hL := hL.mod hm8 (by simp)
     replace hbd := hbd.gr hm8
     replace hm0 := hm0.old1 hm8 hge_g9
     replace hB := hB.mod hm8 (by simp)
     replace hn40 := hn40.mod hm8 (by simp)
     replace hd40 := hd40.mod hm8 (by simp)
     clear hm8
     replace hb9 := hb9'; clear hb9'
     refine L.v (R1.assign rfl) rfl <| L.nil <| X.seq <| W.seq <| W.region <| L.v (R1.move rfl) rfl <| L.v (R1.move rfl) rfl <| L.v (R1.move rfl) rfl <| L.call rfl (c_Fixed hB hbd oks2) rfl ?_
     rintro _ w9 ⟨rs47, ok47, _, hP47, rfl, ⟨s47, A47, c47, B47, e47, xs47, ys47, rfl, hn47, hd47, hq47, hla47, hlb47⟩, hm9⟩
     replace hL := hL.gr hm9
     replace hbd := hbd.gr hm9
     replace hm0 := hm0.trans hm9
     replace hB := hB.gr hm9
     replace hn40 := hn40.gr hm9
     replace hd40 := hd40.gr hm9
     replace hb9 := Blk.gr hb9 hm9
     clear hm9
     refine L.v (R1.move rfl) rfl <| L.v (R1.extract rfl rfl) rfl <| L.v (R1.extract rfl rfl) rfl <| L.alloc tyZ27 rfl ?_
     intro g11 w10 hN11
     replace hL := hL.new hN11
     replace hbd := hbd.new hN11
     have hge_g11 := New.ge hN11 hm0.size
     replace hm0 := hm0.trans (hN11.mod.mono (by simp))
     replace hB := hB.new hN11
     replace hn40 := hn40.new hN11
     replace hd40 := hd40.new hN11
     have hne_g9_g11 := hb9.ne_ hN11
     replace hb9 := Blk.gr hb9 hN11.mod
     replace hn47 := hn47.new hN11
     replace hd47 := hd47.new hN11
     have hb11 := hN11.blk
     clear hN11
     refine L.storeBox rfl rfl hb11 rfl rfl tyG27 ?_
     intro w11 hb11' hm11
     replace hL := hL.mod hm11 (by simp)
     replace hbd := hbd.gr hm11
     replace hm0 := hm0.old1 hm11 hge_g11
     replace hB := hB.mod hm11 (by simp)
     replace hn40 := hn40.mod hm11 (by simp)
     replace hd40 := hd40.mod hm11 (by simp)
     replace hb9 := Blk.far hb9 hm11 (by first | exact hne_g9_g11 | exact (hne_g11_g9).symm)
     replace hn47 := hn47.mod hm11 (by simp)
     replace hd47 := hd47.mod hm11 (by simp)
     clear hm11
     replace hb11 := hb11'; clear hb11'
     refine L.v (R1.assign rfl) rfl <| L.nil <| X.seq <| W.seq <| W.region <| L.v (R1.move rfl) rfl <| L.v (R1.move rfl) rfl <| L.call rfl (c_Consistent hL hbd oks) rfl ?_
     rintro _ w12 ⟨rs52, ok52, hP52, rfl, hm12⟩
     replace hL := hL.gr hm12
     replace hbd := hbd.gr hm12
     replace hm0 := hm0.trans hm12
     replace hB := hB.gr hm12
     replace hn40 := hn40.gr hm12
     replace hd40 := hd40.gr hm12
     replace hb9 := Blk.gr hb9 hm12
     replace hn47 := hn47.gr hm12
     replace hd47 := hd47.gr hm12
     replace hb11 := Blk.gr hb11 hm12
     clear hm12
     refine L.v (R1.move rfl) rfl <| L.v (R1.move rfl) rfl <| L.call rfl (c_Consistent hB hbd oks2) rfl ?_
     rintro _ w13 ⟨rs55, ok55, hP55, rfl, hm13⟩
     replace hL := hL.gr hm13
     replace hbd := hbd.gr hm13
     replace hm0 := hm0.trans hm13
     replace hB := hB.gr hm13
     replace hn40 := hn40.gr hm13
     replace hd40 := hd40.gr hm13
     replace hb9 := Blk.gr hb9 hm13
     replace hn47 := hn47.gr hm13
     replace hd47 := hd47.gr hm13
     replace hb11 := Blk.gr hb11 hm13
     clear hm13
     refine L.v ((R1.eqB rfl rfl tyB4).asB (c := true) (by rw [PP_ok hP52 hP55 (eqv_mem (n := heldG z0) (a := cs) (b := (cs.reverse ++ cs)) (by simp) (by simp))]; simp)) rfl <| L.v (R1.move rfl) rfl <| L.on rfl rfl rfl (R1.move rfl) rfl <| L.on rfl rfl rfl (R1.move rfl) rfl <| L.callOn rfl rfl rfl rfl (c_Rank hL hbd oks) rfl ?_
     rintro _ w14 ⟨rs60, ok60, ⟨hP60, hrk60⟩, rfl, hm14⟩
     replace hL := hL.gr hm14
     replace hbd := hbd.gr hm14
     replace hm0 := hm0.trans hm14
     replace hB := hB.gr hm14
     replace hn40 := hn40.gr hm14
     replace hd40 := hd40.gr hm14
     replace hb9 := Blk.gr hb9 hm14
     replace hn47 := hn47.gr hm14
     replace hd47 := hd47.gr hm14
     replace hb11 := Blk.gr hb11 hm14
     clear hm14
     refine L.on rfl rfl rfl (R1.move rfl) rfl <| L.on rfl rfl rfl (R1.move rfl) rfl <| L.callOn rfl rfl rfl rfl (c_Rank hB hbd oks2) rfl ?_
     rintro _ w15 ⟨rs63, ok63, ⟨hP63, hrk63⟩, rfl, hm15⟩
     replace hL := hL.gr hm15
     replace hbd := hbd.gr hm15
     replace hm0 := hm0.trans hm15
     replace hB := hB.gr hm15
     replace hn40 := hn40.gr hm15
     replace hd40 := hd40.gr hm15
     replace hb9 := Blk.gr hb9 hm15
     replace hn47 := hn47.gr hm15
     replace hd47 := hd47.gr hm15
     replace hb11 := Blk.gr hb11 hm15
     clear hm15
     refine L.on rfl rfl rfl ((R1.eq rfl rfl).asB (c := true) (decide_eq_true (by rw [PP_rank hP60 hP63 (eqv_mem (n := heldG z0) (a := cs) (b := (cs.reverse ++ cs)) (by simp) (by simp))]))) rfl <| L.v (R1.pickT rfl rfl) rfl <| L.v (R1.move rfl) rfl <| L.on rfl rfl rfl (R1.loadBox rfl hb9 tyG27) rfl <| L.on rfl rfl rfl (R1.loadBox rfl hb11 tyG27) rfl <| L.callOn rfl rfl rfl rfl ((c_ref2_Same (qa := ((fixT z0 v rs40 ok40).getD 0)) (qb := ((fixT z0 v rs47 ok47).getD 0)) hq40 hq47 hn40 hd40 hn47 hd47 hbd (Nat.le_trans hla40 (by decide)) (Nat.le_trans hlb40 (by decide)) (Nat.le_trans hla47 (by decide)) (Nat.le_trans hlb47 (by decide))).mono (R' := fun r w' => r = .bool true ∧ Mod [] w15 w') (fun r w' h9 => ⟨h9.1.trans (congrArg Value.bool (decide_eq_true (by rw [PP_fix hP40 hP47 (eqv_mem (n := heldG z0) (a := cs) (b := (cs.reverse ++ cs)) (by simp) (by simp))]))), h9.2⟩)) rfl ?_
     rintro _ w16 ⟨rfl, hm16⟩
     replace hL := hL.gr hm16
     replace hbd := hbd.gr hm16
     replace hm0 := hm0.trans hm16
     replace hB := hB.gr hm16
     replace hn40 := hn40.gr hm16
     replace hd40 := hd40.gr hm16
     replace hb9 := Blk.gr hb9 hm16
     replace hn47 := hn47.gr hm16
     replace hd47 := hd47.gr hm16
     replace hb11 := Blk.gr hb11 hm16
     clear hm16
     refine L.v (R1.pickT rfl rfl) rfl <| L.v (R1.move rfl) rfl <| L.on rfl rfl rfl (R1.move rfl) rfl <| L.on rfl rfl rfl (R1.move rfl) rfl <| L.on rfl rfl rfl ((R1.eqB rfl rfl tyB4).asB (c := true) (by rw [PP_fix hP40 hP47 (eqv_mem (n := heldG z0) (a := cs) (b := (cs.reverse ++ cs)) (by simp) (by simp))]; simp)) rfl <| L.v (R1.pickT rfl rfl) rfl <| L.v (R1.move rfl) rfl <| L.callOn rfl rfl rfl rfl (c_known10) rfl ?_
     rintro _ w17 ⟨rfl, hm17⟩
     replace hL := hL.gr hm17
     replace hbd := hbd.gr hm17
     replace hm0 := hm0.trans hm17
     replace hB := hB.gr hm17
     replace hn40 := hn40.gr hm17
     replace hd40 := hd40.gr hm17
     replace hb9 := Blk.gr hb9 hm17
     replace hn47 := hn47.gr hm17
     replace hd47 := hd47.gr hm17
     replace hb11 := Blk.gr hb11 hm17
     clear hm17
     refine L.v (R1.pickT rfl rfl) rfl <| L.v (R1.assign rfl) rfl <| L.nil <| X.seq <| W.ret <| X.result1 rfl (.tmp rfl .nil) ?_
     exact ⟨rfl, hm0⟩
 ·
  have hcc_ := hgd15
  refine L.off rfl rfl rfl rfl rfl <| L.off rfl rfl rfl rfl rfl <| L.v (R1.pickT rfl rfl) rfl <| L.nil <| X.seq <| W.condT rfl <| W.seq <| W.region <| L.v (R1.assign rfl) rfl <| L.nil <| X.seq ?_
  refine W.ret <| X.thenRet <| X.result1 rfl (.tmp rfl .nil) ?_
  exact ⟨rfl, hm0⟩

end Go.Proofs.Ytkjllbpfcokalaa
