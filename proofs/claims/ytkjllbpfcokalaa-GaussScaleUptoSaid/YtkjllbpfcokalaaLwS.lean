/- Walks: what the functions compute. -/
import Derived.Test.YtkjllbpfcokalaaLpS
import Derived.Test.YtkjllbpfcokalaaGPA
namespace Go.Proofs.Ytkjllbpfcokalaa
open Go.RowKit
set_option linter.unusedVariables false
set_option linter.unusedSimpArgs false
set_option maxRecDepth 10000
set_option maxHeartbeats 2000000 in
theorem c_GaussScale {w : World} {vl : Value} {cs : List CR} {sr : Bool} {Ar Br : Option Addr} {cr dr : Nat} {xr yr : List Nat} {qr : Rat} {v z0 : Int} (hL : Lay rdC [] w vl cs) (hqr : rv sr (val xr) (val yr) = qr) (hr : U32 [] w (.slice Ar xr.length cr) xr) (kr : U32 [] w (.slice Br yr.length dr) yr) (hb : szCs cs ≤ 4194304) (hbr : xr.length + yr.length ≤ 4194303) :
    Ret Try.prog 4 #[vl, .agg #[.bool sr, .slice Ar xr.length cr, .slice Br yr.length dr], .int .i64 v, .int .i64 z0] w (fun r w' => r = .bool true ∧ Mod [] w w') := by
 have hbd : Bd [] w := fun m hm => by cases hm
 obtain ⟨TL, tL, rfl⟩ := hL.form
 have hcl := cs_len cs
 refine Ret.of (vs := [.slice TL cs.length tL, .agg #[.bool sr, .slice Ar xr.length cr, .slice Br yr.length dr], .int .i64 v, .int .i64 z0]) (n := 98) Try.func4 rfl rfl rfl rfl ?_
 have hm0 : Mod [] w w := Mod.refl _ _
 refine W.seq <| W.region <| L.box rfl rfl ?_
 intro g5 w1 hN5
 replace hL := hL.new hN5
 replace hr := hr.new hN5
 replace kr := kr.new hN5
 replace hbd := hbd.new hN5
 have hge_g5 := New.ge hN5 hm0.size
 replace hm0 := hm0.trans (hN5.mod.mono (by simp))
 have hb5 := hN5.blk
 clear hN5
 refine L.v (R1.assign rfl) rfl <| L.nil <| X.seq <| W.seq <| W.seq <| W.region <| L.v (R1.move rfl) rfl <| L.call rfl (c_heavy_pantographlaw10 hL (hb)) rfl ?_
 rintro _ w2 ⟨rfl, hm2⟩
 replace hL := hL.gr hm2
 replace hr := hr.gr hm2
 replace kr := kr.gr hm2
 replace hbd := hbd.gr hm2
 replace hm0 := hm0.trans hm2
 replace hb5 := Blk.gr hb5 hm2
 clear hm2
 refine L.v (R1.move rfl) rfl ?_
 cases hgd17 : (decide (150 < szCs cs))
 ·
  have hcc_ := hgd17
  refine L.on rfl rfl rfl (R1.loadBox rfl hb5 tyG27) rfl <| L.guardOn rfl rfl rfl <| L.buildSlice (cells := [.bool sr, .slice Ar xr.length cr, .slice Br yr.length dr]) rfl tyS38 tyZ27 (fillQ1s _ _ _ _ _ _ _) (by decide) (by decide) rfl ?_
  intro g19 w3 hN19
  replace hL := hL.new hN19
  replace hr := hr.new hN19
  replace kr := kr.new hN19
  replace hbd := hbd.new hN19
  have hge_g19 := New.ge hN19 hm0.size
  replace hm0 := hm0.trans (hN19.mod.mono (by simp))
  have hne_g5_g19 := hb5.ne_ hN19
  replace hb5 := Blk.gr hb5 hN19.mod
  have hb19 := hN19.blk
  clear hN19
  have hQ19 : Lay rdQ [] w3 (.slice (some ⟨g19, 0, none⟩) 1 1) [(⟨sr, xr, yr⟩ : QR)] := Lay.of_blk (css := [[.bool sr, .slice Ar xr.length cr, .slice Br yr.length dr]]) hb19 (LayL.one _ (⟨sr, xr, yr⟩ : QR) ⟨_, _, rfl, hr.sub (M' := []) (fun b hb => by cases hb), kr.sub (M' := []) (fun b hb => by cases hb)⟩) rfl rfl (by decide) (by simp)
  refine L.callOn rfl rfl rfl rfl (c_many_pantographlaw10 hQ19 (by simp [szQs, szQ]; omega)) rfl ?_
  rintro _ w4 ⟨b20, rfl, hb20, hm4⟩
  replace hL := hL.gr hm4
  replace hr := hr.gr hm4
  replace kr := kr.gr hm4
  replace hbd := hbd.gr hm4
  replace hm0 := hm0.trans hm4
  replace hb5 := Blk.gr hb5 hm4
  replace hb19 := Blk.gr hb19 hm4
  replace hQ19 := hQ19.gr hm4
  clear hm4
  refine L.v (R1.pickF rfl rfl) rfl <| L.v (R1.move rfl) rfl ?_
  cases hgd22 : b20
  ·
   have hcc_ := hgd22
   refine L.on rfl rfl rfl (R1.loadBox rfl hb5 tyG27) rfl <| L.callOn rfl rfl rfl rfl (c_ref2_Zero (q := qr) hqr hr kr hbd (by omega) (by omega)) rfl ?_
   rintro _ w5 ⟨rfl, hm5⟩
   replace hL := hL.gr hm5
   replace hr := hr.gr hm5
   replace kr := kr.gr hm5
   replace hbd := hbd.gr hm5
   replace hm0 := hm0.trans hm5
   replace hb5 := Blk.gr hb5 hm5
   replace hb19 := Blk.gr hb19 hm5
   replace hQ19 := hQ19.gr hm5
   clear hm5
   refine L.v (R1.pickF rfl rfl) rfl <| L.v (R1.move rfl) rfl ?_
   cases hgd26 : (decide (qr = 0))
   ·
    simp only [bq] at hgd26
    refine L.on rfl rfl rfl (R1.move rfl) rfl <| L.on rfl rfl rfl ((R1.lt rfl rfl).asB (c := decide (z0 < 1)) (rfl)) rfl <| L.v (R1.pickF rfl rfl) rfl <| L.v (R1.move rfl) rfl ?_
    cases hgd30 : decide (z0 < 1)
    ·
     simp only [bq] at hgd30
     refine L.on rfl rfl rfl (R1.move rfl) rfl <| L.on rfl rfl rfl ((R1.gt rfl rfl).asB (c := decide (8 < z0)) (rfl)) rfl <| L.v (R1.pickF rfl rfl) rfl <| L.nil <| X.seq <| W.cond rfl ?_ ?_
     ·
      intro hc33
      simp only [bq] at hc33
      refine W.seq <| W.region <| L.v (R1.assign rfl) rfl <| L.nil <| X.seq <| W.ret <| X.thenRet <| X.result1 rfl (.tmp rfl .nil) ?_
      exact ⟨rfl, hm0⟩
     ·
      intro hc33
      simp only [bq] at hc33
      have hsm := sm150 (by simpa using hgd17)
      obtain ⟨hq3, _⟩ := hb20 hgd22
      have hs3 : xr.length ≤ 3 ∧ yr.length ≤ 3 := hq3 _ (List.mem_singleton.2 rfl)
      have hfr : Fit qr 4 := Fit.rv hqr hr.2 kr.2 hs3.1 hs3.2
      have hq0 : ¬ qr = 0 := hgd26
      obtain ⟨N, rfl⟩ : ∃ N : Nat, z0 = (N : Int) := ⟨z0.toNat, by omega⟩
      have hN : heldG (N : Int) = N := heldG_eq (by omega)
      have oks := oks12 (z0 := (N : Int)) hsm (by omega)
      have oksM := oks_sc (z0 := (N : Int)) (n := N) hsm (by omega) hfr
      refine W.skip <| X.seq <| W.seq <| W.region <| L.v (R1.assign rfl) rfl <| L.nil <| X.seq <| W.seq <| W.seq <| W.region <| L.v (R1.assign rfl) rfl ?_
      refine L.nil <| X.seq <| W.block <| W.loop (ι := Nat × Value × List (List Value)) (fun (i, u, css) => [(0, .slice TL cs.length tL), (2, .int .i64 v), (3, .int .i64 (N : Int)), (5, .pointer (some ⟨g5, 0, none⟩)), (9, u), (10, .int .i64 (i : Int))]) (fun (i, u, css) w_ => Lay rdC (ownL u ++ [g5]) w_ (.slice TL cs.length tL) cs ∧ U32 (ownL u ++ [g5]) w_ (.slice Ar xr.length cr) xr ∧ U32 (ownL u ++ [g5]) w_ (.slice Br yr.length dr) yr ∧ Blk w_ g5 27 #[.bool sr, .slice Ar xr.length cr, .slice Br yr.length dr] ∧ u.ownBlock ≠ some g5 ∧ World.ownsRow w_ w.heap.size 29 5 u (scs qr N (cs.take i)).length (css).flatten ∧ LayL rdC (ownL u ++ [g5]) w_ css (scs qr N (cs.take i)) ∧ Bd (ownL u ++ [g5]) w_ ∧ Mod [] w w_ ∧ i ≤ cs.length) (fun (i, u, css) => cs.length - i) (0, .slice none 0 0, []) ?_ ?_ ?_
      · exact ⟨rfl, rfl, rfl, rfl, rfl, rfl, trivial⟩
      ·
       exact ⟨hL.sub (by intro b hb; first | exact hb | (simp only [mq] at hb ⊢; grind)), hr.sub (by intro b hb; first | exact hb | (simp only [mq] at hb ⊢; grind)), kr.sub (by intro b hb; first | exact hb | (simp only [mq] at hb ⊢; grind)), hb5, (fun h => by cases h), own_nil _ _ _ _, LayL.nil, hbd.sub (by intro b hb; first | exact hb | (simp only [mq] at hb ⊢; grind)), hm0, Nat.zero_le _⟩
      ·
       rintro ⟨i, u, css⟩ w6 ⟨hL, hr, kr, hb5, hno_ho_g5, ho, hl, hbd, hm0, hi⟩
       refine W.seq <| W.seq <| W.region <| L.v (R1.move rfl) rfl <| L.v (R1.move rfl) rfl <| L.v (R1.lenLay rfl hL tyS22) rfl <| L.v (R1.lt rfl rfl) rfl <| L.nil <| X.seq <| W.cond rfl ?_ ?_
       ·
        intro hc37
        try simp only [bq, ne_eq] at hc37
        refine W.skip <| X.seq <| W.seq <| W.block <| W.seq <| W.region <| L.v (R1.move rfl) rfl <| L.v (R1.move rfl) rfl <| L.v (R1.atLay (j := i) rfl rfl hL tyS22 rfl (by omega)) rfl ?_
        obtain ⟨z43, cs43, hz43, hE43, vt43, ds43, rfl, ht43, vn43, vd43, rfl, hn43, hd43⟩ := Lay.elemQ hL (j := i) (by omega)
        obtain ⟨T43, t43, rfl⟩ := ht43.form
        obtain ⟨A43, c43, rfl⟩ := hn43.form
        obtain ⟨B43, e43, rfl⟩ := hd43.form
        refine L.v (R1.loadE rfl hE43 tyG29) rfl <| L.v (R1.move rfl) rfl <| L.call rfl (c_ref8_Is ht43 hn43 hd43 (n := (N : Int)) (by omega) hbd ((hsm _ (List.mem_of_getElem? hz43)).mono (by decide))) rfl ?_
        rintro _ w7 ⟨rfl, hm7⟩
        replace hL := hL.gr hm7
        replace hr := hr.gr hm7
        replace kr := kr.gr hm7
        replace hb5 := Blk.gr hb5 hm7
        replace ho := own_gr ho hm7 (by simp)
        replace hl := hl.gr hm7
        replace hbd := hbd.gr hm7
        replace hm0 := hm0.trans hm7
        replace ht43 := ht43.gr hm7
        replace hn43 := hn43.gr hm7
        replace hd43 := hd43.gr hm7
        clear hm7
        refine L.nil <| X.seq <| W.cond rfl ?_ ?_
        ·
         intro hc45
         try simp only [bq, ne_eq] at hc45
         refine W.drawW (T := [8, 9]) rfl (by decide +kernel) (NoHang.block (NoHang.then (NoHang.next (NoHang.block (NoHang.then NoHang.post))))) (fun w8 hm8 => ?_)
         replace hL := hL.gr hm8
         replace hr := hr.gr hm8
         replace kr := kr.gr hm8
         replace hb5 := Blk.gr hb5 hm8
         replace ho := own_gr ho hm8 (by simp)
         replace hl := hl.gr hm8
         replace hbd := hbd.gr hm8
         replace hm0 := hm0.trans hm8
         replace ht43 := ht43.gr hm8
         replace hn43 := hn43.gr hm8
         replace hd43 := hd43.gr hm8
         have hS1 : Mod [] w8 w8 := Mod.refl _ _
         clear hm8
         have hb5_s := hb5
         refine D.take 0 rfl (by decide +kernel) (fun w_ hS => (R1.move rfl)) hS1 rfl <| D.take 1 rfl (by decide +kernel) (fun w_ hS => (R1.move rfl)) hS1 rfl <| D.take 2 rfl (by decide +kernel) (fun w_ hS => (R1.move rfl)) hS1 rfl <| D.take 3 rfl (by decide +kernel) (fun w_ hS => (R1.atLay (j := i) rfl rfl (Lay.gr hL hS) tyS22 rfl (by omega))) hS1 rfl ?_
         obtain ⟨z50, cs50, hz50, hE50, vt50, ds50, rfl, ht50, vn50, vd50, rfl, hn50, hd50⟩ := Lay.elemQ hL (j := i) (by omega)
         obtain ⟨T50, t50, rfl⟩ := ht50.form
         obtain ⟨A50, c50, rfl⟩ := hn50.form
         obtain ⟨B50, e50, rfl⟩ := hd50.form
         obtain rfl : z43 = z50 := by have h9 := hz50; rw [hz43] at h9; injection h9
         refine D.take 4 rfl (by decide +kernel) (fun w_ hS => (R1.loadE rfl (SlE.gr hE50 hS) tyG29)) hS1 rfl <| D.take 5 rfl (by decide +kernel) (fun w_ hS => (R1.loadBox rfl (Blk.gr hb5_s hS) tyG27)) hS1 rfl <| D.one 6 rfl (by decide +kernel) (fun hX => ?_)
         refine L.call rfl (c_ref8_Scale (RKs_of hc45 ht50 hn50 hd50) hr kr hqr hbd (fun t ht9 => ((fitC (hsm _ (List.mem_of_getElem? hz43)) hc45).1 t ht9).mono (by decide)) ((fitC (hsm _ (List.mem_of_getElem? hz43)) hc45).2.1.mono (by decide)) (hfr.mono (by decide)) (by omega) (by omega) (Nat.le_trans (fitC (hsm _ (List.mem_of_getElem? hz43)) hc45).2.2 (by decide))) rfl ?_
         rintro _ w9 ⟨⟨T52, t52, A52, c52, B52, e52, rfl, ht52, hn52, hd52⟩, hm9⟩
         replace hL := hL.gr hm9
         replace hr := hr.gr hm9
         replace kr := kr.gr hm9
         replace hb5 := Blk.gr hb5 hm9
         replace ho := own_gr ho hm9 (by simp)
         replace hl := hl.gr hm9
         replace hbd := hbd.gr hm9
         replace hm0 := hm0.trans hm9
         replace ht43 := ht43.gr hm9
         replace hn43 := hn43.gr hm9
         replace hd43 := hd43.gr hm9
         replace ht50 := ht50.gr hm9
         replace hn50 := hn50.gr hm9
         replace hd50 := hd50.gr hm9
         replace hS1 := hS1.trans hm9
         clear hm9
         refine L.nil (hX _ _ ⟨.inr hS1, ?_⟩)
         refine D.one 7 rfl (by decide +kernel) (fun hX => ?_)
         refine L.buildSlice (cells := [.int .i64 z43.st, .slice T52 (scaleT (conT z43).1 qr).length t52, .bool (decide (((conT z43).2 * qr).num < 0)), .slice A52 (toL ((conT z43).2 * qr).num.natAbs).length c52, .slice B52 (toL ((conT z43).2 * qr).den).length e52]) rfl tyS22 tyZ29 (fillK1 _ _ _ _ _ _ _ _ _ _ _) (by decide) (by decide) rfl ?_
         intro g53 w10 hN53
         replace hL := hL.gr hN53.mod
         replace hr := hr.gr hN53.mod
         replace kr := kr.gr hN53.mod
         replace hb5 := Blk.gr hb5 hN53.mod
         replace ho := own_gr ho hN53.mod (by simp)
         replace hl := hl.gr hN53.mod
         replace hbd := hbd.gr hN53.mod
         replace hm0 := hm0.trans hN53.mod
         replace ht43 := ht43.gr hN53.mod
         replace hn43 := hn43.gr hN53.mod
         replace hd43 := hd43.gr hN53.mod
         replace ht50 := ht50.gr hN53.mod
         replace hn50 := hn50.gr hN53.mod
         replace hd50 := hd50.gr hN53.mod
         replace ht52 := ht52.gr hN53.mod
         replace hn52 := hn52.gr hN53.mod
         replace hd52 := hd52.gr hN53.mod
         replace hS1 := hS1.trans hN53.mod
         have hrow : Sl [] w10 5 (.slice (some ⟨g53, 0, none⟩) 1 1) 1 [.int .i64 z43.st, .slice T52 (scaleT (conT z43).1 qr).length t52, .bool (decide (((conT z43).2 * qr).num < 0)), .slice A52 (toL ((conT z43).2 * qr).num.natAbs).length c52, .slice B52 (toL ((conT z43).2 * qr).den).length e52] := Sl.of_blk hN53.blk 0 (Nat.le_refl _) (by decide) rfl (by simp) (fun j hj => by simp)
         clear hN53
         refine L.nil (hX _ _ ⟨.inr hS1, ?_⟩)
         have hsl9 := scs_len qr N (cs.take i)
         rw [List.length_take] at hsl9
         refine D.one 8 rfl (by decide +kernel) (fun hX => ?_)
         refine L.append rfl rfl ho hrow (by intro c hc; simp only [List.mem_cons, List.not_mem_nil, or_false] at hc; rcases hc with rfl | rfl | rfl | rfl | rfl <;> rfl) tyS22 tyZ29 (by omega) (by unfold maxLen; omega) hm0.size rfl ?_
         intro v54 w11 ho54' hG54
         replace hL := hL.grew2 hG54 (by first | exact mem_own | (intro b hb; simp [hb]))
         replace hr := hr.grew2 hG54 (by first | exact mem_own | (intro b hb; simp [hb]))
         replace kr := kr.grew2 hG54 (by first | exact mem_own | (intro b hb; simp [hb]))
         have hnn_g5 := hG54.ne hno_ho_g5 hb5
         replace hb5 := Blk.grew hb5 hG54 hno_ho_g5
         replace hno_ho_g5 := hnn_g5
         replace hl := hl.grew2 hG54 (by first | exact mem_own | (intro b hb; simp [hb]))
         replace hbd := hbd.grew2 hG54 (by first | exact mem_own | (intro b hb; simp [hb]))
         replace hm0 := Mod.oldOwn hm0 hG54.mod ho
         replace ht43 := ht43.grew2 hG54 (by first | exact mem_own | (intro b hb; simp [hb]))
         replace hn43 := hn43.grew2 hG54 (by first | exact mem_own | (intro b hb; simp [hb]))
         replace hd43 := hd43.grew2 hG54 (by first | exact mem_own | (intro b hb; simp [hb]))
         replace ht50 := ht50.grew2 hG54 (by first | exact mem_own | (intro b hb; simp [hb]))
         replace hn50 := hn50.grew2 hG54 (by first | exact mem_own | (intro b hb; simp [hb]))
         replace hd50 := hd50.grew2 hG54 (by first | exact mem_own | (intro b hb; simp [hb]))
         replace ht52 := ht52.grew2 hG54 (by first | exact mem_own | (intro b hb; simp [hb]))
         replace hn52 := hn52.grew2 hG54 (by first | exact mem_own | (intro b hb; simp [hb]))
         replace hd52 := hd52.grew2 hG54 (by first | exact mem_own | (intro b hb; simp [hb]))
         replace ho := ho54'; clear ho54'
         clear hG54
         refine L.nil (hX _ _ ⟨.inl rfl, ?_⟩)
         refine D.one 9 rfl (by decide +kernel) (fun hX => ?_)
         refine L.v (R1.assign rfl) rfl (L.nil (hX _ _ ⟨.inl rfl, ?_⟩))
         refine D.done (by decide +kernel) ?_ _
         refine X.blockEnd <| X.seq <| W.region <| L.v (R1.move rfl) rfl <| L.v (R1.addI (b := 1) rfl rfl (by omega)) rfl <| L.v (R1.assign rfl) rfl <| L.nil <| X.next (i + 1, v54, css ++ [[.int .i64 z43.st, .slice T52 (scaleT (conT z43).1 qr).length t52, .bool (decide (((conT z43).2 * qr).num < 0)), .slice A52 (toL ((conT z43).2 * qr).num.natAbs).length c52, .slice B52 (toL ((conT z43).2 * qr).den).length e52]]) ?_ ?_ ?_
         · exact ⟨rfl, rfl, rfl, rfl, rfl, rfl, trivial⟩
         ·
          exact ⟨hL.sub (by intro b hb; first | exact hb | (simp only [mq] at hb ⊢; grind)), hr.sub (by intro b hb; first | exact hb | (simp only [mq] at hb ⊢; grind)), kr.sub (by intro b hb; first | exact hb | (simp only [mq] at hb ⊢; grind)), hb5, hno_ho_g5, own_congr ho (by rw [scs_yes hz43 hc45]; simp) (by simp), by rw [scs_yes hz43 hc45]; exact (hl.sub (by intro b hb; first | exact hb | (simp only [mq] at hb ⊢; grind))).append (LayL.one _ _ (rdC_sc (ht52.sub (by intro b hb; first | exact hb | (simp only [mq] at hb ⊢; grind))) (hn52.sub (by intro b hb; first | exact hb | (simp only [mq] at hb ⊢; grind))) (hd52.sub (by intro b hb; first | exact hb | (simp only [mq] at hb ⊢; grind))))), hbd.sub (by intro b hb; first | exact hb | (simp only [mq] at hb ⊢; grind)), hm0, by omega⟩
         · first | omega | (dsimp only; omega)
        ·
         intro hc45
         try simp only [bq, ne_eq] at hc45
         refine W.skip <| X.blockEnd <| X.seq <| W.region <| L.v (R1.move rfl) rfl <| L.v (R1.addI (b := 1) rfl rfl (by omega)) rfl <| L.v (R1.assign rfl) rfl <| L.nil <| X.next (i + 1, u, css) ?_ ?_ ?_
         · exact ⟨rfl, rfl, rfl, rfl, rfl, rfl, trivial⟩
         ·
          exact ⟨hL.sub (by intro b hb; first | exact hb | (simp only [mq] at hb ⊢; grind)), hr.sub (by intro b hb; first | exact hb | (simp only [mq] at hb ⊢; grind)), kr.sub (by intro b hb; first | exact hb | (simp only [mq] at hb ⊢; grind)), hb5, hno_ho_g5, own_congr ho (by rw [scs_no hz43 hc45]) rfl, by rw [scs_no hz43 hc45]; exact hl.sub (by intro b hb; first | exact hb | (simp only [mq] at hb ⊢; grind)), hbd.sub (by intro b hb; first | exact hb | (simp only [mq] at hb ⊢; grind)), hm0, by omega⟩
         · first | omega | (dsimp only; omega)
       ·
        intro hc37
        try simp only [bq, ne_eq] at hc37
        obtain rfl : i = cs.length := by omega
        rw [List.take_length] at ho hl
        have hM : Lay rdC [] w6 u (scs qr N cs) := Lay.of_own ho (hl.sub (fun b hb => by cases hb)) (by simp)
        replace hL := hL.sub (M' := []) (fun b hb => by cases hb)
        replace hbd := hbd.sub (M' := []) (fun b hb => by cases hb)
        refine W.exit <| X.thenExit <| X.nextExit <| X.here <| X.seq <| W.seq <| W.region <| L.v (R1.move rfl) rfl <| L.v (R1.move rfl) rfl <| L.v (R1.move rfl) rfl <| L.call rfl (c_Fixed hM hbd oksM) rfl ?_
        rintro _ w12 ⟨rs59, ok59, _, hP59, rfl, ⟨s59, A59, c59, B59, e59, xs59, ys59, rfl, hn59, hd59, hq59, hla59, hlb59⟩, hm12⟩
        replace hL := hL.gr hm12
        replace hbd := hbd.gr hm12
        replace hm0 := hm0.trans hm12
        replace hM := hM.gr hm12
        clear hm12
        obtain ⟨x, hx⟩ : ∃ x, x = (fixT (N : Int) v rs59 ok59).getD 0 := ⟨_, rfl⟩
        obtain ⟨bb, hbb⟩ : ∃ bb, bb = (fixT (N : Int) v rs59 ok59).isSome := ⟨_, rfl⟩
        rw [← hx] at hq59
        rw [← hbb]
        refine L.v (R1.move rfl) rfl <| L.v (R1.extract rfl rfl) rfl <| L.v (R1.extract rfl rfl) rfl <| L.alloc tyZ27 rfl ?_
        intro g11 w13 hN11
        replace hL := hL.new hN11
        replace hbd := hbd.new hN11
        have hge_g11 := New.ge hN11 hm0.size
        replace hm0 := hm0.trans (hN11.mod.mono (by simp))
        replace hM := hM.new hN11
        replace hn59 := hn59.new hN11
        replace hd59 := hd59.new hN11
        have hb11 := hN11.blk
        clear hN11
        refine L.storeBox rfl rfl hb11 rfl rfl tyG27 ?_
        intro w14 hb11' hm14
        replace hL := hL.mod hm14 (by simp)
        replace hbd := hbd.gr hm14
        replace hm0 := hm0.old1 hm14 hge_g11
        replace hM := hM.mod hm14 (by simp)
        replace hn59 := hn59.mod hm14 (by simp)
        replace hd59 := hd59.mod hm14 (by simp)
        clear hm14
        replace hb11 := hb11'; clear hb11'
        refine L.v (R1.assign rfl) rfl <| L.nil <| X.seq <| W.seq <| W.region <| L.v (R1.move rfl) rfl <| L.v (R1.move rfl) rfl <| L.v (R1.move rfl) rfl <| L.call rfl (c_Fixed10 hL hbd oks) rfl ?_
        rintro _ w15 ⟨rs66, ok66, _, hP66, rfl, ⟨s66, A66, c66, B66, e66, xs66, ys66, rfl, hn66, hd66, hq66, hla66, hlb66⟩, hm15⟩
        replace hL := hL.gr hm15
        replace hbd := hbd.gr hm15
        replace hm0 := hm0.trans hm15
        replace hM := hM.gr hm15
        replace hn59 := hn59.gr hm15
        replace hd59 := hd59.gr hm15
        replace hb11 := Blk.gr hb11 hm15
        clear hm15
        obtain ⟨y, hy⟩ : ∃ y, y = (fixDD (N : Int) v rs66 ok66).getD 0 := ⟨_, rfl⟩
        obtain ⟨bc, hbc⟩ : ∃ bc, bc = (fixDD (N : Int) v rs66 ok66).isSome := ⟨_, rfl⟩
        rw [← hy] at hq66
        rw [← hbc]
        refine L.v (R1.move rfl) rfl <| L.v (R1.extract rfl rfl) rfl <| L.v (R1.extract rfl rfl) rfl <| L.alloc tyZ27 rfl ?_
        intro g13 w16 hN13
        replace hL := hL.new hN13
        replace hbd := hbd.new hN13
        have hge_g13 := New.ge hN13 hm0.size
        replace hm0 := hm0.trans (hN13.mod.mono (by simp))
        replace hM := hM.new hN13
        replace hn59 := hn59.new hN13
        replace hd59 := hd59.new hN13
        have hne_g11_g13 := hb11.ne_ hN13
        replace hb11 := Blk.gr hb11 hN13.mod
        replace hn66 := hn66.new hN13
        replace hd66 := hd66.new hN13
        have hb13 := hN13.blk
        clear hN13
        refine L.storeBox rfl rfl hb13 rfl rfl tyG27 ?_
        intro w17 hb13' hm17
        replace hL := hL.mod hm17 (by simp)
        replace hbd := hbd.gr hm17
        replace hm0 := hm0.old1 hm17 hge_g13
        replace hM := hM.mod hm17 (by simp)
        replace hn59 := hn59.mod hm17 (by simp)
        replace hd59 := hd59.mod hm17 (by simp)
        replace hb11 := Blk.far hb11 hm17 (by first | exact hne_g11_g13 | exact (hne_g13_g11).symm)
        replace hn66 := hn66.mod hm17 (by simp)
        replace hd66 := hd66.mod hm17 (by simp)
        clear hm17
        replace hb13 := hb13'; clear hb13'
        refine L.v (R1.assign rfl) rfl <| L.nil <| X.seq <| W.seq <| W.region <| L.v (R1.move rfl) rfl <| L.v (R1.move rfl) rfl <| L.call rfl (c_Rank hM hbd oksM) rfl ?_
        rintro _ w18 ⟨rs71, ok71, ⟨hP71, hrk71⟩, rfl, hm18⟩
        replace hL := hL.gr hm18
        replace hbd := hbd.gr hm18
        replace hm0 := hm0.trans hm18
        replace hM := hM.gr hm18
        replace hn59 := hn59.gr hm18
        replace hd59 := hd59.gr hm18
        replace hb11 := Blk.gr hb11 hm18
        replace hn66 := hn66.gr hm18
        replace hd66 := hd66.gr hm18
        replace hb13 := Blk.gr hb13 hm18
        clear hm18
        refine L.v (R1.move rfl) rfl <| L.v (R1.move rfl) rfl <| L.call rfl (c_Rank hL hbd oks) rfl ?_
        rintro _ w19 ⟨rs74, ok74, ⟨hP74, hrk74⟩, rfl, hm19⟩
        replace hL := hL.gr hm19
        replace hbd := hbd.gr hm19
        replace hm0 := hm0.trans hm19
        replace hM := hM.gr hm19
        replace hn59 := hn59.gr hm19
        replace hd59 := hd59.gr hm19
        replace hb11 := Blk.gr hb11 hm19
        replace hn66 := hn66.gr hm19
        replace hd66 := hd66.gr hm19
        replace hb13 := Blk.gr hb13 hm19
        clear hm19
        refine L.v ((R1.eq rfl rfl).asB (c := true) (decide_eq_true (by rw [PP_rank hP71 hP74 (show Eqv (vecs (heldG (N : Int)) (scs qr N cs)) (vecs (heldG (N : Int)) cs) by rw [hN]; exact eqv_sc hq0 N cs)]))) rfl <| L.v (R1.move rfl) rfl <| L.on rfl rfl rfl (R1.move rfl) rfl <| L.on rfl rfl rfl (R1.move rfl) rfl <| L.callOn rfl rfl rfl rfl (c_Consistent hM hbd oksM) rfl ?_
        rintro _ w20 ⟨rs79, ok79, hP79, rfl, hm20⟩
        replace hL := hL.gr hm20
        replace hbd := hbd.gr hm20
        replace hm0 := hm0.trans hm20
        replace hM := hM.gr hm20
        replace hn59 := hn59.gr hm20
        replace hd59 := hd59.gr hm20
        replace hb11 := Blk.gr hb11 hm20
        replace hn66 := hn66.gr hm20
        replace hd66 := hd66.gr hm20
        replace hb13 := Blk.gr hb13 hm20
        clear hm20
        refine L.on rfl rfl rfl (R1.move rfl) rfl <| L.on rfl rfl rfl (R1.move rfl) rfl <| L.callOn rfl rfl rfl rfl (c_Consistent hL hbd oks) rfl ?_
        rintro _ w21 ⟨rs82, ok82, hP82, rfl, hm21⟩
        replace hL := hL.gr hm21
        replace hbd := hbd.gr hm21
        replace hm0 := hm0.trans hm21
        replace hM := hM.gr hm21
        replace hn59 := hn59.gr hm21
        replace hd59 := hd59.gr hm21
        replace hb11 := Blk.gr hb11 hm21
        replace hn66 := hn66.gr hm21
        replace hd66 := hd66.gr hm21
        replace hb13 := Blk.gr hb13 hm21
        clear hm21
        refine L.on rfl rfl rfl ((R1.eqB rfl rfl tyB4).asB (c := true) (by rw [PP_ok hP79 hP82 (show Eqv (vecs (heldG (N : Int)) (scs qr N cs)) (vecs (heldG (N : Int)) cs) by rw [hN]; exact eqv_sc hq0 N cs)]; simp)) rfl <| L.v (R1.pickT rfl rfl) rfl <| L.v (R1.move rfl) rfl <| L.on rfl rfl rfl (R1.loadBox rfl hb11 tyG27) rfl <| L.on rfl rfl rfl (R1.loadBox rfl hb13 tyG27) rfl <| L.callOn rfl rfl rfl rfl ((c_ref2_Same (qa := x) (qb := y) hq59 hq66 hn59 hd59 hn66 hd66 hbd (Nat.le_trans hla59 (by decide)) (Nat.le_trans hlb59 (by decide)) (Nat.le_trans hla66 (by decide)) (Nat.le_trans hlb66 (by decide))).mono (R' := fun r w' => r = .bool true ∧ Mod [] w21 w') (fun r w' h9 => ⟨h9.1.trans (congrArg Value.bool (decide_eq_true (by rw [hx, hy, PA_fix hP59 hP66 (show Eqv (vecs (heldG (N : Int)) (scs qr N cs)) (vecs (heldG (N : Int)) cs) by rw [hN]; exact eqv_sc hq0 N cs)]))), h9.2⟩)) rfl ?_
        rintro _ w22 ⟨rfl, hm22⟩
        replace hL := hL.gr hm22
        replace hbd := hbd.gr hm22
        replace hm0 := hm0.trans hm22
        replace hM := hM.gr hm22
        replace hn59 := hn59.gr hm22
        replace hd59 := hd59.gr hm22
        replace hb11 := Blk.gr hb11 hm22
        replace hn66 := hn66.gr hm22
        replace hd66 := hd66.gr hm22
        replace hb13 := Blk.gr hb13 hm22
        clear hm22
        refine L.v (R1.pickT rfl rfl) rfl <| L.v (R1.move rfl) rfl <| L.on rfl rfl rfl (R1.move rfl) rfl <| L.on rfl rfl rfl (R1.move rfl) rfl <| L.on rfl rfl rfl ((R1.eqB rfl rfl tyB4).asB (c := true) (by rw [hbb, hbc, PA_fix hP59 hP66 (show Eqv (vecs (heldG (N : Int)) (scs qr N cs)) (vecs (heldG (N : Int)) cs) by rw [hN]; exact eqv_sc hq0 N cs)]; simp)) rfl <| L.v (R1.pickT rfl rfl) rfl <| L.v (R1.move rfl) rfl <| L.callOn rfl rfl rfl rfl (c_known10) rfl ?_
        rintro _ w23 ⟨rfl, hm23⟩
        replace hL := hL.gr hm23
        replace hbd := hbd.gr hm23
        replace hm0 := hm0.trans hm23
        replace hM := hM.gr hm23
        replace hn59 := hn59.gr hm23
        replace hd59 := hd59.gr hm23
        replace hb11 := Blk.gr hb11 hm23
        replace hn66 := hn66.gr hm23
        replace hd66 := hd66.gr hm23
        replace hb13 := Blk.gr hb13 hm23
        clear hm23
        refine L.v (R1.pickT rfl rfl) rfl <| L.v (R1.assign rfl) rfl <| L.nil <| X.seq <| W.ret <| X.result1 rfl (.tmp rfl .nil) ?_
        exact ⟨rfl, hm0⟩
    ·
     simp only [bq] at hgd30
     refine L.off rfl rfl rfl rfl rfl <| L.off rfl rfl rfl rfl rfl <| L.v (R1.pickT rfl rfl) rfl <| L.nil <| X.seq <| W.condT rfl <| W.seq <| W.region <| L.v (R1.assign rfl) rfl <| L.nil <| X.seq ?_
     refine W.ret <| X.thenRet <| X.result1 rfl (.tmp rfl .nil) ?_
     exact ⟨rfl, hm0⟩
   ·
    simp only [bq] at hgd26
    refine L.off rfl rfl rfl rfl rfl <| L.off rfl rfl rfl rfl rfl <| L.v (R1.pickT rfl rfl) rfl <| L.v (R1.move rfl) rfl <| L.off rfl rfl rfl rfl rfl <| L.off rfl rfl rfl rfl rfl <| L.v (R1.pickT rfl rfl) rfl <| L.nil <| X.seq <| W.condT rfl <| W.seq ?_
    refine W.region <| L.v (R1.assign rfl) rfl <| L.nil <| X.seq <| W.ret <| X.thenRet <| X.result1 rfl (.tmp rfl .nil) ?_
    exact ⟨rfl, hm0⟩
  ·
   have hcc_ := hgd22
   refine L.off rfl rfl rfl rfl rfl <| L.off rfl rfl rfl rfl rfl <| L.v (R1.pickT rfl rfl) rfl <| L.v (R1.move rfl) rfl <| L.off rfl rfl rfl rfl rfl <| L.off rfl rfl rfl rfl rfl <| L.v (R1.pickT rfl rfl) rfl <| L.v (R1.move rfl) rfl <| L.off rfl rfl rfl rfl rfl <| L.off rfl rfl rfl rfl rfl <| L.v (R1.pickT rfl rfl) rfl ?_
   refine L.nil <| X.seq <| W.condT rfl <| W.seq <| W.region <| L.v (R1.assign rfl) rfl <| L.nil <| X.seq <| W.ret <| X.thenRet <| X.result1 rfl (.tmp rfl .nil) ?_
   exact ⟨rfl, hm0⟩
 ·
  have hcc_ := hgd17
  refine L.off rfl rfl rfl rfl rfl <| L.off rfl rfl rfl rfl rfl <| L.off rfl rfl rfl rfl rfl <| L.v (R1.pickT rfl rfl) rfl <| L.v (R1.move rfl) rfl <| L.off rfl rfl rfl rfl rfl <| L.off rfl rfl rfl rfl rfl <| L.v (R1.pickT rfl rfl) rfl <| L.v (R1.move rfl) rfl <| L.off rfl rfl rfl rfl rfl <| L.off rfl rfl rfl rfl rfl ?_
  refine L.v (R1.pickT rfl rfl) rfl <| L.v (R1.move rfl) rfl <| L.off rfl rfl rfl rfl rfl <| L.off rfl rfl rfl rfl rfl <| L.v (R1.pickT rfl rfl) rfl <| L.nil <| X.seq <| W.condT rfl <| W.seq <| W.region <| L.v (R1.assign rfl) rfl ?_
  refine L.nil <| X.seq <| W.ret <| X.thenRet <| X.result1 rfl (.tmp rfl .nil) ?_
  exact ⟨rfl, hm0⟩

end Go.Proofs.Ytkjllbpfcokalaa
