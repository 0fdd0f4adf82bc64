/- Walks: what the functions compute. -/
import Derived.Test.YtjeodekhamdcmaaLawB
import Derived.Test.YtjeodekhamdcmaaRatI
namespace Go.Proofs.Ytjeodekhamdcmaa
open Go.RowKit
set_option linter.unusedVariables false
set_option linter.unusedSimpArgs false
set_option maxRecDepth 10000
theorem c_RatFloors {M : List Nat} {w : World} {sa : Bool} {an ad : Value} {xa ya : List Nat} {qa : Rat} (hqa : rv sa (val xa) (val ya) = qa) (ha : U32 M w an xa) (ka : U32 M w ad ya) (hbd : Bd M w) (la : xa.length ≤ 140737488355328) (ma : ya.length ≤ 140737488355328) :
    Ret Try.prog 13 #[.agg #[.bool sa, an, ad]] w (fun r w' => r = .bool true ∧ Mod [] w w') := by
  obtain ⟨Aa, ca, rfl⟩ := ha.form
  obtain ⟨Ba, da, rfl⟩ := ka.form
  refine Ret.of (vs := [.agg #[.bool sa, .slice Aa xa.length ca, .slice Ba ya.length da]]) (n := 37) Try.func13 rfl rfl rfl rfl ?_
  have hm0 : Mod [] w w := Mod.refl _ _
  refine W.seq ?_
  refine W.region ?_
  refine L.box rfl rfl ?_
  intro g1 w1 hN1
  replace ha := ha.new hN1
  replace ka := ka.new hN1
  replace hbd := hbd.new hN1
  have hge_g1 := New.ge hN1 hm0.size
  replace hm0 := hm0.trans (hN1.mod.mono (by simp))
  have hb1 := hN1.blk
  clear hN1
  refine L.v (R1.assign rfl) rfl ?_
  refine L.nil ?_
  refine X.seq ?_
  refine W.seq ?_
  refine W.seq ?_
  refine W.region ?_
  refine L.v (R1.loadBox rfl hb1 tyG27) rfl ?_
  refine L.buildSlice (cells := [.bool sa, .slice Aa xa.length ca, .slice Ba ya.length da]) rfl tyS63 tyZ27 (fillQ1 _ _ _ _ _ _ _) (by decide) (by decide) rfl ?_
  intro g5 w2 hN5
  replace ha := ha.new hN5
  replace ka := ka.new hN5
  replace hbd := hbd.new hN5
  have hge_g5 := New.ge hN5 hm0.size
  replace hm0 := hm0.trans (hN5.mod.mono (by simp))
  have hne_g1_g5 := hb1.ne_ hN5
  replace hb1 := Blk.gr hb1 hN5.mod
  have hb5 := hN5.blk
  clear hN5
  have hr9 : ∀ i, i < 1 → ∃ A c B d, (#[.bool sa, .slice Aa xa.length ca, .slice Ba ya.length da] : Array Value)[i * 3 + 1]? = some (.slice A ((fun i => [xa.length].getD i 0) i) c) ∧ (#[.bool sa, .slice Aa xa.length ca, .slice Ba ya.length da] : Array Value)[i * 3 + 2]? = some (.slice B ((fun i => [ya.length].getD i 0) i) d) := fun i hi => by
      match i, hi with
      | 0, _ => exact ⟨_, _, _, _, rfl, rfl⟩
  have hl9 : ∀ i, i < 1 → (fun i => [xa.length].getD i 0) i ≤ 140737488355328 ∧ (fun i => [ya.length].getD i 0) i ≤ 140737488355328 := fun i hi => by
      match i, hi with
      | 0, _ => exact ⟨la, ma⟩
  refine L.call rfl (c_big (ln := (fun i => [xa.length].getD i 0)) (ld := (fun i => [ya.length].getD i 0)) hb5 hr9 hl9 (by decide)) rfl ?_
  rintro _ w3 ⟨b6, rfl, hbig, hm3⟩
  replace ha := ha.gr hm3
  replace ka := ka.gr hm3
  replace hbd := hbd.gr hm3
  replace hm0 := hm0.trans hm3
  replace hb1 := Blk.gr hb1 hm3
  replace hb5 := Blk.gr hb5 hm3
  clear hm3
  refine L.nil ?_
  refine X.seq ?_
  refine W.cond rfl ?_ ?_
  ·
    intro hc6
    have hcc_ := hc6
    refine W.seq ?_
    refine W.region ?_
    refine L.v (R1.assign rfl) rfl ?_
    refine L.nil ?_
    refine X.seq ?_
    refine W.ret ?_
    refine X.thenRet ?_
    refine X.result1 rfl (.tmp rfl .nil) ?_
    exact ⟨rfl, hm0⟩
  ·
    intro hc6
    have hcc_ := hc6
    have za := hbig hc6 0 (by decide)
    change xa.length ≤ 16 ∧ ya.length ≤ 16 at za
    have FA : Fit qa 17 := Fit.rv hqa ha.2 ka.2 za.1 za.2
    refine W.skip ?_
    refine X.seq ?_
    refine W.seq ?_
    refine W.region ?_
    refine L.v (R1.loadBox rfl hb1 tyG27) rfl ?_
    refine L.call rfl (c_rat_Floor (q := qa) hqa ha ka hbd (by omega) (by omega)) rfl ?_
    rintro _ w4 ⟨⟨A8, c8, B8, e8, rfl, hn8, hd8⟩, hm4⟩
    replace ha := ha.gr hm4
    replace ka := ka.gr hm4
    replace hbd := hbd.gr hm4
    replace hm0 := hm0.trans hm4
    replace hb1 := Blk.gr hb1 hm4
    replace hb5 := Blk.gr hb5 hm4
    clear hm4
    have F8 := Fit.floor FA
    refine L.alloc tyZ27 rfl ?_
    intro g3 w5 hN3
    replace ha := ha.new hN3
    replace ka := ka.new hN3
    replace hbd := hbd.new hN3
    have hge_g3 := New.ge hN3 hm0.size
    replace hm0 := hm0.trans (hN3.mod.mono (by simp))
    have hne_g1_g3 := hb1.ne_ hN3
    replace hb1 := Blk.gr hb1 hN3.mod
    have hne_g5_g3 := hb5.ne_ hN3
    replace hb5 := Blk.gr hb5 hN3.mod
    replace hn8 := hn8.new hN3
    replace hd8 := hd8.new hN3
    have hb3 := hN3.blk
    clear hN3
    refine L.storeBox rfl rfl hb3 rfl rfl tyG27 ?_
    intro w6 hb3' hm6
    replace ha := ha.mod hm6 (by simp)
    replace ka := ka.mod hm6 (by simp)
    replace hbd := hbd.gr hm6
    replace hm0 := hm0.old1 hm6 hge_g3
    replace hb1 := Blk.far hb1 hm6 (by first | exact hne_g1_g3 | exact (hne_g3_g1).symm)
    replace hb5 := Blk.far hb5 hm6 (by first | exact hne_g5_g3 | exact (hne_g3_g5).symm)
    replace hn8 := hn8.mod hm6 (by simp)
    replace hd8 := hd8.mod hm6 (by simp)
    clear hm6
    replace hb3 := hb3'; clear hb3'
    refine L.nil ?_
    refine X.seq ?_
    refine W.seq ?_
    refine W.drawW (T := []) rfl (by decide +kernel) (NoHang.then NoHang.post) (fun w7 hm7 => ?_)
    replace ha := ha.gr hm7
    replace ka := ka.gr hm7
    replace hbd := hbd.gr hm7
    replace hm0 := hm0.trans hm7
    replace hb1 := Blk.gr hb1 hm7
    replace hb5 := Blk.gr hb5 hm7
    replace hn8 := hn8.gr hm7
    replace hd8 := hd8.gr hm7
    replace hb3 := Blk.gr hb3 hm7
    have hS1 : Mod [] w7 w7 := Mod.refl _ _
    clear hm7
    have ha_s := ha
    have ka_s := ka
    have hb1_s := hb1
    have hb5_s := hb5
    have hn8_s := hn8
    have hd8_s := hd8
    have hb3_s := hb3
    refine D.take 0 rfl (by decide +kernel) (fun w_ hS => (R1.loadBox rfl (Blk.gr hb3_s hS) tyG27)) hS1 rfl ?_
    refine D.take 1 rfl (by decide +kernel) (fun w_ hS => (R1.loadBox rfl (Blk.gr hb1_s hS) tyG27)) hS1 rfl ?_
    refine D.one 2 rfl (by decide +kernel) (fun hX => ?_)
    refine L.call rfl (c_rat_Cmp (qa := (((qa).floor : Int) : Rat)) (qb := qa) (rv_toL _) hqa hn8 hd8 ha ka hbd (Nat.le_trans F8.1 (by decide)) (Nat.le_trans F8.2 (by decide)) (by omega) (by omega)) rfl ?_
    rintro _ w8 ⟨rfl, hm8⟩
    replace ha := ha.gr hm8
    replace ka := ka.gr hm8
    replace hbd := hbd.gr hm8
    replace hm0 := hm0.trans hm8
    replace hb1 := Blk.gr hb1 hm8
    replace hb5 := Blk.gr hb5 hm8
    replace hn8 := hn8.gr hm8
    replace hd8 := hd8.gr hm8
    replace hb3 := Blk.gr hb3 hm8
    replace hS1 := hS1.trans hm8
    clear hm8
    refine L.nil (hX _ _ ⟨.inr hS1, ?_⟩)
    refine D.take 3 rfl (by decide +kernel) (fun w_ hS => ((R1.le rfl rfl).asB (c := true) (decide_eq_true (cmpQ_floor qa)))) hS1 rfl ?_
    refine D.take 4 rfl (by decide +kernel) (fun w_ hS => (R1.move rfl)) hS1 rfl ?_
    refine D.takeOn 5 rfl rfl rfl rfl (by decide +kernel) (fun w_ hS => (R1.loadBox rfl (Blk.gr hb3_s hS) tyG27)) hS1 rfl ?_
    refine D.takeOn 8 rfl rfl rfl rfl (by decide +kernel) (fun w_ hS => (R1.loadBox rfl (Blk.gr hb1_s hS) tyG27)) hS1 rfl ?_
    refine D.one 6 rfl (by decide +kernel) (fun hX => ?_)
    refine L.callOn rfl rfl rfl rfl (c_rat_Int (n := 1) (by decide) (by decide) hbd) rfl ?_
    rintro _ w9 ⟨⟨A15, c15, B15, e15, rfl, hn15, hd15⟩, hm9⟩
    replace ha := ha.gr hm9
    replace ka := ka.gr hm9
    replace hbd := hbd.gr hm9
    replace hm0 := hm0.trans hm9
    replace hb1 := Blk.gr hb1 hm9
    replace hb5 := Blk.gr hb5 hm9
    replace hn8 := hn8.gr hm9
    replace hd8 := hd8.gr hm9
    replace hb3 := Blk.gr hb3 hm9
    replace hS1 := hS1.trans hm9
    clear hm9
    have F15 := Fit.int (n := 1) (by decide) (by decide)
    refine L.nil (hX _ _ ⟨.inr hS1, ?_⟩)
    refine D.one 7 rfl (by decide +kernel) (fun hX => ?_)
    refine L.callOn rfl rfl rfl rfl (c_rat_Add (qa := (((qa).floor : Int) : Rat)) (qb := (((1 : Int)) : Rat)) (rv_toL _) (rv_toL _) hn8 hd8 hn15 hd15 hbd (Nat.le_trans F8.1 (by decide)) (Nat.le_trans F8.2 (by decide)) (Nat.le_trans F15.1 (by decide)) (Nat.le_trans F15.2 (by decide))) rfl ?_
    rintro _ w10 ⟨⟨A16, c16, B16, e16, rfl, hn16, hd16⟩, hm10⟩
    replace ha := ha.gr hm10
    replace ka := ka.gr hm10
    replace hbd := hbd.gr hm10
    replace hm0 := hm0.trans hm10
    replace hb1 := Blk.gr hb1 hm10
    replace hb5 := Blk.gr hb5 hm10
    replace hn8 := hn8.gr hm10
    replace hd8 := hd8.gr hm10
    replace hb3 := Blk.gr hb3 hm10
    replace hn15 := hn15.gr hm10
    replace hd15 := hd15.gr hm10
    replace hS1 := hS1.trans hm10
    clear hm10
    have F16 := Fit.add F8 F15
    refine L.nil (hX _ _ ⟨.inr hS1, ?_⟩)
    refine D.one 9 rfl (by decide +kernel) (fun hX => ?_)
    refine L.callOn rfl rfl rfl rfl (c_rat_Cmp (qa := ((((qa).floor : Int) : Rat) + (((1 : Int)) : Rat))) (qb := qa) (rv_toL _) hqa hn16 hd16 ha ka hbd (Nat.le_trans F16.1 (by decide)) (Nat.le_trans F16.2 (by decide)) (by omega) (by omega)) rfl ?_
    rintro _ w11 ⟨rfl, hm11⟩
    replace ha := ha.gr hm11
    replace ka := ka.gr hm11
    replace hbd := hbd.gr hm11
    replace hm0 := hm0.trans hm11
    replace hb1 := Blk.gr hb1 hm11
    replace hb5 := Blk.gr hb5 hm11
    replace hn8 := hn8.gr hm11
    replace hd8 := hd8.gr hm11
    replace hb3 := Blk.gr hb3 hm11
    replace hn15 := hn15.gr hm11
    replace hd15 := hd15.gr hm11
    replace hn16 := hn16.gr hm11
    replace hd16 := hd16.gr hm11
    replace hS1 := hS1.trans hm11
    clear hm11
    refine L.nil (hX _ _ ⟨.inr hS1, ?_⟩)
    refine D.takeOn 10 rfl rfl rfl rfl (by decide +kernel) (fun w_ hS => ((R1.gt rfl rfl).asB (c := true) (decide_eq_true (cmpQ_floor1 qa)))) hS1 rfl ?_
    refine D.take 11 rfl (by decide +kernel) (fun w_ hS => (R1.pickT rfl rfl)) hS1 rfl ?_
    refine D.take 12 rfl (by decide +kernel) (fun w_ hS => (R1.move rfl)) hS1 rfl ?_
    refine D.takeOn 13 rfl rfl rfl rfl (by decide +kernel) (fun w_ hS => (R1.fieldAt rfl tyF27_2)) hS1 rfl ?_
    refine D.takeOn 14 rfl rfl rfl rfl (by decide +kernel) (fun w_ hS => (R1.loadFld rfl (Blk.gr hb3_s hS) rfl tyP25)) hS1 rfl ?_
    refine D.takeOn 15 rfl rfl rfl rfl (by decide +kernel) (fun w_ hS => (R1.len rfl tyS25)) hS1 rfl ?_
    refine D.takeOn 16 rfl rfl rfl rfl (by decide +kernel) (fun w_ hS => ((R1.eq rfl rfl).asB (c := true) (by rw [Rat.den_intCast, toL_1]; rfl))) hS1 rfl ?_
    refine D.take 17 rfl (by decide +kernel) (fun w_ hS => (R1.pickT rfl rfl)) hS1 rfl ?_
    refine D.take 18 rfl (by decide +kernel) (fun w_ hS => (R1.move rfl)) hS1 rfl ?_
    refine D.takeOn 19 rfl rfl rfl rfl (by decide +kernel) (fun w_ hS => (R1.fieldAt rfl tyF27_2)) hS1 rfl ?_
    refine D.takeOn 20 rfl rfl rfl rfl (by decide +kernel) (fun w_ hS => (R1.loadFld rfl (Blk.gr hb3_s hS) rfl tyP25)) hS1 rfl ?_
    refine D.takeOn 21 rfl rfl rfl rfl (by decide +kernel) (fun w_ hS => (R1.atU (j := 0) rfl rfl (U32.gr hd8_s hS) tyS25 rfl (by rw [Rat.den_intCast, toL_1]; decide))) hS1 rfl ?_
    refine D.takeOn 22 rfl rfl rfl rfl (by decide +kernel) (fun w_ hS => (R1.ldU rfl (U32.gr hd8_s hS) tyP51 (by rw [Rat.den_intCast, toL_1]; decide) (c := 1) (by simp [Rat.den_intCast, toL_lit1]))) hS1 rfl ?_
    refine D.takeOn 23 rfl rfl rfl rfl (by decide +kernel) (fun w_ hS => ((R1.eq rfl rfl).asB (c := true) (rfl))) hS1 rfl ?_
    refine D.take 24 rfl (by decide +kernel) (fun w_ hS => (R1.pickT rfl rfl)) hS1 rfl ?_
    refine D.take 25 rfl (by decide +kernel) (fun w_ hS => (R1.move rfl)) hS1 rfl ?_
    refine D.one 26 rfl (by decide +kernel) (fun hX => ?_)
    refine L.callOn rfl rfl rfl rfl (c_known2) rfl ?_
    rintro _ w12 ⟨rfl, hm12⟩
    replace ha := ha.gr hm12
    replace ka := ka.gr hm12
    replace hbd := hbd.gr hm12
    replace hm0 := hm0.trans hm12
    replace hb1 := Blk.gr hb1 hm12
    replace hb5 := Blk.gr hb5 hm12
    replace hn8 := hn8.gr hm12
    replace hd8 := hd8.gr hm12
    replace hb3 := Blk.gr hb3 hm12
    replace hn15 := hn15.gr hm12
    replace hd15 := hd15.gr hm12
    replace hn16 := hn16.gr hm12
    replace hd16 := hd16.gr hm12
    replace hS1 := hS1.trans hm12
    clear hm12
    refine L.nil (hX _ _ ⟨.inr hS1, ?_⟩)
    refine D.take 27 rfl (by decide +kernel) (fun w_ hS => (R1.pickT rfl rfl)) hS1 rfl ?_
    refine D.take 28 rfl (by decide +kernel) (fun w_ hS => (R1.assign rfl)) hS1 rfl ?_
    refine D.done (by decide +kernel) ?_ _
    refine X.seq ?_
    refine W.ret ?_
    refine X.result1 rfl (.tmp rfl .nil) ?_
    exact ⟨rfl, hm0⟩

end Go.Proofs.Ytjeodekhamdcmaa
