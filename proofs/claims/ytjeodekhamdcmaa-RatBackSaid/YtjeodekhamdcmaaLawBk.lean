/- Walks: what the functions compute. -/
import Derived.Test.YtjeodekhamdcmaaLawB
import Derived.Test.YtjeodekhamdcmaaRatI
namespace Go.Proofs.Ytjeodekhamdcmaa
open Go.RowKit
set_option linter.unusedVariables false
set_option linter.unusedSimpArgs false
set_option maxRecDepth 10000
theorem c_RatBack {M : List Nat} {w : World} {sa : Bool} {an ad : Value} {xa ya : List Nat} {qa : Rat} {sb : Bool} {bn bd : Value} {xb yb : List Nat} {qb : Rat} (hqa : rv sa (val xa) (val ya) = qa) (ha : U32 M w an xa) (ka : U32 M w ad ya) (hqb : rv sb (val xb) (val yb) = qb) (hb : U32 M w bn xb) (kb : U32 M w bd yb) (hbd : Bd M w) (la : xa.length ≤ 140737488355328) (ma : ya.length ≤ 140737488355328) (lb : xb.length ≤ 140737488355328) (mb : yb.length ≤ 140737488355328) :
    Ret Try.prog 9 #[.agg #[.bool sa, an, ad], .agg #[.bool sb, bn, bd]] w (fun r w' => r = .bool true ∧ Mod [] w w') := by
  obtain ⟨Aa, ca, rfl⟩ := ha.form
  obtain ⟨Ba, da, rfl⟩ := ka.form
  obtain ⟨Ab, cb, rfl⟩ := hb.form
  obtain ⟨Bb, db, rfl⟩ := kb.form
  refine Ret.of (vs := [.agg #[.bool sa, .slice Aa xa.length ca, .slice Ba ya.length da], .agg #[.bool sb, .slice Ab xb.length cb, .slice Bb yb.length db]]) (n := 73) Try.func9 rfl rfl rfl rfl ?_
  have hm0 : Mod [] w w := Mod.refl _ _
  refine W.seq ?_
  refine W.region ?_
  refine L.box rfl rfl ?_
  intro g2 w1 hN2
  replace ha := ha.new hN2
  replace ka := ka.new hN2
  replace hb := hb.new hN2
  replace kb := kb.new hN2
  replace hbd := hbd.new hN2
  have hge_g2 := New.ge hN2 hm0.size
  replace hm0 := hm0.trans (hN2.mod.mono (by simp))
  have hb2 := hN2.blk
  clear hN2
  refine L.box rfl rfl ?_
  intro g3 w2 hN3
  replace ha := ha.new hN3
  replace ka := ka.new hN3
  replace hb := hb.new hN3
  replace kb := kb.new hN3
  replace hbd := hbd.new hN3
  have hge_g3 := New.ge hN3 hm0.size
  replace hm0 := hm0.trans (hN3.mod.mono (by simp))
  have hne_g2_g3 := hb2.ne_ hN3
  replace hb2 := Blk.gr hb2 hN3.mod
  have hb3 := hN3.blk
  clear hN3
  refine L.v (R1.assign rfl) rfl ?_
  refine L.nil ?_
  refine X.seq ?_
  refine W.seq ?_
  refine W.seq ?_
  refine W.region ?_
  refine L.v (R1.loadBox rfl hb2 tyG27) rfl ?_
  refine L.v (R1.loadBox rfl hb3 tyG27) rfl ?_
  refine L.buildSlice (cells := [.bool sa, .slice Aa xa.length ca, .slice Ba ya.length da, .bool sb, .slice Ab xb.length cb, .slice Bb yb.length db]) rfl tyS63 tyZ27 (fillQ2 _ _ _ _ _ _ _ _ _ _ _ _ _ _) (by decide) (by decide) rfl ?_
  intro g10 w3 hN10
  replace ha := ha.new hN10
  replace ka := ka.new hN10
  replace hb := hb.new hN10
  replace kb := kb.new hN10
  replace hbd := hbd.new hN10
  have hge_g10 := New.ge hN10 hm0.size
  replace hm0 := hm0.trans (hN10.mod.mono (by simp))
  have hne_g2_g10 := hb2.ne_ hN10
  replace hb2 := Blk.gr hb2 hN10.mod
  have hne_g3_g10 := hb3.ne_ hN10
  replace hb3 := Blk.gr hb3 hN10.mod
  have hb10 := hN10.blk
  clear hN10
  have hr9 : ∀ i, i < 2 → ∃ A c B d, (#[.bool sa, .slice Aa xa.length ca, .slice Ba ya.length da, .bool sb, .slice Ab xb.length cb, .slice Bb yb.length db] : Array Value)[i * 3 + 1]? = some (.slice A ((fun i => [xa.length, xb.length].getD i 0) i) c) ∧ (#[.bool sa, .slice Aa xa.length ca, .slice Ba ya.length da, .bool sb, .slice Ab xb.length cb, .slice Bb yb.length db] : Array Value)[i * 3 + 2]? = some (.slice B ((fun i => [ya.length, yb.length].getD i 0) i) d) := fun i hi => by
      match i, hi with
      | 0, _ => exact ⟨_, _, _, _, rfl, rfl⟩
      | 1, _ => exact ⟨_, _, _, _, rfl, rfl⟩
  have hl9 : ∀ i, i < 2 → (fun i => [xa.length, xb.length].getD i 0) i ≤ 140737488355328 ∧ (fun i => [ya.length, yb.length].getD i 0) i ≤ 140737488355328 := fun i hi => by
      match i, hi with
      | 0, _ => exact ⟨la, ma⟩
      | 1, _ => exact ⟨lb, mb⟩
  refine L.call rfl (c_big (ln := (fun i => [xa.length, xb.length].getD i 0)) (ld := (fun i => [ya.length, yb.length].getD i 0)) hb10 hr9 hl9 (by decide)) rfl ?_
  rintro _ w4 ⟨b11, rfl, hbig, hm4⟩
  replace ha := ha.gr hm4
  replace ka := ka.gr hm4
  replace hb := hb.gr hm4
  replace kb := kb.gr hm4
  replace hbd := hbd.gr hm4
  replace hm0 := hm0.trans hm4
  replace hb2 := Blk.gr hb2 hm4
  replace hb3 := Blk.gr hb3 hm4
  replace hb10 := Blk.gr hb10 hm4
  clear hm4
  refine L.v (R1.move rfl) rfl ?_
  cases hgd12 : b11
  ·
    have hcc_ := hgd12
    have za := hbig hgd12 0 (by decide)
    change xa.length ≤ 16 ∧ ya.length ≤ 16 at za
    have FA : Fit qa 17 := Fit.rv hqa ha.2 ka.2 za.1 za.2
    have zb := hbig hgd12 1 (by decide)
    change xb.length ≤ 16 ∧ yb.length ≤ 16 at zb
    have FB : Fit qb 17 := Fit.rv hqb hb.2 kb.2 zb.1 zb.2
    refine L.on rfl rfl rfl (R1.fieldAt rfl tyF27_1) rfl ?_
    refine L.on rfl rfl rfl (R1.loadFld rfl hb2 rfl tyP25) rfl ?_
    refine L.on rfl rfl rfl (R1.lenU rfl (by assumption) tyS25) rfl ?_
    refine L.on rfl rfl rfl (R1.fieldAt rfl tyF27_1) rfl ?_
    refine L.on rfl rfl rfl (R1.loadFld rfl hb3 rfl tyP25) rfl ?_
    refine L.on rfl rfl rfl (R1.lenU rfl (by assumption) tyS25) rfl ?_
    refine L.on rfl rfl rfl (R1.addI rfl rfl (by omega)) rfl ?_
    refine L.on rfl rfl rfl (R1.fieldAt rfl tyF27_2) rfl ?_
    refine L.on rfl rfl rfl (R1.loadFld rfl hb2 rfl tyP25) rfl ?_
    refine L.on rfl rfl rfl (R1.lenU rfl (by assumption) tyS25) rfl ?_
    refine L.on rfl rfl rfl (R1.addI rfl rfl (by omega)) rfl ?_
    refine L.on rfl rfl rfl (R1.fieldAt rfl tyF27_2) rfl ?_
    refine L.on rfl rfl rfl (R1.loadFld rfl hb3 rfl tyP25) rfl ?_
    refine L.on rfl rfl rfl (R1.lenU rfl (by assumption) tyS25) rfl ?_
    refine L.on rfl rfl rfl (R1.addI rfl rfl (by omega)) rfl ?_
    refine L.on rfl rfl rfl (R1.gt rfl rfl) rfl ?_
    refine L.v (R1.pickF rfl rfl) rfl ?_
    refine L.nil ?_
    refine X.seq ?_
    refine W.cond rfl ?_ ?_
    ·
      intro hc29
      try simp only [decide_eq_true_eq, decide_eq_false_iff_not, Bool.not_eq_true', Bool.not_eq_false', Int.not_lt, Int.not_le, ne_eq, Decidable.not_not] at hc29
      refine W.seq ?_
      refine W.region ?_
      refine L.v (R1.assign rfl) rfl ?_
      refine L.nil ?_
      refine X.seq ?_
      refine W.ret ?_
      refine X.thenRet ?_
      refine X.result1 rfl (.tmp rfl .nil) ?_
      exact ⟨rfl, hm0⟩
    ·
      intro hc29
      try simp only [decide_eq_true_eq, decide_eq_false_iff_not, Bool.not_eq_true', Bool.not_eq_false', Int.not_lt, Int.not_le, ne_eq, Decidable.not_not] at hc29
      refine W.skip ?_
      refine X.seq ?_
      refine W.seq ?_
      refine W.region ?_
      refine L.v (R1.loadBox rfl hb2 tyG27) rfl ?_
      refine L.call rfl (c_ref2_Norm (q := qa) hqa ha ka hbd (by omega) (by omega)) rfl ?_
      rintro _ w5 ⟨⟨A31, c31, B31, e31, rfl, hn31, hd31⟩, hm5⟩
      replace ha := ha.gr hm5
      replace ka := ka.gr hm5
      replace hb := hb.gr hm5
      replace kb := kb.gr hm5
      replace hbd := hbd.gr hm5
      replace hm0 := hm0.trans hm5
      replace hb2 := Blk.gr hb2 hm5
      replace hb3 := Blk.gr hb3 hm5
      replace hb10 := Blk.gr hb10 hm5
      clear hm5
      have F31 := FA
      refine L.alloc tyZ27 rfl ?_
      intro g5 w6 hN5
      replace ha := ha.new hN5
      replace ka := ka.new hN5
      replace hb := hb.new hN5
      replace kb := kb.new hN5
      replace hbd := hbd.new hN5
      have hge_g5 := New.ge hN5 hm0.size
      replace hm0 := hm0.trans (hN5.mod.mono (by simp))
      have hne_g2_g5 := hb2.ne_ hN5
      replace hb2 := Blk.gr hb2 hN5.mod
      have hne_g3_g5 := hb3.ne_ hN5
      replace hb3 := Blk.gr hb3 hN5.mod
      have hne_g10_g5 := hb10.ne_ hN5
      replace hb10 := Blk.gr hb10 hN5.mod
      replace hn31 := hn31.new hN5
      replace hd31 := hd31.new hN5
      have hb5 := hN5.blk
      clear hN5
      refine L.storeBox rfl rfl hb5 rfl rfl tyG27 ?_
      intro w7 hb5' hm7
      replace ha := ha.mod hm7 (by simp)
      replace ka := ka.mod hm7 (by simp)
      replace hb := hb.mod hm7 (by simp)
      replace kb := kb.mod hm7 (by simp)
      replace hbd := hbd.gr hm7
      replace hm0 := hm0.old1 hm7 hge_g5
      replace hb2 := Blk.far hb2 hm7 (by first | exact hne_g2_g5 | exact (hne_g5_g2).symm)
      replace hb3 := Blk.far hb3 hm7 (by first | exact hne_g3_g5 | exact (hne_g5_g3).symm)
      replace hb10 := Blk.far hb10 hm7 (by first | exact hne_g10_g5 | exact (hne_g5_g10).symm)
      replace hn31 := hn31.mod hm7 (by simp)
      replace hd31 := hd31.mod hm7 (by simp)
      clear hm7
      replace hb5 := hb5'; clear hb5'
      refine L.nil ?_
      refine X.seq ?_
      refine W.seq ?_
      refine W.region ?_
      refine L.v (R1.loadBox rfl hb2 tyG27) rfl ?_
      refine L.v (R1.loadBox rfl hb3 tyG27) rfl ?_
      refine L.call rfl (c_rat_Div (qa := qa) (qb := qb) hqa hqb ha ka hb kb hbd (by omega) (by omega) (by omega) (by omega)) rfl ?_
      rintro _ w8 ⟨v35, rfl, ⟨A35, c35, B35, e35, rfl, hn35, hd35⟩, hm8⟩
      replace ha := ha.gr hm8
      replace ka := ka.gr hm8
      replace hb := hb.gr hm8
      replace kb := kb.gr hm8
      replace hbd := hbd.gr hm8
      replace hm0 := hm0.trans hm8
      replace hb2 := Blk.gr hb2 hm8
      replace hb3 := Blk.gr hb3 hm8
      replace hb10 := Blk.gr hb10 hm8
      replace hn31 := hn31.gr hm8
      replace hd31 := hd31.gr hm8
      replace hb5 := Blk.gr hb5 hm8
      clear hm8
      have F35 := Fit.div FA FB (by decide)
      refine L.v (R1.move rfl) rfl ?_
      refine L.v (R1.extract rfl rfl) rfl ?_
      refine L.v (R1.extract rfl rfl) rfl ?_
      refine L.alloc tyZ27 rfl ?_
      intro g6 w9 hN6
      replace ha := ha.new hN6
      replace ka := ka.new hN6
      replace hb := hb.new hN6
      replace kb := kb.new hN6
      replace hbd := hbd.new hN6
      have hge_g6 := New.ge hN6 hm0.size
      replace hm0 := hm0.trans (hN6.mod.mono (by simp))
      have hne_g2_g6 := hb2.ne_ hN6
      replace hb2 := Blk.gr hb2 hN6.mod
      have hne_g3_g6 := hb3.ne_ hN6
      replace hb3 := Blk.gr hb3 hN6.mod
      have hne_g10_g6 := hb10.ne_ hN6
      replace hb10 := Blk.gr hb10 hN6.mod
      replace hn31 := hn31.new hN6
      replace hd31 := hd31.new hN6
      have hne_g5_g6 := hb5.ne_ hN6
      replace hb5 := Blk.gr hb5 hN6.mod
      replace hn35 := hn35.new hN6
      replace hd35 := hd35.new hN6
      have hb6 := hN6.blk
      clear hN6
      refine L.storeBox rfl rfl hb6 rfl rfl tyG27 ?_
      intro w10 hb6' hm10
      replace ha := ha.mod hm10 (by simp)
      replace ka := ka.mod hm10 (by simp)
      replace hb := hb.mod hm10 (by simp)
      replace kb := kb.mod hm10 (by simp)
      replace hbd := hbd.gr hm10
      replace hm0 := hm0.old1 hm10 hge_g6
      replace hb2 := Blk.far hb2 hm10 (by first | exact hne_g2_g6 | exact (hne_g6_g2).symm)
      replace hb3 := Blk.far hb3 hm10 (by first | exact hne_g3_g6 | exact (hne_g6_g3).symm)
      replace hb10 := Blk.far hb10 hm10 (by first | exact hne_g10_g6 | exact (hne_g6_g10).symm)
      replace hn31 := hn31.mod hm10 (by simp)
      replace hd31 := hd31.mod hm10 (by simp)
      replace hb5 := Blk.far hb5 hm10 (by first | exact hne_g5_g6 | exact (hne_g6_g5).symm)
      replace hn35 := hn35.mod hm10 (by simp)
      replace hd35 := hd35.mod hm10 (by simp)
      clear hm10
      replace hb6 := hb6'; clear hb6'
      refine L.v (R1.assign rfl) rfl ?_
      refine L.nil ?_
      refine X.seq ?_
      refine W.seq ?_
      refine W.drawW (T := []) rfl (by decide +kernel) (NoHang.then NoHang.post) (fun w11 hm11 => ?_)
      replace ha := ha.gr hm11
      replace ka := ka.gr hm11
      replace hb := hb.gr hm11
      replace kb := kb.gr hm11
      replace hbd := hbd.gr hm11
      replace hm0 := hm0.trans hm11
      replace hb2 := Blk.gr hb2 hm11
      replace hb3 := Blk.gr hb3 hm11
      replace hb10 := Blk.gr hb10 hm11
      replace hn31 := hn31.gr hm11
      replace hd31 := hd31.gr hm11
      replace hb5 := Blk.gr hb5 hm11
      replace hn35 := hn35.gr hm11
      replace hd35 := hd35.gr hm11
      replace hb6 := Blk.gr hb6 hm11
      have hS1 : Mod [] w11 w11 := Mod.refl _ _
      clear hm11
      have hb2_s := hb2
      have hb3_s := hb3
      have hb10_s := hb10
      have hb5_s := hb5
      have hb6_s := hb6
      refine D.take 0 rfl (by decide +kernel) (fun w_ hS => (R1.loadBox rfl (Blk.gr hb2_s hS) tyG27)) hS1 rfl ?_
      refine D.take 1 rfl (by decide +kernel) (fun w_ hS => (R1.loadBox rfl (Blk.gr hb3_s hS) tyG27)) hS1 rfl ?_
      refine D.take 3 rfl (by decide +kernel) (fun w_ hS => (R1.loadBox rfl (Blk.gr hb3_s hS) tyG27)) hS1 rfl ?_
      refine D.take 5 rfl (by decide +kernel) (fun w_ hS => (R1.loadBox rfl (Blk.gr hb5_s hS) tyG27)) hS1 rfl ?_
      refine D.one 2 rfl (by decide +kernel) (fun hX => ?_)
      refine L.call rfl (c_rat_Add (qa := qa) (qb := qb) hqa hqb ha ka hb kb hbd (by omega) (by omega) (by omega) (by omega)) rfl ?_
      rintro _ w12 ⟨⟨A40, c40, B40, e40, rfl, hn40, hd40⟩, hm12⟩
      replace ha := ha.gr hm12
      replace ka := ka.gr hm12
      replace hb := hb.gr hm12
      replace kb := kb.gr hm12
      replace hbd := hbd.gr hm12
      replace hm0 := hm0.trans hm12
      replace hb2 := Blk.gr hb2 hm12
      replace hb3 := Blk.gr hb3 hm12
      replace hb10 := Blk.gr hb10 hm12
      replace hn31 := hn31.gr hm12
      replace hd31 := hd31.gr hm12
      replace hb5 := Blk.gr hb5 hm12
      replace hn35 := hn35.gr hm12
      replace hd35 := hd35.gr hm12
      replace hb6 := Blk.gr hb6 hm12
      replace hS1 := hS1.trans hm12
      clear hm12
      have F40 := Fit.add FA FB
      refine L.nil (hX _ _ ⟨.inr hS1, ?_⟩)
      refine D.one 4 rfl (by decide +kernel) (fun hX => ?_)
      refine L.call rfl (c_rat_Sub (qa := (qa + qb)) (qb := qb) (rv_toL _) hqb hn40 hd40 hb kb hbd (Nat.le_trans F40.1 (by decide)) (Nat.le_trans F40.2 (by decide)) (by omega) (by omega)) rfl ?_
      rintro _ w13 ⟨⟨A42, c42, B42, e42, rfl, hn42, hd42⟩, hm13⟩
      replace ha := ha.gr hm13
      replace ka := ka.gr hm13
      replace hb := hb.gr hm13
      replace kb := kb.gr hm13
      replace hbd := hbd.gr hm13
      replace hm0 := hm0.trans hm13
      replace hb2 := Blk.gr hb2 hm13
      replace hb3 := Blk.gr hb3 hm13
      replace hb10 := Blk.gr hb10 hm13
      replace hn31 := hn31.gr hm13
      replace hd31 := hd31.gr hm13
      replace hb5 := Blk.gr hb5 hm13
      replace hn35 := hn35.gr hm13
      replace hd35 := hd35.gr hm13
      replace hb6 := Blk.gr hb6 hm13
      replace hn40 := hn40.gr hm13
      replace hd40 := hd40.gr hm13
      replace hS1 := hS1.trans hm13
      clear hm13
      have F42 := Fit.sub F40 FB
      refine L.nil (hX _ _ ⟨.inr hS1, ?_⟩)
      refine D.one 6 rfl (by decide +kernel) (fun hX => ?_)
      refine L.call rfl (c_oneQ (RN.mk rfl hn42 hd42) ((RN.mk rfl hn31 hd31).eq ((add_sub _ _).symm))) rfl ?_
      rintro _ w14 ⟨rfl, hm14⟩
      replace ha := ha.gr hm14
      replace ka := ka.gr hm14
      replace hb := hb.gr hm14
      replace kb := kb.gr hm14
      replace hbd := hbd.gr hm14
      replace hm0 := hm0.trans hm14
      replace hb2 := Blk.gr hb2 hm14
      replace hb3 := Blk.gr hb3 hm14
      replace hb10 := Blk.gr hb10 hm14
      replace hn31 := hn31.gr hm14
      replace hd31 := hd31.gr hm14
      replace hb5 := Blk.gr hb5 hm14
      replace hn35 := hn35.gr hm14
      replace hd35 := hd35.gr hm14
      replace hb6 := Blk.gr hb6 hm14
      replace hn40 := hn40.gr hm14
      replace hd40 := hd40.gr hm14
      replace hn42 := hn42.gr hm14
      replace hd42 := hd42.gr hm14
      replace hS1 := hS1.trans hm14
      clear hm14
      refine L.nil (hX _ _ ⟨.inr hS1, ?_⟩)
      refine D.take 7 rfl (by decide +kernel) (fun w_ hS => (R1.move rfl)) hS1 rfl ?_
      refine D.takeOn 8 rfl rfl rfl rfl (by decide +kernel) (fun w_ hS => (R1.move rfl)) hS1 rfl ?_
      refine D.takeOn 9 rfl rfl rfl rfl (by decide +kernel) (fun w_ hS => (R1.loadBox rfl (Blk.gr hb3_s hS) tyG27)) hS1 rfl ?_
      refine D.one 10 rfl (by decide +kernel) (fun hX => ?_)
      refine L.callOn rfl rfl rfl rfl (c_ref2_Zero (q := qb) hqb hb kb hbd (by omega) (by omega)) rfl ?_
      rintro _ w15 ⟨rfl, hm15⟩
      replace ha := ha.gr hm15
      replace ka := ka.gr hm15
      replace hb := hb.gr hm15
      replace kb := kb.gr hm15
      replace hbd := hbd.gr hm15
      replace hm0 := hm0.trans hm15
      replace hb2 := Blk.gr hb2 hm15
      replace hb3 := Blk.gr hb3 hm15
      replace hb10 := Blk.gr hb10 hm15
      replace hn31 := hn31.gr hm15
      replace hd31 := hd31.gr hm15
      replace hb5 := Blk.gr hb5 hm15
      replace hn35 := hn35.gr hm15
      replace hd35 := hd35.gr hm15
      replace hb6 := Blk.gr hb6 hm15
      replace hn40 := hn40.gr hm15
      replace hd40 := hd40.gr hm15
      replace hn42 := hn42.gr hm15
      replace hd42 := hd42.gr hm15
      replace hS1 := hS1.trans hm15
      clear hm15
      refine L.nil (hX _ _ ⟨.inr hS1, ?_⟩)
      refine D.takeOn 11 rfl rfl rfl rfl (by decide +kernel) (fun w_ hS => (R1.not rfl)) hS1 rfl ?_
      refine D.takeOn 12 rfl rfl rfl rfl (by decide +kernel) (fun w_ hS => ((R1.eqB rfl rfl tyB4).asB (c := true) (by by_cases h9 : qb = 0 <;> simp [h9]))) hS1 rfl ?_
      refine D.take 13 rfl (by decide +kernel) (fun w_ hS => (R1.pickT rfl rfl)) hS1 rfl ?_
      refine D.take 14 rfl (by decide +kernel) (fun w_ hS => (R1.move rfl)) hS1 rfl ?_
      refine D.takeOn 15 rfl rfl rfl rfl (by decide +kernel) (fun w_ hS => (R1.move rfl)) hS1 rfl ?_
      refine D.takeOn 16 rfl rfl rfl rfl (by decide +kernel) (fun w_ hS => (R1.not rfl)) hS1 rfl ?_
      refine D.takeOn 17 rfl rfl rfl rfl (by decide +kernel) (fun w_ hS => (R1.move rfl)) hS1 rfl ?_
      cases hgd55 : (!(decide (qb ≠ 0)))
      ·
        have hcc_ := hgd55
        have hb0 : qb ≠ 0 := by simpa using hgd55
        refine D.takeOn 18 rfl rfl rfl rfl (by decide +kernel) (fun w_ hS => (R1.loadBox rfl (Blk.gr hb6_s hS) tyG27)) hS1 rfl ?_
        refine D.takeOn 19 rfl rfl rfl rfl (by decide +kernel) (fun w_ hS => (R1.loadBox rfl (Blk.gr hb3_s hS) tyG27)) hS1 rfl ?_
        refine D.takeOn 21 rfl rfl rfl rfl (by decide +kernel) (fun w_ hS => (R1.loadBox rfl (Blk.gr hb5_s hS) tyG27)) hS1 rfl ?_
        refine D.one 20 rfl (by decide +kernel) (fun hX => ?_)
        refine L.callOn rfl rfl rfl rfl (c_rat_Mul (qa := (qa / qb)) (qb := qb) (rv_toL _) hqb hn35 hd35 hb kb hbd (Nat.le_trans F35.1 (by decide)) (Nat.le_trans F35.2 (by decide)) (by omega) (by omega)) rfl ?_
        rintro _ w16 ⟨⟨A58, c58, B58, e58, rfl, hn58, hd58⟩, hm16⟩
        replace ha := ha.gr hm16
        replace ka := ka.gr hm16
        replace hb := hb.gr hm16
        replace kb := kb.gr hm16
        replace hbd := hbd.gr hm16
        replace hm0 := hm0.trans hm16
        replace hb2 := Blk.gr hb2 hm16
        replace hb3 := Blk.gr hb3 hm16
        replace hb10 := Blk.gr hb10 hm16
        replace hn31 := hn31.gr hm16
        replace hd31 := hd31.gr hm16
        replace hb5 := Blk.gr hb5 hm16
        replace hn35 := hn35.gr hm16
        replace hd35 := hd35.gr hm16
        replace hb6 := Blk.gr hb6 hm16
        replace hn40 := hn40.gr hm16
        replace hd40 := hd40.gr hm16
        replace hn42 := hn42.gr hm16
        replace hd42 := hd42.gr hm16
        replace hS1 := hS1.trans hm16
        clear hm16
        have F58 := Fit.mul F35 FB
        refine L.nil (hX _ _ ⟨.inr hS1, ?_⟩)
        refine D.one 22 rfl (by decide +kernel) (fun hX => ?_)
        refine L.callOn rfl rfl rfl rfl (c_oneQ (RN.mk rfl hn58 hd58) ((RN.mk rfl hn31 hd31).eq ((div_mul hb0).symm))) rfl ?_
        rintro _ w17 ⟨rfl, hm17⟩
        replace ha := ha.gr hm17
        replace ka := ka.gr hm17
        replace hb := hb.gr hm17
        replace kb := kb.gr hm17
        replace hbd := hbd.gr hm17
        replace hm0 := hm0.trans hm17
        replace hb2 := Blk.gr hb2 hm17
        replace hb3 := Blk.gr hb3 hm17
        replace hb10 := Blk.gr hb10 hm17
        replace hn31 := hn31.gr hm17
        replace hd31 := hd31.gr hm17
        replace hb5 := Blk.gr hb5 hm17
        replace hn35 := hn35.gr hm17
        replace hd35 := hd35.gr hm17
        replace hb6 := Blk.gr hb6 hm17
        replace hn40 := hn40.gr hm17
        replace hd40 := hd40.gr hm17
        replace hn42 := hn42.gr hm17
        replace hd42 := hd42.gr hm17
        replace hn58 := hn58.gr hm17
        replace hd58 := hd58.gr hm17
        replace hS1 := hS1.trans hm17
        clear hm17
        refine L.nil (hX _ _ ⟨.inr hS1, ?_⟩)
        refine D.takeOn 23 rfl rfl rfl rfl (by decide +kernel) (fun w_ hS => (R1.pickF rfl rfl)) hS1 rfl ?_
        refine D.take 24 rfl (by decide +kernel) (fun w_ hS => (R1.pickT rfl rfl)) hS1 rfl ?_
        refine D.take 25 rfl (by decide +kernel) (fun w_ hS => (R1.move rfl)) hS1 rfl ?_
        refine D.takeOn 26 rfl rfl rfl rfl (by decide +kernel) (fun w_ hS => (R1.loadBox rfl (Blk.gr hb2_s hS) tyG27)) hS1 rfl ?_
        refine D.takeOn 29 rfl rfl rfl rfl (by decide +kernel) (fun w_ hS => (R1.loadBox rfl (Blk.gr hb5_s hS) tyG27)) hS1 rfl ?_
        refine D.one 27 rfl (by decide +kernel) (fun hX => ?_)
        refine L.callOn rfl rfl rfl rfl (c_rat_Neg (q := qa) hqa ha ka hbd (by omega) (by omega)) rfl ?_
        rintro _ w18 ⟨⟨A65, c65, B65, e65, rfl, hn65, hd65⟩, hm18⟩
        replace ha := ha.gr hm18
        replace ka := ka.gr hm18
        replace hb := hb.gr hm18
        replace kb := kb.gr hm18
        replace hbd := hbd.gr hm18
        replace hm0 := hm0.trans hm18
        replace hb2 := Blk.gr hb2 hm18
        replace hb3 := Blk.gr hb3 hm18
        replace hb10 := Blk.gr hb10 hm18
        replace hn31 := hn31.gr hm18
        replace hd31 := hd31.gr hm18
        replace hb5 := Blk.gr hb5 hm18
        replace hn35 := hn35.gr hm18
        replace hd35 := hd35.gr hm18
        replace hb6 := Blk.gr hb6 hm18
        replace hn40 := hn40.gr hm18
        replace hd40 := hd40.gr hm18
        replace hn42 := hn42.gr hm18
        replace hd42 := hd42.gr hm18
        replace hn58 := hn58.gr hm18
        replace hd58 := hd58.gr hm18
        replace hS1 := hS1.trans hm18
        clear hm18
        have F65 := Fit.neg FA
        refine L.nil (hX _ _ ⟨.inr hS1, ?_⟩)
        refine D.one 28 rfl (by decide +kernel) (fun hX => ?_)
        refine L.callOn rfl rfl rfl rfl (c_rat_Neg (q := (-qa)) (rv_toL _) hn65 hd65 hbd (Nat.le_trans F65.1 (by decide)) (Nat.le_trans F65.2 (by decide))) rfl ?_
        rintro _ w19 ⟨⟨A66, c66, B66, e66, rfl, hn66, hd66⟩, hm19⟩
        replace ha := ha.gr hm19
        replace ka := ka.gr hm19
        replace hb := hb.gr hm19
        replace kb := kb.gr hm19
        replace hbd := hbd.gr hm19
        replace hm0 := hm0.trans hm19
        replace hb2 := Blk.gr hb2 hm19
        replace hb3 := Blk.gr hb3 hm19
        replace hb10 := Blk.gr hb10 hm19
        replace hn31 := hn31.gr hm19
        replace hd31 := hd31.gr hm19
        replace hb5 := Blk.gr hb5 hm19
        replace hn35 := hn35.gr hm19
        replace hd35 := hd35.gr hm19
        replace hb6 := Blk.gr hb6 hm19
        replace hn40 := hn40.gr hm19
        replace hd40 := hd40.gr hm19
        replace hn42 := hn42.gr hm19
        replace hd42 := hd42.gr hm19
        replace hn58 := hn58.gr hm19
        replace hd58 := hd58.gr hm19
        replace hn65 := hn65.gr hm19
        replace hd65 := hd65.gr hm19
        replace hS1 := hS1.trans hm19
        clear hm19
        have F66 := Fit.neg F65
        refine L.nil (hX _ _ ⟨.inr hS1, ?_⟩)
        refine D.one 30 rfl (by decide +kernel) (fun hX => ?_)
        refine L.callOn rfl rfl rfl rfl (c_oneQ (RN.mk rfl hn66 hd66) ((RN.mk rfl hn31 hd31).eq ((Rat.neg_neg _).symm))) rfl ?_
        rintro _ w20 ⟨rfl, hm20⟩
        replace ha := ha.gr hm20
        replace ka := ka.gr hm20
        replace hb := hb.gr hm20
        replace kb := kb.gr hm20
        replace hbd := hbd.gr hm20
        replace hm0 := hm0.trans hm20
        replace hb2 := Blk.gr hb2 hm20
        replace hb3 := Blk.gr hb3 hm20
        replace hb10 := Blk.gr hb10 hm20
        replace hn31 := hn31.gr hm20
        replace hd31 := hd31.gr hm20
        replace hb5 := Blk.gr hb5 hm20
        replace hn35 := hn35.gr hm20
        replace hd35 := hd35.gr hm20
        replace hb6 := Blk.gr hb6 hm20
        replace hn40 := hn40.gr hm20
        replace hd40 := hd40.gr hm20
        replace hn42 := hn42.gr hm20
        replace hd42 := hd42.gr hm20
        replace hn58 := hn58.gr hm20
        replace hd58 := hd58.gr hm20
        replace hn65 := hn65.gr hm20
        replace hd65 := hd65.gr hm20
        replace hn66 := hn66.gr hm20
        replace hd66 := hd66.gr hm20
        replace hS1 := hS1.trans hm20
        clear hm20
        refine L.nil (hX _ _ ⟨.inr hS1, ?_⟩)
        refine D.take 31 rfl (by decide +kernel) (fun w_ hS => (R1.pickT rfl rfl)) hS1 rfl ?_
        refine D.take 32 rfl (by decide +kernel) (fun w_ hS => (R1.move rfl)) hS1 rfl ?_
        refine D.one 33 rfl (by decide +kernel) (fun hX => ?_)
        refine L.callOn rfl rfl rfl rfl (c_known2) rfl ?_
        rintro _ w21 ⟨rfl, hm21⟩
        replace ha := ha.gr hm21
        replace ka := ka.gr hm21
        replace hb := hb.gr hm21
        replace kb := kb.gr hm21
        replace hbd := hbd.gr hm21
        replace hm0 := hm0.trans hm21
        replace hb2 := Blk.gr hb2 hm21
        replace hb3 := Blk.gr hb3 hm21
        replace hb10 := Blk.gr hb10 hm21
        replace hn31 := hn31.gr hm21
        replace hd31 := hd31.gr hm21
        replace hb5 := Blk.gr hb5 hm21
        replace hn35 := hn35.gr hm21
        replace hd35 := hd35.gr hm21
        replace hb6 := Blk.gr hb6 hm21
        replace hn40 := hn40.gr hm21
        replace hd40 := hd40.gr hm21
        replace hn42 := hn42.gr hm21
        replace hd42 := hd42.gr hm21
        replace hn58 := hn58.gr hm21
        replace hd58 := hd58.gr hm21
        replace hn65 := hn65.gr hm21
        replace hd65 := hd65.gr hm21
        replace hn66 := hn66.gr hm21
        replace hd66 := hd66.gr hm21
        replace hS1 := hS1.trans hm21
        clear hm21
        refine L.nil (hX _ _ ⟨.inr hS1, ?_⟩)
        refine D.take 34 rfl (by decide +kernel) (fun w_ hS => (R1.pickT rfl rfl)) hS1 rfl ?_
        refine D.take 35 rfl (by decide +kernel) (fun w_ hS => (R1.assign rfl)) hS1 rfl ?_
        refine D.done (by decide +kernel) ?_ _
        refine X.seq ?_
        refine W.ret ?_
        refine X.result1 rfl (.tmp rfl .nil) ?_
        exact ⟨rfl, hm0⟩
      ·
        have hcc_ := hgd55
        refine D.off 18 rfl rfl rfl rfl rfl (by decide +kernel) hS1 rfl ?_
        refine D.off 19 rfl rfl rfl rfl rfl (by decide +kernel) hS1 rfl ?_
        refine D.off 20 rfl rfl rfl rfl rfl (by decide +kernel) hS1 rfl ?_
        refine D.off 21 rfl rfl rfl rfl rfl (by decide +kernel) hS1 rfl ?_
        refine D.off 22 rfl rfl rfl rfl rfl (by decide +kernel) hS1 rfl ?_
        refine D.takeOn 23 rfl rfl rfl rfl (by decide +kernel) (fun w_ hS => (R1.pickT rfl rfl)) hS1 rfl ?_
        refine D.take 24 rfl (by decide +kernel) (fun w_ hS => (R1.pickT rfl rfl)) hS1 rfl ?_
        refine D.take 25 rfl (by decide +kernel) (fun w_ hS => (R1.move rfl)) hS1 rfl ?_
        refine D.takeOn 26 rfl rfl rfl rfl (by decide +kernel) (fun w_ hS => (R1.loadBox rfl (Blk.gr hb2_s hS) tyG27)) hS1 rfl ?_
        refine D.takeOn 29 rfl rfl rfl rfl (by decide +kernel) (fun w_ hS => (R1.loadBox rfl (Blk.gr hb5_s hS) tyG27)) hS1 rfl ?_
        refine D.one 27 rfl (by decide +kernel) (fun hX => ?_)
        refine L.callOn rfl rfl rfl rfl (c_rat_Neg (q := qa) hqa ha ka hbd (by omega) (by omega)) rfl ?_
        rintro _ w22 ⟨⟨A65, c65, B65, e65, rfl, hn65, hd65⟩, hm22⟩
        replace ha := ha.gr hm22
        replace ka := ka.gr hm22
        replace hb := hb.gr hm22
        replace kb := kb.gr hm22
        replace hbd := hbd.gr hm22
        replace hm0 := hm0.trans hm22
        replace hb2 := Blk.gr hb2 hm22
        replace hb3 := Blk.gr hb3 hm22
        replace hb10 := Blk.gr hb10 hm22
        replace hn31 := hn31.gr hm22
        replace hd31 := hd31.gr hm22
        replace hb5 := Blk.gr hb5 hm22
        replace hn35 := hn35.gr hm22
        replace hd35 := hd35.gr hm22
        replace hb6 := Blk.gr hb6 hm22
        replace hn40 := hn40.gr hm22
        replace hd40 := hd40.gr hm22
        replace hn42 := hn42.gr hm22
        replace hd42 := hd42.gr hm22
        replace hS1 := hS1.trans hm22
        clear hm22
        have F65 := Fit.neg FA
        refine L.nil (hX _ _ ⟨.inr hS1, ?_⟩)
        refine D.one 28 rfl (by decide +kernel) (fun hX => ?_)
        refine L.callOn rfl rfl rfl rfl (c_rat_Neg (q := (-qa)) (rv_toL _) hn65 hd65 hbd (Nat.le_trans F65.1 (by decide)) (Nat.le_trans F65.2 (by decide))) rfl ?_
        rintro _ w23 ⟨⟨A66, c66, B66, e66, rfl, hn66, hd66⟩, hm23⟩
        replace ha := ha.gr hm23
        replace ka := ka.gr hm23
        replace hb := hb.gr hm23
        replace kb := kb.gr hm23
        replace hbd := hbd.gr hm23
        replace hm0 := hm0.trans hm23
        replace hb2 := Blk.gr hb2 hm23
        replace hb3 := Blk.gr hb3 hm23
        replace hb10 := Blk.gr hb10 hm23
        replace hn31 := hn31.gr hm23
        replace hd31 := hd31.gr hm23
        replace hb5 := Blk.gr hb5 hm23
        replace hn35 := hn35.gr hm23
        replace hd35 := hd35.gr hm23
        replace hb6 := Blk.gr hb6 hm23
        replace hn40 := hn40.gr hm23
        replace hd40 := hd40.gr hm23
        replace hn42 := hn42.gr hm23
        replace hd42 := hd42.gr hm23
        replace hn65 := hn65.gr hm23
        replace hd65 := hd65.gr hm23
        replace hS1 := hS1.trans hm23
        clear hm23
        have F66 := Fit.neg F65
        refine L.nil (hX _ _ ⟨.inr hS1, ?_⟩)
        refine D.one 30 rfl (by decide +kernel) (fun hX => ?_)
        refine L.callOn rfl rfl rfl rfl (c_oneQ (RN.mk rfl hn66 hd66) ((RN.mk rfl hn31 hd31).eq ((Rat.neg_neg _).symm))) rfl ?_
        rintro _ w24 ⟨rfl, hm24⟩
        replace ha := ha.gr hm24
        replace ka := ka.gr hm24
        replace hb := hb.gr hm24
        replace kb := kb.gr hm24
        replace hbd := hbd.gr hm24
        replace hm0 := hm0.trans hm24
        replace hb2 := Blk.gr hb2 hm24
        replace hb3 := Blk.gr hb3 hm24
        replace hb10 := Blk.gr hb10 hm24
        replace hn31 := hn31.gr hm24
        replace hd31 := hd31.gr hm24
        replace hb5 := Blk.gr hb5 hm24
        replace hn35 := hn35.gr hm24
        replace hd35 := hd35.gr hm24
        replace hb6 := Blk.gr hb6 hm24
        replace hn40 := hn40.gr hm24
        replace hd40 := hd40.gr hm24
        replace hn42 := hn42.gr hm24
        replace hd42 := hd42.gr hm24
        replace hn65 := hn65.gr hm24
        replace hd65 := hd65.gr hm24
        replace hn66 := hn66.gr hm24
        replace hd66 := hd66.gr hm24
        replace hS1 := hS1.trans hm24
        clear hm24
        refine L.nil (hX _ _ ⟨.inr hS1, ?_⟩)
        refine D.take 31 rfl (by decide +kernel) (fun w_ hS => (R1.pickT rfl rfl)) hS1 rfl ?_
        refine D.take 32 rfl (by decide +kernel) (fun w_ hS => (R1.move rfl)) hS1 rfl ?_
        refine D.one 33 rfl (by decide +kernel) (fun hX => ?_)
        refine L.callOn rfl rfl rfl rfl (c_known2) rfl ?_
        rintro _ w25 ⟨rfl, hm25⟩
        replace ha := ha.gr hm25
        replace ka := ka.gr hm25
        replace hb := hb.gr hm25
        replace kb := kb.gr hm25
        replace hbd := hbd.gr hm25
        replace hm0 := hm0.trans hm25
        replace hb2 := Blk.gr hb2 hm25
        replace hb3 := Blk.gr hb3 hm25
        replace hb10 := Blk.gr hb10 hm25
        replace hn31 := hn31.gr hm25
        replace hd31 := hd31.gr hm25
        replace hb5 := Blk.gr hb5 hm25
        replace hn35 := hn35.gr hm25
        replace hd35 := hd35.gr hm25
        replace hb6 := Blk.gr hb6 hm25
        replace hn40 := hn40.gr hm25
        replace hd40 := hd40.gr hm25
        replace hn42 := hn42.gr hm25
        replace hd42 := hd42.gr hm25
        replace hn65 := hn65.gr hm25
        replace hd65 := hd65.gr hm25
        replace hn66 := hn66.gr hm25
        replace hd66 := hd66.gr hm25
        replace hS1 := hS1.trans hm25
        clear hm25
        refine L.nil (hX _ _ ⟨.inr hS1, ?_⟩)
        refine D.take 34 rfl (by decide +kernel) (fun w_ hS => (R1.pickT rfl rfl)) hS1 rfl ?_
        refine D.take 35 rfl (by decide +kernel) (fun w_ hS => (R1.assign rfl)) hS1 rfl ?_
        refine D.done (by decide +kernel) ?_ _
        refine X.seq ?_
        refine W.ret ?_
        refine X.result1 rfl (.tmp rfl .nil) ?_
        exact ⟨rfl, hm0⟩
  ·
    have hcc_ := hgd12
    refine L.off rfl rfl rfl rfl rfl ?_
    refine L.off rfl rfl rfl rfl rfl ?_
    refine L.off rfl rfl rfl rfl rfl ?_
    refine L.off rfl rfl rfl rfl rfl ?_
    refine L.off rfl rfl rfl rfl rfl ?_
    refine L.off rfl rfl rfl rfl rfl ?_
    refine L.off rfl rfl rfl rfl rfl ?_
    refine L.off rfl rfl rfl rfl rfl ?_
    refine L.off rfl rfl rfl rfl rfl ?_
    refine L.off rfl rfl rfl rfl rfl ?_
    refine L.off rfl rfl rfl rfl rfl ?_
    refine L.off rfl rfl rfl rfl rfl ?_
    refine L.off rfl rfl rfl rfl rfl ?_
    refine L.off rfl rfl rfl rfl rfl ?_
    refine L.off rfl rfl rfl rfl rfl ?_
    refine L.off rfl rfl rfl rfl rfl ?_
    refine L.v (R1.pickT rfl rfl) rfl ?_
    refine L.nil ?_
    refine X.seq ?_
    refine W.condT rfl ?_
    refine W.seq ?_
    refine W.region ?_
    refine L.v (R1.assign rfl) rfl ?_
    refine L.nil ?_
    refine X.seq ?_
    refine W.ret ?_
    refine X.thenRet ?_
    refine X.result1 rfl (.tmp rfl .nil) ?_
    exact ⟨rfl, hm0⟩

end Go.Proofs.Ytjeodekhamdcmaa
