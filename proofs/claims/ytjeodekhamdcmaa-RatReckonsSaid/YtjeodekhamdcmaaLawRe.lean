/- Walks: what the functions compute. -/
import Derived.Test.YtjeodekhamdcmaaLawB
import Derived.Test.YtjeodekhamdcmaaRatI
namespace Go.Proofs.Ytjeodekhamdcmaa
open Go.RowKit
set_option linter.unusedVariables false
set_option linter.unusedSimpArgs false
set_option maxRecDepth 10000
theorem c_RatReckons {M : List Nat} {w : World} {sa : Bool} {an ad : Value} {xa ya : List Nat} {qa : Rat} {sb : Bool} {bn bd : Value} {xb yb : List Nat} {qb : Rat} (hqa : rv sa (val xa) (val ya) = qa) (ha : U32 M w an xa) (ka : U32 M w ad ya) (hqb : rv sb (val xb) (val yb) = qb) (hb : U32 M w bn xb) (kb : U32 M w bd yb) (hbd : Bd M w) (la : xa.length ≤ 140737488355328) (ma : ya.length ≤ 140737488355328) (lb : xb.length ≤ 140737488355328) (mb : yb.length ≤ 140737488355328) :
    Ret Try.prog 16 #[.agg #[.bool sa, an, ad], .agg #[.bool sb, bn, bd]] w (fun r w' => r = .bool true ∧ Mod [] w w') := by
  obtain ⟨Aa, ca, rfl⟩ := ha.form
  obtain ⟨Ba, da, rfl⟩ := ka.form
  obtain ⟨Ab, cb, rfl⟩ := hb.form
  obtain ⟨Bb, db, rfl⟩ := kb.form
  refine Ret.of (vs := [.agg #[.bool sa, .slice Aa xa.length ca, .slice Ba ya.length da], .agg #[.bool sb, .slice Ab xb.length cb, .slice Bb yb.length db]]) (n := 81) Try.func16 rfl rfl rfl rfl ?_
  have hm0 : Mod [] w w := Mod.refl _ _
  refine W.seq ?_
  refine W.region ?_
  refine L.box rfl rfl ?_
  intro g2 w1 hN2
  replace ha := ha.new hN2
  replace ka := ka.new hN2
  replace hb := hb.new hN2
  replace kb := kb.new hN2
  replace hbd := hbd.new hN2
  have hge_g2 := New.ge hN2 hm0.size
  replace hm0 := hm0.trans (hN2.mod.mono (by simp))
  have hb2 := hN2.blk
  clear hN2
  refine L.box rfl rfl ?_
  intro g3 w2 hN3
  replace ha := ha.new hN3
  replace ka := ka.new hN3
  replace hb := hb.new hN3
  replace kb := kb.new hN3
  replace hbd := hbd.new hN3
  have hge_g3 := New.ge hN3 hm0.size
  replace hm0 := hm0.trans (hN3.mod.mono (by simp))
  have hne_g2_g3 := hb2.ne_ hN3
  replace hb2 := Blk.gr hb2 hN3.mod
  have hb3 := hN3.blk
  clear hN3
  refine L.v (R1.assign rfl) rfl ?_
  refine L.nil ?_
  refine X.seq ?_
  refine W.seq ?_
  refine W.seq ?_
  refine W.region ?_
  refine L.v (R1.loadBox rfl hb2 tyG27) rfl ?_
  refine L.v (R1.loadBox rfl hb3 tyG27) rfl ?_
  refine L.buildSlice (cells := [.bool sa, .slice Aa xa.length ca, .slice Ba ya.length da, .bool sb, .slice Ab xb.length cb, .slice Bb yb.length db]) rfl tyS63 tyZ27 (fillQ2 _ _ _ _ _ _ _ _ _ _ _ _ _ _) (by decide) (by decide) rfl ?_
  intro g11 w3 hN11
  replace ha := ha.new hN11
  replace ka := ka.new hN11
  replace hb := hb.new hN11
  replace kb := kb.new hN11
  replace hbd := hbd.new hN11
  have hge_g11 := New.ge hN11 hm0.size
  replace hm0 := hm0.trans (hN11.mod.mono (by simp))
  have hne_g2_g11 := hb2.ne_ hN11
  replace hb2 := Blk.gr hb2 hN11.mod
  have hne_g3_g11 := hb3.ne_ hN11
  replace hb3 := Blk.gr hb3 hN11.mod
  have hb11 := hN11.blk
  clear hN11
  have hr9 : ∀ i, i < 2 → ∃ A c B d, (#[.bool sa, .slice Aa xa.length ca, .slice Ba ya.length da, .bool sb, .slice Ab xb.length cb, .slice Bb yb.length db] : Array Value)[i * 3 + 1]? = some (.slice A ((fun i => [xa.length, xb.length].getD i 0) i) c) ∧ (#[.bool sa, .slice Aa xa.length ca, .slice Ba ya.length da, .bool sb, .slice Ab xb.length cb, .slice Bb yb.length db] : Array Value)[i * 3 + 2]? = some (.slice B ((fun i => [ya.length, yb.length].getD i 0) i) d) := fun i hi => by
      match i, hi with
      | 0, _ => exact ⟨_, _, _, _, rfl, rfl⟩
      | 1, _ => exact ⟨_, _, _, _, rfl, rfl⟩
  have hl9 : ∀ i, i < 2 → (fun i => [xa.length, xb.length].getD i 0) i ≤ 140737488355328 ∧ (fun i => [ya.length, yb.length].getD i 0) i ≤ 140737488355328 := fun i hi => by
      match i, hi with
      | 0, _ => exact ⟨la, ma⟩
      | 1, _ => exact ⟨lb, mb⟩
  refine L.call rfl (c_big (ln := (fun i => [xa.length, xb.length].getD i 0)) (ld := (fun i => [ya.length, yb.length].getD i 0)) hb11 hr9 hl9 (by decide)) rfl ?_
  rintro _ w4 ⟨b12, rfl, hbig, hm4⟩
  replace ha := ha.gr hm4
  replace ka := ka.gr hm4
  replace hb := hb.gr hm4
  replace kb := kb.gr hm4
  replace hbd := hbd.gr hm4
  replace hm0 := hm0.trans hm4
  replace hb2 := Blk.gr hb2 hm4
  replace hb3 := Blk.gr hb3 hm4
  replace hb11 := Blk.gr hb11 hm4
  clear hm4
  refine L.nil ?_
  refine X.seq ?_
  refine W.cond rfl ?_ ?_
  ·
    intro hc12
    have hcc_ := hc12
    refine W.seq ?_
    refine W.region ?_
    refine L.v (R1.assign rfl) rfl ?_
    refine L.nil ?_
    refine X.seq ?_
    refine W.ret ?_
    refine X.thenRet ?_
    refine X.result1 rfl (.tmp rfl .nil) ?_
    exact ⟨rfl, hm0⟩
  ·
    intro hc12
    have hcc_ := hc12
    have za := hbig hc12 0 (by decide)
    change xa.length ≤ 16 ∧ ya.length ≤ 16 at za
    have FA : Fit qa 17 := Fit.rv hqa ha.2 ka.2 za.1 za.2
    have zb := hbig hc12 1 (by decide)
    change xb.length ≤ 16 ∧ yb.length ≤ 16 at zb
    have FB : Fit qb 17 := Fit.rv hqb hb.2 kb.2 zb.1 zb.2
    refine W.skip ?_
    refine X.seq ?_
    refine W.seq ?_
    refine W.region ?_
    refine L.v (R1.loadBox rfl hb2 tyG27) rfl ?_
    refine L.v (R1.loadBox rfl hb3 tyG27) rfl ?_
    refine L.call rfl (c_rat_Div (qa := qa) (qb := qb) hqa hqb ha ka hb kb hbd (by omega) (by omega) (by omega) (by omega)) rfl ?_
    rintro _ w5 ⟨v16, rfl, ⟨A16, c16, B16, e16, rfl, hn16, hd16⟩, hm5⟩
    replace ha := ha.gr hm5
    replace ka := ka.gr hm5
    replace hb := hb.gr hm5
    replace kb := kb.gr hm5
    replace hbd := hbd.gr hm5
    replace hm0 := hm0.trans hm5
    replace hb2 := Blk.gr hb2 hm5
    replace hb3 := Blk.gr hb3 hm5
    replace hb11 := Blk.gr hb11 hm5
    clear hm5
    have F16 := Fit.div FA FB (by decide)
    refine L.v (R1.move rfl) rfl ?_
    refine L.v (R1.extract rfl rfl) rfl ?_
    refine L.v (R1.extract rfl rfl) rfl ?_
    refine L.alloc tyZ27 rfl ?_
    intro g5 w6 hN5
    replace ha := ha.new hN5
    replace ka := ka.new hN5
    replace hb := hb.new hN5
    replace kb := kb.new hN5
    replace hbd := hbd.new hN5
    have hge_g5 := New.ge hN5 hm0.size
    replace hm0 := hm0.trans (hN5.mod.mono (by simp))
    have hne_g2_g5 := hb2.ne_ hN5
    replace hb2 := Blk.gr hb2 hN5.mod
    have hne_g3_g5 := hb3.ne_ hN5
    replace hb3 := Blk.gr hb3 hN5.mod
    have hne_g11_g5 := hb11.ne_ hN5
    replace hb11 := Blk.gr hb11 hN5.mod
    replace hn16 := hn16.new hN5
    replace hd16 := hd16.new hN5
    have hb5 := hN5.blk
    clear hN5
    refine L.storeBox rfl rfl hb5 rfl rfl tyG27 ?_
    intro w7 hb5' hm7
    replace ha := ha.mod hm7 (by simp)
    replace ka := ka.mod hm7 (by simp)
    replace hb := hb.mod hm7 (by simp)
    replace kb := kb.mod hm7 (by simp)
    replace hbd := hbd.gr hm7
    replace hm0 := hm0.old1 hm7 hge_g5
    replace hb2 := Blk.far hb2 hm7 (by first | exact hne_g2_g5 | exact (hne_g5_g2).symm)
    replace hb3 := Blk.far hb3 hm7 (by first | exact hne_g3_g5 | exact (hne_g5_g3).symm)
    replace hb11 := Blk.far hb11 hm7 (by first | exact hne_g11_g5 | exact (hne_g5_g11).symm)
    replace hn16 := hn16.mod hm7 (by simp)
    replace hd16 := hd16.mod hm7 (by simp)
    clear hm7
    replace hb5 := hb5'; clear hb5'
    refine L.v (R1.assign rfl) rfl ?_
    refine L.nil ?_
    refine X.seq ?_
    refine W.seq ?_
    refine W.region ?_
    refine L.v (R1.loadBox rfl hb2 tyG27) rfl ?_
    refine L.v (R1.loadBox rfl hb3 tyG27) rfl ?_
    refine L.call rfl (c_ref2_Div (qa := qa) (qb := qb) hqa hqb ha ka hb kb hbd (by omega) (by omega) (by omega) (by omega)) rfl ?_
    rintro _ w8 ⟨v22, rfl, ⟨A22, c22, B22, e22, rfl, hn22, hd22⟩, hm8⟩
    replace ha := ha.gr hm8
    replace ka := ka.gr hm8
    replace hb := hb.gr hm8
    replace kb := kb.gr hm8
    replace hbd := hbd.gr hm8
    replace hm0 := hm0.trans hm8
    replace hb2 := Blk.gr hb2 hm8
    replace hb3 := Blk.gr hb3 hm8
    replace hb11 := Blk.gr hb11 hm8
    replace hn16 := hn16.gr hm8
    replace hd16 := hd16.gr hm8
    replace hb5 := Blk.gr hb5 hm8
    clear hm8
    have F22 := Fit.div FA FB (by decide)
    refine L.v (R1.move rfl) rfl ?_
    refine L.v (R1.extract rfl rfl) rfl ?_
    refine L.v (R1.extract rfl rfl) rfl ?_
    refine L.alloc tyZ27 rfl ?_
    intro g7 w9 hN7
    replace ha := ha.new hN7
    replace ka := ka.new hN7
    replace hb := hb.new hN7
    replace kb := kb.new hN7
    replace hbd := hbd.new hN7
    have hge_g7 := New.ge hN7 hm0.size
    replace hm0 := hm0.trans (hN7.mod.mono (by simp))
    have hne_g2_g7 := hb2.ne_ hN7
    replace hb2 := Blk.gr hb2 hN7.mod
    have hne_g3_g7 := hb3.ne_ hN7
    replace hb3 := Blk.gr hb3 hN7.mod
    have hne_g11_g7 := hb11.ne_ hN7
    replace hb11 := Blk.gr hb11 hN7.mod
    replace hn16 := hn16.new hN7
    replace hd16 := hd16.new hN7
    have hne_g5_g7 := hb5.ne_ hN7
    replace hb5 := Blk.gr hb5 hN7.mod
    replace hn22 := hn22.new hN7
    replace hd22 := hd22.new hN7
    have hb7 := hN7.blk
    clear hN7
    refine L.storeBox rfl rfl hb7 rfl rfl tyG27 ?_
    intro w10 hb7' hm10
    replace ha := ha.mod hm10 (by simp)
    replace ka := ka.mod hm10 (by simp)
    replace hb := hb.mod hm10 (by simp)
    replace kb := kb.mod hm10 (by simp)
    replace hbd := hbd.gr hm10
    replace hm0 := hm0.old1 hm10 hge_g7
    replace hb2 := Blk.far hb2 hm10 (by first | exact hne_g2_g7 | exact (hne_g7_g2).symm)
    replace hb3 := Blk.far hb3 hm10 (by first | exact hne_g3_g7 | exact (hne_g7_g3).symm)
    replace hb11 := Blk.far hb11 hm10 (by first | exact hne_g11_g7 | exact (hne_g7_g11).symm)
    replace hn16 := hn16.mod hm10 (by simp)
    replace hd16 := hd16.mod hm10 (by simp)
    replace hb5 := Blk.far hb5 hm10 (by first | exact hne_g5_g7 | exact (hne_g7_g5).symm)
    replace hn22 := hn22.mod hm10 (by simp)
    replace hd22 := hd22.mod hm10 (by simp)
    clear hm10
    replace hb7 := hb7'; clear hb7'
    refine L.v (R1.assign rfl) rfl ?_
    refine L.nil ?_
    refine X.seq ?_
    refine W.seq ?_
    refine W.drawW (T := []) rfl (by decide +kernel) (NoHang.then NoHang.post) (fun w11 hm11 => ?_)
    replace ha := ha.gr hm11
    replace ka := ka.gr hm11
    replace hb := hb.gr hm11
    replace kb := kb.gr hm11
    replace hbd := hbd.gr hm11
    replace hm0 := hm0.trans hm11
    replace hb2 := Blk.gr hb2 hm11
    replace hb3 := Blk.gr hb3 hm11
    replace hb11 := Blk.gr hb11 hm11
    replace hn16 := hn16.gr hm11
    replace hd16 := hd16.gr hm11
    replace hb5 := Blk.gr hb5 hm11
    replace hn22 := hn22.gr hm11
    replace hd22 := hd22.gr hm11
    replace hb7 := Blk.gr hb7 hm11
    have hS1 : Mod [] w11 w11 := Mod.refl _ _
    clear hm11
    have hb2_s := hb2
    have hb3_s := hb3
    have hb11_s := hb11
    have hb5_s := hb5
    have hb7_s := hb7
    refine D.take 0 rfl (by decide +kernel) (fun w_ hS => (R1.loadBox rfl (Blk.gr hb2_s hS) tyG27)) hS1 rfl ?_
    refine D.take 1 rfl (by decide +kernel) (fun w_ hS => (R1.loadBox rfl (Blk.gr hb3_s hS) tyG27)) hS1 rfl ?_
    refine D.take 3 rfl (by decide +kernel) (fun w_ hS => (R1.loadBox rfl (Blk.gr hb2_s hS) tyG27)) hS1 rfl ?_
    refine D.take 4 rfl (by decide +kernel) (fun w_ hS => (R1.loadBox rfl (Blk.gr hb3_s hS) tyG27)) hS1 rfl ?_
    refine D.one 2 rfl (by decide +kernel) (fun hX => ?_)
    refine L.call rfl (c_rat_Add (qa := qa) (qb := qb) hqa hqb ha ka hb kb hbd (by omega) (by omega) (by omega) (by omega)) rfl ?_
    rintro _ w12 ⟨⟨A27, c27, B27, e27, rfl, hn27, hd27⟩, hm12⟩
    replace ha := ha.gr hm12
    replace ka := ka.gr hm12
    replace hb := hb.gr hm12
    replace kb := kb.gr hm12
    replace hbd := hbd.gr hm12
    replace hm0 := hm0.trans hm12
    replace hb2 := Blk.gr hb2 hm12
    replace hb3 := Blk.gr hb3 hm12
    replace hb11 := Blk.gr hb11 hm12
    replace hn16 := hn16.gr hm12
    replace hd16 := hd16.gr hm12
    replace hb5 := Blk.gr hb5 hm12
    replace hn22 := hn22.gr hm12
    replace hd22 := hd22.gr hm12
    replace hb7 := Blk.gr hb7 hm12
    replace hS1 := hS1.trans hm12
    clear hm12
    have F27 := Fit.add FA FB
    refine L.nil (hX _ _ ⟨.inr hS1, ?_⟩)
    refine D.one 5 rfl (by decide +kernel) (fun hX => ?_)
    refine L.call rfl (c_ref2_Add (qa := qa) (qb := qb) hqa hqb ha ka hb kb hbd (by omega) (by omega) (by omega) (by omega)) rfl ?_
    rintro _ w13 ⟨⟨A30, c30, B30, e30, rfl, hn30, hd30⟩, hm13⟩
    replace ha := ha.gr hm13
    replace ka := ka.gr hm13
    replace hb := hb.gr hm13
    replace kb := kb.gr hm13
    replace hbd := hbd.gr hm13
    replace hm0 := hm0.trans hm13
    replace hb2 := Blk.gr hb2 hm13
    replace hb3 := Blk.gr hb3 hm13
    replace hb11 := Blk.gr hb11 hm13
    replace hn16 := hn16.gr hm13
    replace hd16 := hd16.gr hm13
    replace hb5 := Blk.gr hb5 hm13
    replace hn22 := hn22.gr hm13
    replace hd22 := hd22.gr hm13
    replace hb7 := Blk.gr hb7 hm13
    replace hn27 := hn27.gr hm13
    replace hd27 := hd27.gr hm13
    replace hS1 := hS1.trans hm13
    clear hm13
    have F30 := Fit.add FA FB
    refine L.nil (hX _ _ ⟨.inr hS1, ?_⟩)
    refine D.one 6 rfl (by decide +kernel) (fun hX => ?_)
    refine L.call rfl (c_oneQ (RN.mk rfl hn27 hd27) ((RN.mk rfl hn30 hd30).eq (rfl))) rfl ?_
    rintro _ w14 ⟨rfl, hm14⟩
    replace ha := ha.gr hm14
    replace ka := ka.gr hm14
    replace hb := hb.gr hm14
    replace kb := kb.gr hm14
    replace hbd := hbd.gr hm14
    replace hm0 := hm0.trans hm14
    replace hb2 := Blk.gr hb2 hm14
    replace hb3 := Blk.gr hb3 hm14
    replace hb11 := Blk.gr hb11 hm14
    replace hn16 := hn16.gr hm14
    replace hd16 := hd16.gr hm14
    replace hb5 := Blk.gr hb5 hm14
    replace hn22 := hn22.gr hm14
    replace hd22 := hd22.gr hm14
    replace hb7 := Blk.gr hb7 hm14
    replace hn27 := hn27.gr hm14
    replace hd27 := hd27.gr hm14
    replace hn30 := hn30.gr hm14
    replace hd30 := hd30.gr hm14
    replace hS1 := hS1.trans hm14
    clear hm14
    refine L.nil (hX _ _ ⟨.inr hS1, ?_⟩)
    refine D.take 7 rfl (by decide +kernel) (fun w_ hS => (R1.move rfl)) hS1 rfl ?_
    refine D.takeOn 8 rfl rfl rfl rfl (by decide +kernel) (fun w_ hS => (R1.loadBox rfl (Blk.gr hb2_s hS) tyG27)) hS1 rfl ?_
    refine D.takeOn 9 rfl rfl rfl rfl (by decide +kernel) (fun w_ hS => (R1.loadBox rfl (Blk.gr hb3_s hS) tyG27)) hS1 rfl ?_
    refine D.takeOn 11 rfl rfl rfl rfl (by decide +kernel) (fun w_ hS => (R1.loadBox rfl (Blk.gr hb2_s hS) tyG27)) hS1 rfl ?_
    refine D.takeOn 12 rfl rfl rfl rfl (by decide +kernel) (fun w_ hS => (R1.loadBox rfl (Blk.gr hb3_s hS) tyG27)) hS1 rfl ?_
    refine D.one 10 rfl (by decide +kernel) (fun hX => ?_)
    refine L.callOn rfl rfl rfl rfl (c_rat_Sub (qa := qa) (qb := qb) hqa hqb ha ka hb kb hbd (by omega) (by omega) (by omega) (by omega)) rfl ?_
    rintro _ w15 ⟨⟨A35, c35, B35, e35, rfl, hn35, hd35⟩, hm15⟩
    replace ha := ha.gr hm15
    replace ka := ka.gr hm15
    replace hb := hb.gr hm15
    replace kb := kb.gr hm15
    replace hbd := hbd.gr hm15
    replace hm0 := hm0.trans hm15
    replace hb2 := Blk.gr hb2 hm15
    replace hb3 := Blk.gr hb3 hm15
    replace hb11 := Blk.gr hb11 hm15
    replace hn16 := hn16.gr hm15
    replace hd16 := hd16.gr hm15
    replace hb5 := Blk.gr hb5 hm15
    replace hn22 := hn22.gr hm15
    replace hd22 := hd22.gr hm15
    replace hb7 := Blk.gr hb7 hm15
    replace hn27 := hn27.gr hm15
    replace hd27 := hd27.gr hm15
    replace hn30 := hn30.gr hm15
    replace hd30 := hd30.gr hm15
    replace hS1 := hS1.trans hm15
    clear hm15
    have F35 := Fit.sub FA FB
    refine L.nil (hX _ _ ⟨.inr hS1, ?_⟩)
    refine D.one 13 rfl (by decide +kernel) (fun hX => ?_)
    refine L.callOn rfl rfl rfl rfl (c_ref2_Sub (qa := qa) (qb := qb) hqa hqb ha ka hb kb hbd (by omega) (by omega) (by omega) (by omega)) rfl ?_
    rintro _ w16 ⟨⟨A38, c38, B38, e38, rfl, hn38, hd38⟩, hm16⟩
    replace ha := ha.gr hm16
    replace ka := ka.gr hm16
    replace hb := hb.gr hm16
    replace kb := kb.gr hm16
    replace hbd := hbd.gr hm16
    replace hm0 := hm0.trans hm16
    replace hb2 := Blk.gr hb2 hm16
    replace hb3 := Blk.gr hb3 hm16
    replace hb11 := Blk.gr hb11 hm16
    replace hn16 := hn16.gr hm16
    replace hd16 := hd16.gr hm16
    replace hb5 := Blk.gr hb5 hm16
    replace hn22 := hn22.gr hm16
    replace hd22 := hd22.gr hm16
    replace hb7 := Blk.gr hb7 hm16
    replace hn27 := hn27.gr hm16
    replace hd27 := hd27.gr hm16
    replace hn30 := hn30.gr hm16
    replace hd30 := hd30.gr hm16
    replace hn35 := hn35.gr hm16
    replace hd35 := hd35.gr hm16
    replace hS1 := hS1.trans hm16
    clear hm16
    have F38 := Fit.sub FA FB
    refine L.nil (hX _ _ ⟨.inr hS1, ?_⟩)
    refine D.one 14 rfl (by decide +kernel) (fun hX => ?_)
    refine L.callOn rfl rfl rfl rfl (c_oneQ (RN.mk rfl hn35 hd35) ((RN.mk rfl hn38 hd38).eq (rfl))) rfl ?_
    rintro _ w17 ⟨rfl, hm17⟩
    replace ha := ha.gr hm17
    replace ka := ka.gr hm17
    replace hb := hb.gr hm17
    replace kb := kb.gr hm17
    replace hbd := hbd.gr hm17
    replace hm0 := hm0.trans hm17
    replace hb2 := Blk.gr hb2 hm17
    replace hb3 := Blk.gr hb3 hm17
    replace hb11 := Blk.gr hb11 hm17
    replace hn16 := hn16.gr hm17
    replace hd16 := hd16.gr hm17
    replace hb5 := Blk.gr hb5 hm17
    replace hn22 := hn22.gr hm17
    replace hd22 := hd22.gr hm17
    replace hb7 := Blk.gr hb7 hm17
    replace hn27 := hn27.gr hm17
    replace hd27 := hd27.gr hm17
    replace hn30 := hn30.gr hm17
    replace hd30 := hd30.gr hm17
    replace hn35 := hn35.gr hm17
    replace hd35 := hd35.gr hm17
    replace hn38 := hn38.gr hm17
    replace hd38 := hd38.gr hm17
    replace hS1 := hS1.trans hm17
    clear hm17
    refine L.nil (hX _ _ ⟨.inr hS1, ?_⟩)
    refine D.take 15 rfl (by decide +kernel) (fun w_ hS => (R1.pickT rfl rfl)) hS1 rfl ?_
    refine D.take 16 rfl (by decide +kernel) (fun w_ hS => (R1.move rfl)) hS1 rfl ?_
    refine D.takeOn 17 rfl rfl rfl rfl (by decide +kernel) (fun w_ hS => (R1.loadBox rfl (Blk.gr hb2_s hS) tyG27)) hS1 rfl ?_
    refine D.takeOn 18 rfl rfl rfl rfl (by decide +kernel) (fun w_ hS => (R1.loadBox rfl (Blk.gr hb3_s hS) tyG27)) hS1 rfl ?_
    refine D.takeOn 20 rfl rfl rfl rfl (by decide +kernel) (fun w_ hS => (R1.loadBox rfl (Blk.gr hb2_s hS) tyG27)) hS1 rfl ?_
    refine D.takeOn 21 rfl rfl rfl rfl (by decide +kernel) (fun w_ hS => (R1.loadBox rfl (Blk.gr hb3_s hS) tyG27)) hS1 rfl ?_
    refine D.one 19 rfl (by decide +kernel) (fun hX => ?_)
    refine L.callOn rfl rfl rfl rfl (c_rat_Mul (qa := qa) (qb := qb) hqa hqb ha ka hb kb hbd (by omega) (by omega) (by omega) (by omega)) rfl ?_
    rintro _ w18 ⟨⟨A44, c44, B44, e44, rfl, hn44, hd44⟩, hm18⟩
    replace ha := ha.gr hm18
    replace ka := ka.gr hm18
    replace hb := hb.gr hm18
    replace kb := kb.gr hm18
    replace hbd := hbd.gr hm18
    replace hm0 := hm0.trans hm18
    replace hb2 := Blk.gr hb2 hm18
    replace hb3 := Blk.gr hb3 hm18
    replace hb11 := Blk.gr hb11 hm18
    replace hn16 := hn16.gr hm18
    replace hd16 := hd16.gr hm18
    replace hb5 := Blk.gr hb5 hm18
    replace hn22 := hn22.gr hm18
    replace hd22 := hd22.gr hm18
    replace hb7 := Blk.gr hb7 hm18
    replace hn27 := hn27.gr hm18
    replace hd27 := hd27.gr hm18
    replace hn30 := hn30.gr hm18
    replace hd30 := hd30.gr hm18
    replace hn35 := hn35.gr hm18
    replace hd35 := hd35.gr hm18
    replace hn38 := hn38.gr hm18
    replace hd38 := hd38.gr hm18
    replace hS1 := hS1.trans hm18
    clear hm18
    have F44 := Fit.mul FA FB
    refine L.nil (hX _ _ ⟨.inr hS1, ?_⟩)
    refine D.one 22 rfl (by decide +kernel) (fun hX => ?_)
    refine L.callOn rfl rfl rfl rfl (c_ref2_Mul (qa := qa) (qb := qb) hqa hqb ha ka hb kb hbd (by omega) (by omega) (by omega) (by omega)) rfl ?_
    rintro _ w19 ⟨⟨A47, c47, B47, e47, rfl, hn47, hd47⟩, hm19⟩
    replace ha := ha.gr hm19
    replace ka := ka.gr hm19
    replace hb := hb.gr hm19
    replace kb := kb.gr hm19
    replace hbd := hbd.gr hm19
    replace hm0 := hm0.trans hm19
    replace hb2 := Blk.gr hb2 hm19
    replace hb3 := Blk.gr hb3 hm19
    replace hb11 := Blk.gr hb11 hm19
    replace hn16 := hn16.gr hm19
    replace hd16 := hd16.gr hm19
    replace hb5 := Blk.gr hb5 hm19
    replace hn22 := hn22.gr hm19
    replace hd22 := hd22.gr hm19
    replace hb7 := Blk.gr hb7 hm19
    replace hn27 := hn27.gr hm19
    replace hd27 := hd27.gr hm19
    replace hn30 := hn30.gr hm19
    replace hd30 := hd30.gr hm19
    replace hn35 := hn35.gr hm19
    replace hd35 := hd35.gr hm19
    replace hn38 := hn38.gr hm19
    replace hd38 := hd38.gr hm19
    replace hn44 := hn44.gr hm19
    replace hd44 := hd44.gr hm19
    replace hS1 := hS1.trans hm19
    clear hm19
    have F47 := Fit.mul FA FB
    refine L.nil (hX _ _ ⟨.inr hS1, ?_⟩)
    refine D.one 23 rfl (by decide +kernel) (fun hX => ?_)
    refine L.callOn rfl rfl rfl rfl (c_oneQ (RN.mk rfl hn44 hd44) ((RN.mk rfl hn47 hd47).eq (rfl))) rfl ?_
    rintro _ w20 ⟨rfl, hm20⟩
    replace ha := ha.gr hm20
    replace ka := ka.gr hm20
    replace hb := hb.gr hm20
    replace kb := kb.gr hm20
    replace hbd := hbd.gr hm20
    replace hm0 := hm0.trans hm20
    replace hb2 := Blk.gr hb2 hm20
    replace hb3 := Blk.gr hb3 hm20
    replace hb11 := Blk.gr hb11 hm20
    replace hn16 := hn16.gr hm20
    replace hd16 := hd16.gr hm20
    replace hb5 := Blk.gr hb5 hm20
    replace hn22 := hn22.gr hm20
    replace hd22 := hd22.gr hm20
    replace hb7 := Blk.gr hb7 hm20
    replace hn27 := hn27.gr hm20
    replace hd27 := hd27.gr hm20
    replace hn30 := hn30.gr hm20
    replace hd30 := hd30.gr hm20
    replace hn35 := hn35.gr hm20
    replace hd35 := hd35.gr hm20
    replace hn38 := hn38.gr hm20
    replace hd38 := hd38.gr hm20
    replace hn44 := hn44.gr hm20
    replace hd44 := hd44.gr hm20
    replace hn47 := hn47.gr hm20
    replace hd47 := hd47.gr hm20
    replace hS1 := hS1.trans hm20
    clear hm20
    refine L.nil (hX _ _ ⟨.inr hS1, ?_⟩)
    refine D.take 24 rfl (by decide +kernel) (fun w_ hS => (R1.pickT rfl rfl)) hS1 rfl ?_
    refine D.take 25 rfl (by decide +kernel) (fun w_ hS => (R1.move rfl)) hS1 rfl ?_
    refine D.takeOn 26 rfl rfl rfl rfl (by decide +kernel) (fun w_ hS => (R1.loadBox rfl (Blk.gr hb5_s hS) tyG27)) hS1 rfl ?_
    refine D.takeOn 27 rfl rfl rfl rfl (by decide +kernel) (fun w_ hS => (R1.loadBox rfl (Blk.gr hb7_s hS) tyG27)) hS1 rfl ?_
    refine D.one 28 rfl (by decide +kernel) (fun hX => ?_)
    refine L.callOn rfl rfl rfl rfl (c_oneQ (RN.mk rfl hn16 hd16) ((RN.mk rfl hn22 hd22).eq (rfl))) rfl ?_
    rintro _ w21 ⟨rfl, hm21⟩
    replace ha := ha.gr hm21
    replace ka := ka.gr hm21
    replace hb := hb.gr hm21
    replace kb := kb.gr hm21
    replace hbd := hbd.gr hm21
    replace hm0 := hm0.trans hm21
    replace hb2 := Blk.gr hb2 hm21
    replace hb3 := Blk.gr hb3 hm21
    replace hb11 := Blk.gr hb11 hm21
    replace hn16 := hn16.gr hm21
    replace hd16 := hd16.gr hm21
    replace hb5 := Blk.gr hb5 hm21
    replace hn22 := hn22.gr hm21
    replace hd22 := hd22.gr hm21
    replace hb7 := Blk.gr hb7 hm21
    replace hn27 := hn27.gr hm21
    replace hd27 := hd27.gr hm21
    replace hn30 := hn30.gr hm21
    replace hd30 := hd30.gr hm21
    replace hn35 := hn35.gr hm21
    replace hd35 := hd35.gr hm21
    replace hn38 := hn38.gr hm21
    replace hd38 := hd38.gr hm21
    replace hn44 := hn44.gr hm21
    replace hd44 := hd44.gr hm21
    replace hn47 := hn47.gr hm21
    replace hd47 := hd47.gr hm21
    replace hS1 := hS1.trans hm21
    clear hm21
    refine L.nil (hX _ _ ⟨.inr hS1, ?_⟩)
    refine D.take 29 rfl (by decide +kernel) (fun w_ hS => (R1.pickT rfl rfl)) hS1 rfl ?_
    refine D.take 30 rfl (by decide +kernel) (fun w_ hS => (R1.move rfl)) hS1 rfl ?_
    refine D.takeOn 31 rfl rfl rfl rfl (by decide +kernel) (fun w_ hS => (R1.move rfl)) hS1 rfl ?_
    refine D.takeOn 32 rfl rfl rfl rfl (by decide +kernel) (fun w_ hS => (R1.move rfl)) hS1 rfl ?_
    refine D.takeOn 33 rfl rfl rfl rfl (by decide +kernel) (fun w_ hS => ((R1.eqB rfl rfl tyB4).asB (c := true) (by simp))) hS1 rfl ?_
    refine D.take 34 rfl (by decide +kernel) (fun w_ hS => (R1.pickT rfl rfl)) hS1 rfl ?_
    refine D.take 35 rfl (by decide +kernel) (fun w_ hS => (R1.move rfl)) hS1 rfl ?_
    refine D.takeOn 36 rfl rfl rfl rfl (by decide +kernel) (fun w_ hS => (R1.loadBox rfl (Blk.gr hb2_s hS) tyG27)) hS1 rfl ?_
    refine D.takeOn 37 rfl rfl rfl rfl (by decide +kernel) (fun w_ hS => (R1.loadBox rfl (Blk.gr hb3_s hS) tyG27)) hS1 rfl ?_
    refine D.takeOn 39 rfl rfl rfl rfl (by decide +kernel) (fun w_ hS => (R1.loadBox rfl (Blk.gr hb2_s hS) tyG27)) hS1 rfl ?_
    refine D.takeOn 40 rfl rfl rfl rfl (by decide +kernel) (fun w_ hS => (R1.loadBox rfl (Blk.gr hb3_s hS) tyG27)) hS1 rfl ?_
    refine D.one 38 rfl (by decide +kernel) (fun hX => ?_)
    refine L.callOn rfl rfl rfl rfl (c_rat_Cmp (qa := qa) (qb := qb) hqa hqb ha ka hb kb hbd (by omega) (by omega) (by omega) (by omega)) rfl ?_
    rintro _ w22 ⟨rfl, hm22⟩
    replace ha := ha.gr hm22
    replace ka := ka.gr hm22
    replace hb := hb.gr hm22
    replace kb := kb.gr hm22
    replace hbd := hbd.gr hm22
    replace hm0 := hm0.trans hm22
    replace hb2 := Blk.gr hb2 hm22
    replace hb3 := Blk.gr hb3 hm22
    replace hb11 := Blk.gr hb11 hm22
    replace hn16 := hn16.gr hm22
    replace hd16 := hd16.gr hm22
    replace hb5 := Blk.gr hb5 hm22
    replace hn22 := hn22.gr hm22
    replace hd22 := hd22.gr hm22
    replace hb7 := Blk.gr hb7 hm22
    replace hn27 := hn27.gr hm22
    replace hd27 := hd27.gr hm22
    replace hn30 := hn30.gr hm22
    replace hd30 := hd30.gr hm22
    replace hn35 := hn35.gr hm22
    replace hd35 := hd35.gr hm22
    replace hn38 := hn38.gr hm22
    replace hd38 := hd38.gr hm22
    replace hn44 := hn44.gr hm22
    replace hd44 := hd44.gr hm22
    replace hn47 := hn47.gr hm22
    replace hd47 := hd47.gr hm22
    replace hS1 := hS1.trans hm22
    clear hm22
    refine L.nil (hX _ _ ⟨.inr hS1, ?_⟩)
    refine D.one 41 rfl (by decide +kernel) (fun hX => ?_)
    refine L.callOn rfl rfl rfl rfl (c_ref2_Cmp (qa := qa) (qb := qb) hqa hqb ha ka hb kb hbd (by omega) (by omega) (by omega) (by omega)) rfl ?_
    rintro _ w23 ⟨rfl, hm23⟩
    replace ha := ha.gr hm23
    replace ka := ka.gr hm23
    replace hb := hb.gr hm23
    replace kb := kb.gr hm23
    replace hbd := hbd.gr hm23
    replace hm0 := hm0.trans hm23
    replace hb2 := Blk.gr hb2 hm23
    replace hb3 := Blk.gr hb3 hm23
    replace hb11 := Blk.gr hb11 hm23
    replace hn16 := hn16.gr hm23
    replace hd16 := hd16.gr hm23
    replace hb5 := Blk.gr hb5 hm23
    replace hn22 := hn22.gr hm23
    replace hd22 := hd22.gr hm23
    replace hb7 := Blk.gr hb7 hm23
    replace hn27 := hn27.gr hm23
    replace hd27 := hd27.gr hm23
    replace hn30 := hn30.gr hm23
    replace hd30 := hd30.gr hm23
    replace hn35 := hn35.gr hm23
    replace hd35 := hd35.gr hm23
    replace hn38 := hn38.gr hm23
    replace hd38 := hd38.gr hm23
    replace hn44 := hn44.gr hm23
    replace hd44 := hd44.gr hm23
    replace hn47 := hn47.gr hm23
    replace hd47 := hd47.gr hm23
    replace hS1 := hS1.trans hm23
    clear hm23
    refine L.nil (hX _ _ ⟨.inr hS1, ?_⟩)
    refine D.takeOn 42 rfl rfl rfl rfl (by decide +kernel) (fun w_ hS => ((R1.eq rfl rfl).asB (c := true) (by simp))) hS1 rfl ?_
    refine D.take 43 rfl (by decide +kernel) (fun w_ hS => (R1.pickT rfl rfl)) hS1 rfl ?_
    refine D.take 44 rfl (by decide +kernel) (fun w_ hS => (R1.move rfl)) hS1 rfl ?_
    refine D.takeOn 45 rfl rfl rfl rfl (by decide +kernel) (fun w_ hS => (R1.loadBox rfl (Blk.gr hb2_s hS) tyG27)) hS1 rfl ?_
    refine D.takeOn 46 rfl rfl rfl rfl (by decide +kernel) (fun w_ hS => (R1.loadBox rfl (Blk.gr hb3_s hS) tyG27)) hS1 rfl ?_
    refine D.takeOn 48 rfl rfl rfl rfl (by decide +kernel) (fun w_ hS => (R1.loadBox rfl (Blk.gr hb2_s hS) tyG27)) hS1 rfl ?_
    refine D.takeOn 49 rfl rfl rfl rfl (by decide +kernel) (fun w_ hS => (R1.loadBox rfl (Blk.gr hb3_s hS) tyG27)) hS1 rfl ?_
    refine D.one 47 rfl (by decide +kernel) (fun hX => ?_)
    refine L.callOn rfl rfl rfl rfl (c_rat_Same (qa := qa) (qb := qb) hqa hqb ha ka hb kb hbd (by omega) (by omega) (by omega) (by omega)) rfl ?_
    rintro _ w24 ⟨rfl, hm24⟩
    replace ha := ha.gr hm24
    replace ka := ka.gr hm24
    replace hb := hb.gr hm24
    replace kb := kb.gr hm24
    replace hbd := hbd.gr hm24
    replace hm0 := hm0.trans hm24
    replace hb2 := Blk.gr hb2 hm24
    replace hb3 := Blk.gr hb3 hm24
    replace hb11 := Blk.gr hb11 hm24
    replace hn16 := hn16.gr hm24
    replace hd16 := hd16.gr hm24
    replace hb5 := Blk.gr hb5 hm24
    replace hn22 := hn22.gr hm24
    replace hd22 := hd22.gr hm24
    replace hb7 := Blk.gr hb7 hm24
    replace hn27 := hn27.gr hm24
    replace hd27 := hd27.gr hm24
    replace hn30 := hn30.gr hm24
    replace hd30 := hd30.gr hm24
    replace hn35 := hn35.gr hm24
    replace hd35 := hd35.gr hm24
    replace hn38 := hn38.gr hm24
    replace hd38 := hd38.gr hm24
    replace hn44 := hn44.gr hm24
    replace hd44 := hd44.gr hm24
    replace hn47 := hn47.gr hm24
    replace hd47 := hd47.gr hm24
    replace hS1 := hS1.trans hm24
    clear hm24
    refine L.nil (hX _ _ ⟨.inr hS1, ?_⟩)
    refine D.one 50 rfl (by decide +kernel) (fun hX => ?_)
    refine L.callOn rfl rfl rfl rfl (c_ref2_Same (qa := qa) (qb := qb) hqa hqb ha ka hb kb hbd (by omega) (by omega) (by omega) (by omega)) rfl ?_
    rintro _ w25 ⟨rfl, hm25⟩
    replace ha := ha.gr hm25
    replace ka := ka.gr hm25
    replace hb := hb.gr hm25
    replace kb := kb.gr hm25
    replace hbd := hbd.gr hm25
    replace hm0 := hm0.trans hm25
    replace hb2 := Blk.gr hb2 hm25
    replace hb3 := Blk.gr hb3 hm25
    replace hb11 := Blk.gr hb11 hm25
    replace hn16 := hn16.gr hm25
    replace hd16 := hd16.gr hm25
    replace hb5 := Blk.gr hb5 hm25
    replace hn22 := hn22.gr hm25
    replace hd22 := hd22.gr hm25
    replace hb7 := Blk.gr hb7 hm25
    replace hn27 := hn27.gr hm25
    replace hd27 := hd27.gr hm25
    replace hn30 := hn30.gr hm25
    replace hd30 := hd30.gr hm25
    replace hn35 := hn35.gr hm25
    replace hd35 := hd35.gr hm25
    replace hn38 := hn38.gr hm25
    replace hd38 := hd38.gr hm25
    replace hn44 := hn44.gr hm25
    replace hd44 := hd44.gr hm25
    replace hn47 := hn47.gr hm25
    replace hd47 := hd47.gr hm25
    replace hS1 := hS1.trans hm25
    clear hm25
    refine L.nil (hX _ _ ⟨.inr hS1, ?_⟩)
    refine D.takeOn 51 rfl rfl rfl rfl (by decide +kernel) (fun w_ hS => ((R1.eqB rfl rfl tyB4).asB (c := true) (by simp))) hS1 rfl ?_
    refine D.take 52 rfl (by decide +kernel) (fun w_ hS => (R1.pickT rfl rfl)) hS1 rfl ?_
    refine D.take 53 rfl (by decide +kernel) (fun w_ hS => (R1.move rfl)) hS1 rfl ?_
    refine D.one 54 rfl (by decide +kernel) (fun hX => ?_)
    refine L.callOn rfl rfl rfl rfl (c_known2) rfl ?_
    rintro _ w26 ⟨rfl, hm26⟩
    replace ha := ha.gr hm26
    replace ka := ka.gr hm26
    replace hb := hb.gr hm26
    replace kb := kb.gr hm26
    replace hbd := hbd.gr hm26
    replace hm0 := hm0.trans hm26
    replace hb2 := Blk.gr hb2 hm26
    replace hb3 := Blk.gr hb3 hm26
    replace hb11 := Blk.gr hb11 hm26
    replace hn16 := hn16.gr hm26
    replace hd16 := hd16.gr hm26
    replace hb5 := Blk.gr hb5 hm26
    replace hn22 := hn22.gr hm26
    replace hd22 := hd22.gr hm26
    replace hb7 := Blk.gr hb7 hm26
    replace hn27 := hn27.gr hm26
    replace hd27 := hd27.gr hm26
    replace hn30 := hn30.gr hm26
    replace hd30 := hd30.gr hm26
    replace hn35 := hn35.gr hm26
    replace hd35 := hd35.gr hm26
    replace hn38 := hn38.gr hm26
    replace hd38 := hd38.gr hm26
    replace hn44 := hn44.gr hm26
    replace hd44 := hd44.gr hm26
    replace hn47 := hn47.gr hm26
    replace hd47 := hd47.gr hm26
    replace hS1 := hS1.trans hm26
    clear hm26
    refine L.nil (hX _ _ ⟨.inr hS1, ?_⟩)
    refine D.take 55 rfl (by decide +kernel) (fun w_ hS => (R1.pickT rfl rfl)) hS1 rfl ?_
    refine D.take 56 rfl (by decide +kernel) (fun w_ hS => (R1.assign rfl)) hS1 rfl ?_
    refine D.done (by decide +kernel) ?_ _
    refine X.seq ?_
    refine W.ret ?_
    refine X.result1 rfl (.tmp rfl .nil) ?_
    exact ⟨rfl, hm0⟩

end Go.Proofs.Ytjeodekhamdcmaa
