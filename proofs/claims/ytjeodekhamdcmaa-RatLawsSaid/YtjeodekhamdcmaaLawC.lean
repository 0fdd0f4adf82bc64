/- Walks: what the functions compute. -/
import Derived.Test.YtjeodekhamdcmaaLawB
namespace Go.Proofs.Ytjeodekhamdcmaa
open Go.RowKit
set_option linter.unusedVariables false
set_option linter.unusedSimpArgs false
set_option maxRecDepth 10000
theorem c_RatLaws {M : List Nat} {w : World} {sa : Bool} {an ad : Value} {xa ya : List Nat} {qa : Rat} {sb : Bool} {bn bd : Value} {xb yb : List Nat} {qb : Rat} {sc : Bool} {cn cd : Value} {xc yc : List Nat} {qc : Rat} (hqa : rv sa (val xa) (val ya) = qa) (ha : U32 M w an xa) (ka : U32 M w ad ya) (hqb : rv sb (val xb) (val yb) = qb) (hb : U32 M w bn xb) (kb : U32 M w bd yb) (hqc : rv sc (val xc) (val yc) = qc) (hc : U32 M w cn xc) (kc : U32 M w cd yc) (hbd : Bd M w) (la : xa.length ≤ 140737488355328) (ma : ya.length ≤ 140737488355328) (lb : xb.length ≤ 140737488355328) (mb : yb.length ≤ 140737488355328) (lc : xc.length ≤ 140737488355328) (mc : yc.length ≤ 140737488355328) :
    Ret Try.prog 8 #[.agg #[.bool sa, an, ad], .agg #[.bool sb, bn, bd], .agg #[.bool sc, cn, cd]] w (fun r w' => r = .bool true ∧ Mod [] w w') := by
  obtain ⟨Aa, ca, rfl⟩ := ha.form
  obtain ⟨Ba, da, rfl⟩ := ka.form
  obtain ⟨Ab, cb, rfl⟩ := hb.form
  obtain ⟨Bb, db, rfl⟩ := kb.form
  obtain ⟨Ac, cc, rfl⟩ := hc.form
  obtain ⟨Bc, dc, rfl⟩ := kc.form
  refine Ret.of (vs := [.agg #[.bool sa, .slice Aa xa.length ca, .slice Ba ya.length da], .agg #[.bool sb, .slice Ab xb.length cb, .slice Bb yb.length db], .agg #[.bool sc, .slice Ac xc.length cc, .slice Bc yc.length dc]]) (n := 85) Try.func8 rfl rfl rfl rfl ?_
  have hm0 : Mod [] w w := Mod.refl _ _
  refine W.seq ?_
  refine W.region ?_
  refine L.box rfl rfl ?_
  intro g3 w1 hN3
  replace ha := ha.new hN3
  replace ka := ka.new hN3
  replace hb := hb.new hN3
  replace kb := kb.new hN3
  replace hc := hc.new hN3
  replace kc := kc.new hN3
  replace hbd := hbd.new hN3
  have hge_g3 := New.ge hN3 hm0.size
  replace hm0 := hm0.trans (hN3.mod.mono (by simp))
  have hb3 := hN3.blk
  clear hN3
  refine L.box rfl rfl ?_
  intro g4 w2 hN4
  replace ha := ha.new hN4
  replace ka := ka.new hN4
  replace hb := hb.new hN4
  replace kb := kb.new hN4
  replace hc := hc.new hN4
  replace kc := kc.new hN4
  replace hbd := hbd.new hN4
  have hge_g4 := New.ge hN4 hm0.size
  replace hm0 := hm0.trans (hN4.mod.mono (by simp))
  have hne_g3_g4 := hb3.ne_ hN4
  replace hb3 := Blk.gr hb3 hN4.mod
  have hb4 := hN4.blk
  clear hN4
  refine L.box rfl rfl ?_
  intro g5 w3 hN5
  replace ha := ha.new hN5
  replace ka := ka.new hN5
  replace hb := hb.new hN5
  replace kb := kb.new hN5
  replace hc := hc.new hN5
  replace kc := kc.new hN5
  replace hbd := hbd.new hN5
  have hge_g5 := New.ge hN5 hm0.size
  replace hm0 := hm0.trans (hN5.mod.mono (by simp))
  have hne_g3_g5 := hb3.ne_ hN5
  replace hb3 := Blk.gr hb3 hN5.mod
  have hne_g4_g5 := hb4.ne_ hN5
  replace hb4 := Blk.gr hb4 hN5.mod
  have hb5 := hN5.blk
  clear hN5
  refine L.v (R1.assign rfl) rfl ?_
  refine L.nil ?_
  refine X.seq ?_
  refine W.seq ?_
  refine W.seq ?_
  refine W.region ?_
  refine L.v (R1.loadBox rfl hb3 tyG27) rfl ?_
  refine L.v (R1.loadBox rfl hb4 tyG27) rfl ?_
  refine L.v (R1.loadBox rfl hb5 tyG27) rfl ?_
  refine L.buildSlice (cells := [.bool sa, .slice Aa xa.length ca, .slice Ba ya.length da, .bool sb, .slice Ab xb.length cb, .slice Bb yb.length db, .bool sc, .slice Ac xc.length cc, .slice Bc yc.length dc]) rfl tyS63 tyZ27 (fillQ3 _ _ _ _ _ _ _ _ _ _ _ _ _ _ _ _ _ _ _ _ _) (by decide) (by decide) rfl ?_
  intro g10 w4 hN10
  replace ha := ha.new hN10
  replace ka := ka.new hN10
  replace hb := hb.new hN10
  replace kb := kb.new hN10
  replace hc := hc.new hN10
  replace kc := kc.new hN10
  replace hbd := hbd.new hN10
  have hge_g10 := New.ge hN10 hm0.size
  replace hm0 := hm0.trans (hN10.mod.mono (by simp))
  have hne_g3_g10 := hb3.ne_ hN10
  replace hb3 := Blk.gr hb3 hN10.mod
  have hne_g4_g10 := hb4.ne_ hN10
  replace hb4 := Blk.gr hb4 hN10.mod
  have hne_g5_g10 := hb5.ne_ hN10
  replace hb5 := Blk.gr hb5 hN10.mod
  have hb10 := hN10.blk
  clear hN10
  have hr9 : ∀ i, i < 3 → ∃ A c B d, (#[.bool sa, .slice Aa xa.length ca, .slice Ba ya.length da, .bool sb, .slice Ab xb.length cb, .slice Bb yb.length db, .bool sc, .slice Ac xc.length cc, .slice Bc yc.length dc] : Array Value)[i * 3 + 1]? = some (.slice A ((fun i => [xa.length, xb.length, xc.length].getD i 0) i) c) ∧ (#[.bool sa, .slice Aa xa.length ca, .slice Ba ya.length da, .bool sb, .slice Ab xb.length cb, .slice Bb yb.length db, .bool sc, .slice Ac xc.length cc, .slice Bc yc.length dc] : Array Value)[i * 3 + 2]? = some (.slice B ((fun i => [ya.length, yb.length, yc.length].getD i 0) i) d) := fun i hi => by
      match i, hi with
      | 0, _ => exact ⟨_, _, _, _, rfl, rfl⟩
      | 1, _ => exact ⟨_, _, _, _, rfl, rfl⟩
      | 2, _ => exact ⟨_, _, _, _, rfl, rfl⟩
  have hl9 : ∀ i, i < 3 → (fun i => [xa.length, xb.length, xc.length].getD i 0) i ≤ 140737488355328 ∧ (fun i => [ya.length, yb.length, yc.length].getD i 0) i ≤ 140737488355328 := fun i hi => by
      match i, hi with
      | 0, _ => exact ⟨la, ma⟩
      | 1, _ => exact ⟨lb, mb⟩
      | 2, _ => exact ⟨lc, mc⟩
  refine L.call rfl (c_big (ln := (fun i => [xa.length, xb.length, xc.length].getD i 0)) (ld := (fun i => [ya.length, yb.length, yc.length].getD i 0)) hb10 hr9 hl9 (by decide)) rfl ?_
  rintro _ w5 ⟨b11, rfl, hbig, hm5⟩
  replace ha := ha.gr hm5
  replace ka := ka.gr hm5
  replace hb := hb.gr hm5
  replace kb := kb.gr hm5
  replace hc := hc.gr hm5
  replace kc := kc.gr hm5
  replace hbd := hbd.gr hm5
  replace hm0 := hm0.trans hm5
  replace hb3 := Blk.gr hb3 hm5
  replace hb4 := Blk.gr hb4 hm5
  replace hb5 := Blk.gr hb5 hm5
  replace hb10 := Blk.gr hb10 hm5
  clear hm5
  refine L.v (R1.move rfl) rfl ?_
  cases hgd12 : b11
  ·
    have hcc_ := hgd12
    have za := hbig hgd12 0 (by decide)
    change xa.length ≤ 16 ∧ ya.length ≤ 16 at za
    have FA : Fit qa 17 := Fit.rv hqa ha.2 ka.2 za.1 za.2
    have zb := hbig hgd12 1 (by decide)
    change xb.length ≤ 16 ∧ yb.length ≤ 16 at zb
    have FB : Fit qb 17 := Fit.rv hqb hb.2 kb.2 zb.1 zb.2
    have zc := hbig hgd12 2 (by decide)
    change xc.length ≤ 16 ∧ yc.length ≤ 16 at zc
    have FC : Fit qc 17 := Fit.rv hqc hc.2 kc.2 zc.1 zc.2
    refine L.on rfl rfl rfl (R1.fieldAt rfl tyF27_1) rfl ?_
    refine L.on rfl rfl rfl (R1.loadFld rfl hb3 rfl tyP25) rfl ?_
    refine L.on rfl rfl rfl (R1.lenU rfl (by assumption) tyS25) rfl ?_
    refine L.on rfl rfl rfl (R1.fieldAt rfl tyF27_1) rfl ?_
    refine L.on rfl rfl rfl (R1.loadFld rfl hb4 rfl tyP25) rfl ?_
    refine L.on rfl rfl rfl (R1.lenU rfl (by assumption) tyS25) rfl ?_
    refine L.on rfl rfl rfl (R1.addI rfl rfl (by omega)) rfl ?_
    refine L.on rfl rfl rfl (R1.fieldAt rfl tyF27_1) rfl ?_
    refine L.on rfl rfl rfl (R1.loadFld rfl hb5 rfl tyP25) rfl ?_
    refine L.on rfl rfl rfl (R1.lenU rfl (by assumption) tyS25) rfl ?_
    refine L.on rfl rfl rfl (R1.addI rfl rfl (by omega)) rfl ?_
    refine L.on rfl rfl rfl (R1.fieldAt rfl tyF27_2) rfl ?_
    refine L.on rfl rfl rfl (R1.loadFld rfl hb3 rfl tyP25) rfl ?_
    refine L.on rfl rfl rfl (R1.lenU rfl (by assumption) tyS25) rfl ?_
    refine L.on rfl rfl rfl (R1.addI rfl rfl (by omega)) rfl ?_
    refine L.on rfl rfl rfl (R1.fieldAt rfl tyF27_2) rfl ?_
    refine L.on rfl rfl rfl (R1.loadFld rfl hb4 rfl tyP25) rfl ?_
    refine L.on rfl rfl rfl (R1.lenU rfl (by assumption) tyS25) rfl ?_
    refine L.on rfl rfl rfl (R1.addI rfl rfl (by omega)) rfl ?_
    refine L.on rfl rfl rfl (R1.fieldAt rfl tyF27_2) rfl ?_
    refine L.on rfl rfl rfl (R1.loadFld rfl hb5 rfl tyP25) rfl ?_
    refine L.on rfl rfl rfl (R1.lenU rfl (by assumption) tyS25) rfl ?_
    refine L.on rfl rfl rfl (R1.addI rfl rfl (by omega)) rfl ?_
    refine L.on rfl rfl rfl (R1.gt rfl rfl) rfl ?_
    refine L.v (R1.pickF rfl rfl) rfl ?_
    refine L.nil ?_
    refine X.seq ?_
    refine W.cond rfl ?_ ?_
    ·
      intro hc37
      try simp only [decide_eq_true_eq, decide_eq_false_iff_not, Bool.not_eq_true', Bool.not_eq_false', Int.not_lt, Int.not_le, ne_eq, Decidable.not_not] at hc37
      refine W.seq ?_
      refine W.region ?_
      refine L.v (R1.assign rfl) rfl ?_
      refine L.nil ?_
      refine X.seq ?_
      refine W.ret ?_
      refine X.thenRet ?_
      refine X.result1 rfl (.tmp rfl .nil) ?_
      exact ⟨rfl, hm0⟩
    ·
      intro hc37
      try simp only [decide_eq_true_eq, decide_eq_false_iff_not, Bool.not_eq_true', Bool.not_eq_false', Int.not_lt, Int.not_le, ne_eq, Decidable.not_not] at hc37
      refine W.skip ?_
      refine X.seq ?_
      refine W.seq ?_
      refine W.drawW (T := []) rfl (by decide +kernel) (NoHang.then NoHang.post) (fun w6 hm6 => ?_)
      replace ha := ha.gr hm6
      replace ka := ka.gr hm6
      replace hb := hb.gr hm6
      replace kb := kb.gr hm6
      replace hc := hc.gr hm6
      replace kc := kc.gr hm6
      replace hbd := hbd.gr hm6
      replace hm0 := hm0.trans hm6
      replace hb3 := Blk.gr hb3 hm6
      replace hb4 := Blk.gr hb4 hm6
      replace hb5 := Blk.gr hb5 hm6
      replace hb10 := Blk.gr hb10 hm6
      have hS1 : Mod [] w6 w6 := Mod.refl _ _
      clear hm6
      have hb3_s := hb3
      have hb4_s := hb4
      have hb5_s := hb5
      have hb10_s := hb10
      refine D.take 0 rfl (by decide +kernel) (fun w_ hS => (R1.loadBox rfl (Blk.gr hb3_s hS) tyG27)) hS1 rfl ?_
      refine D.take 1 rfl (by decide +kernel) (fun w_ hS => (R1.loadBox rfl (Blk.gr hb4_s hS) tyG27)) hS1 rfl ?_
      refine D.take 3 rfl (by decide +kernel) (fun w_ hS => (R1.loadBox rfl (Blk.gr hb4_s hS) tyG27)) hS1 rfl ?_
      refine D.take 4 rfl (by decide +kernel) (fun w_ hS => (R1.loadBox rfl (Blk.gr hb3_s hS) tyG27)) hS1 rfl ?_
      refine D.one 2 rfl (by decide +kernel) (fun hX => ?_)
      refine L.call rfl (c_rat_Add (qa := qa) (qb := qb) hqa hqb ha ka hb kb hbd (by omega) (by omega) (by omega) (by omega)) rfl ?_
      rintro _ w7 ⟨⟨A40, c40, B40, e40, rfl, hn40, hd40⟩, hm7⟩
      replace ha := ha.gr hm7
      replace ka := ka.gr hm7
      replace hb := hb.gr hm7
      replace kb := kb.gr hm7
      replace hc := hc.gr hm7
      replace kc := kc.gr hm7
      replace hbd := hbd.gr hm7
      replace hm0 := hm0.trans hm7
      replace hb3 := Blk.gr hb3 hm7
      replace hb4 := Blk.gr hb4 hm7
      replace hb5 := Blk.gr hb5 hm7
      replace hb10 := Blk.gr hb10 hm7
      replace hS1 := hS1.trans hm7
      clear hm7
      have F40 := Fit.add FA FB
      refine L.nil (hX _ _ ⟨.inr hS1, ?_⟩)
      refine D.one 5 rfl (by decide +kernel) (fun hX => ?_)
      refine L.call rfl (c_rat_Add (qa := qb) (qb := qa) hqb hqa hb kb ha ka hbd (by omega) (by omega) (by omega) (by omega)) rfl ?_
      rintro _ w8 ⟨⟨A43, c43, B43, e43, rfl, hn43, hd43⟩, hm8⟩
      replace ha := ha.gr hm8
      replace ka := ka.gr hm8
      replace hb := hb.gr hm8
      replace kb := kb.gr hm8
      replace hc := hc.gr hm8
      replace kc := kc.gr hm8
      replace hbd := hbd.gr hm8
      replace hm0 := hm0.trans hm8
      replace hb3 := Blk.gr hb3 hm8
      replace hb4 := Blk.gr hb4 hm8
      replace hb5 := Blk.gr hb5 hm8
      replace hb10 := Blk.gr hb10 hm8
      replace hn40 := hn40.gr hm8
      replace hd40 := hd40.gr hm8
      replace hS1 := hS1.trans hm8
      clear hm8
      have F43 := Fit.add FB FA
      refine L.nil (hX _ _ ⟨.inr hS1, ?_⟩)
      refine D.one 6 rfl (by decide +kernel) (fun hX => ?_)
      refine L.call rfl (c_oneQ (RN.mk rfl hn40 hd40) ((RN.mk rfl hn43 hd43).eq (Rat.add_comm _ _))) rfl ?_
      rintro _ w9 ⟨rfl, hm9⟩
      replace ha := ha.gr hm9
      replace ka := ka.gr hm9
      replace hb := hb.gr hm9
      replace kb := kb.gr hm9
      replace hc := hc.gr hm9
      replace kc := kc.gr hm9
      replace hbd := hbd.gr hm9
      replace hm0 := hm0.trans hm9
      replace hb3 := Blk.gr hb3 hm9
      replace hb4 := Blk.gr hb4 hm9
      replace hb5 := Blk.gr hb5 hm9
      replace hb10 := Blk.gr hb10 hm9
      replace hn40 := hn40.gr hm9
      replace hd40 := hd40.gr hm9
      replace hn43 := hn43.gr hm9
      replace hd43 := hd43.gr hm9
      replace hS1 := hS1.trans hm9
      clear hm9
      refine L.nil (hX _ _ ⟨.inr hS1, ?_⟩)
      refine D.take 7 rfl (by decide +kernel) (fun w_ hS => (R1.move rfl)) hS1 rfl ?_
      refine D.takeOn 8 rfl rfl rfl rfl (by decide +kernel) (fun w_ hS => (R1.loadBox rfl (Blk.gr hb3_s hS) tyG27)) hS1 rfl ?_
      refine D.takeOn 9 rfl rfl rfl rfl (by decide +kernel) (fun w_ hS => (R1.loadBox rfl (Blk.gr hb4_s hS) tyG27)) hS1 rfl ?_
      refine D.takeOn 11 rfl rfl rfl rfl (by decide +kernel) (fun w_ hS => (R1.loadBox rfl (Blk.gr hb4_s hS) tyG27)) hS1 rfl ?_
      refine D.takeOn 12 rfl rfl rfl rfl (by decide +kernel) (fun w_ hS => (R1.loadBox rfl (Blk.gr hb3_s hS) tyG27)) hS1 rfl ?_
      refine D.one 10 rfl (by decide +kernel) (fun hX => ?_)
      refine L.callOn rfl rfl rfl rfl (c_rat_Mul (qa := qa) (qb := qb) hqa hqb ha ka hb kb hbd (by omega) (by omega) (by omega) (by omega)) rfl ?_
      rintro _ w10 ⟨⟨A48, c48, B48, e48, rfl, hn48, hd48⟩, hm10⟩
      replace ha := ha.gr hm10
      replace ka := ka.gr hm10
      replace hb := hb.gr hm10
      replace kb := kb.gr hm10
      replace hc := hc.gr hm10
      replace kc := kc.gr hm10
      replace hbd := hbd.gr hm10
      replace hm0 := hm0.trans hm10
      replace hb3 := Blk.gr hb3 hm10
      replace hb4 := Blk.gr hb4 hm10
      replace hb5 := Blk.gr hb5 hm10
      replace hb10 := Blk.gr hb10 hm10
      replace hn40 := hn40.gr hm10
      replace hd40 := hd40.gr hm10
      replace hn43 := hn43.gr hm10
      replace hd43 := hd43.gr hm10
      replace hS1 := hS1.trans hm10
      clear hm10
      have F48 := Fit.mul FA FB
      refine L.nil (hX _ _ ⟨.inr hS1, ?_⟩)
      refine D.one 13 rfl (by decide +kernel) (fun hX => ?_)
      refine L.callOn rfl rfl rfl rfl (c_rat_Mul (qa := qb) (qb := qa) hqb hqa hb kb ha ka hbd (by omega) (by omega) (by omega) (by omega)) rfl ?_
      rintro _ w11 ⟨⟨A51, c51, B51, e51, rfl, hn51, hd51⟩, hm11⟩
      replace ha := ha.gr hm11
      replace ka := ka.gr hm11
      replace hb := hb.gr hm11
      replace kb := kb.gr hm11
      replace hc := hc.gr hm11
      replace kc := kc.gr hm11
      replace hbd := hbd.gr hm11
      replace hm0 := hm0.trans hm11
      replace hb3 := Blk.gr hb3 hm11
      replace hb4 := Blk.gr hb4 hm11
      replace hb5 := Blk.gr hb5 hm11
      replace hb10 := Blk.gr hb10 hm11
      replace hn40 := hn40.gr hm11
      replace hd40 := hd40.gr hm11
      replace hn43 := hn43.gr hm11
      replace hd43 := hd43.gr hm11
      replace hn48 := hn48.gr hm11
      replace hd48 := hd48.gr hm11
      replace hS1 := hS1.trans hm11
      clear hm11
      have F51 := Fit.mul FB FA
      refine L.nil (hX _ _ ⟨.inr hS1, ?_⟩)
      refine D.one 14 rfl (by decide +kernel) (fun hX => ?_)
      refine L.callOn rfl rfl rfl rfl (c_oneQ (RN.mk rfl hn48 hd48) ((RN.mk rfl hn51 hd51).eq (Rat.mul_comm _ _))) rfl ?_
      rintro _ w12 ⟨rfl, hm12⟩
      replace ha := ha.gr hm12
      replace ka := ka.gr hm12
      replace hb := hb.gr hm12
      replace kb := kb.gr hm12
      replace hc := hc.gr hm12
      replace kc := kc.gr hm12
      replace hbd := hbd.gr hm12
      replace hm0 := hm0.trans hm12
      replace hb3 := Blk.gr hb3 hm12
      replace hb4 := Blk.gr hb4 hm12
      replace hb5 := Blk.gr hb5 hm12
      replace hb10 := Blk.gr hb10 hm12
      replace hn40 := hn40.gr hm12
      replace hd40 := hd40.gr hm12
      replace hn43 := hn43.gr hm12
      replace hd43 := hd43.gr hm12
      replace hn48 := hn48.gr hm12
      replace hd48 := hd48.gr hm12
      replace hn51 := hn51.gr hm12
      replace hd51 := hd51.gr hm12
      replace hS1 := hS1.trans hm12
      clear hm12
      refine L.nil (hX _ _ ⟨.inr hS1, ?_⟩)
      refine D.take 15 rfl (by decide +kernel) (fun w_ hS => (R1.pickT rfl rfl)) hS1 rfl ?_
      refine D.take 16 rfl (by decide +kernel) (fun w_ hS => (R1.move rfl)) hS1 rfl ?_
      refine D.takeOn 17 rfl rfl rfl rfl (by decide +kernel) (fun w_ hS => (R1.loadBox rfl (Blk.gr hb3_s hS) tyG27)) hS1 rfl ?_
      refine D.takeOn 18 rfl rfl rfl rfl (by decide +kernel) (fun w_ hS => (R1.loadBox rfl (Blk.gr hb4_s hS) tyG27)) hS1 rfl ?_
      refine D.takeOn 20 rfl rfl rfl rfl (by decide +kernel) (fun w_ hS => (R1.loadBox rfl (Blk.gr hb5_s hS) tyG27)) hS1 rfl ?_
      refine D.takeOn 22 rfl rfl rfl rfl (by decide +kernel) (fun w_ hS => (R1.loadBox rfl (Blk.gr hb3_s hS) tyG27)) hS1 rfl ?_
      refine D.takeOn 23 rfl rfl rfl rfl (by decide +kernel) (fun w_ hS => (R1.loadBox rfl (Blk.gr hb4_s hS) tyG27)) hS1 rfl ?_
      refine D.takeOn 24 rfl rfl rfl rfl (by decide +kernel) (fun w_ hS => (R1.loadBox rfl (Blk.gr hb5_s hS) tyG27)) hS1 rfl ?_
      refine D.one 19 rfl (by decide +kernel) (fun hX => ?_)
      refine L.callOn rfl rfl rfl rfl (c_rat_Add (qa := qa) (qb := qb) hqa hqb ha ka hb kb hbd (by omega) (by omega) (by omega) (by omega)) rfl ?_
      rintro _ w13 ⟨⟨A57, c57, B57, e57, rfl, hn57, hd57⟩, hm13⟩
      replace ha := ha.gr hm13
      replace ka := ka.gr hm13
      replace hb := hb.gr hm13
      replace kb := kb.gr hm13
      replace hc := hc.gr hm13
      replace kc := kc.gr hm13
      replace hbd := hbd.gr hm13
      replace hm0 := hm0.trans hm13
      replace hb3 := Blk.gr hb3 hm13
      replace hb4 := Blk.gr hb4 hm13
      replace hb5 := Blk.gr hb5 hm13
      replace hb10 := Blk.gr hb10 hm13
      replace hn40 := hn40.gr hm13
      replace hd40 := hd40.gr hm13
      replace hn43 := hn43.gr hm13
      replace hd43 := hd43.gr hm13
      replace hn48 := hn48.gr hm13
      replace hd48 := hd48.gr hm13
      replace hn51 := hn51.gr hm13
      replace hd51 := hd51.gr hm13
      replace hS1 := hS1.trans hm13
      clear hm13
      have F57 := Fit.add FA FB
      refine L.nil (hX _ _ ⟨.inr hS1, ?_⟩)
      refine D.one 21 rfl (by decide +kernel) (fun hX => ?_)
      refine L.callOn rfl rfl rfl rfl (c_rat_Add (qa := qa + qb) (qb := qc) (rv_toL _) hqc hn57 hd57 hc kc hbd (Nat.le_trans F57.1 (by decide)) (Nat.le_trans F57.2 (by decide)) (by omega) (by omega)) rfl ?_
      rintro _ w14 ⟨⟨A59, c59, B59, e59, rfl, hn59, hd59⟩, hm14⟩
      replace ha := ha.gr hm14
      replace ka := ka.gr hm14
      replace hb := hb.gr hm14
      replace kb := kb.gr hm14
      replace hc := hc.gr hm14
      replace kc := kc.gr hm14
      replace hbd := hbd.gr hm14
      replace hm0 := hm0.trans hm14
      replace hb3 := Blk.gr hb3 hm14
      replace hb4 := Blk.gr hb4 hm14
      replace hb5 := Blk.gr hb5 hm14
      replace hb10 := Blk.gr hb10 hm14
      replace hn40 := hn40.gr hm14
      replace hd40 := hd40.gr hm14
      replace hn43 := hn43.gr hm14
      replace hd43 := hd43.gr hm14
      replace hn48 := hn48.gr hm14
      replace hd48 := hd48.gr hm14
      replace hn51 := hn51.gr hm14
      replace hd51 := hd51.gr hm14
      replace hn57 := hn57.gr hm14
      replace hd57 := hd57.gr hm14
      replace hS1 := hS1.trans hm14
      clear hm14
      have F59 := Fit.add F57 FC
      refine L.nil (hX _ _ ⟨.inr hS1, ?_⟩)
      refine D.one 25 rfl (by decide +kernel) (fun hX => ?_)
      refine L.callOn rfl rfl rfl rfl (c_rat_Add (qa := qb) (qb := qc) hqb hqc hb kb hc kc hbd (by omega) (by omega) (by omega) (by omega)) rfl ?_
      rintro _ w15 ⟨⟨A63, c63, B63, e63, rfl, hn63, hd63⟩, hm15⟩
      replace ha := ha.gr hm15
      replace ka := ka.gr hm15
      replace hb := hb.gr hm15
      replace kb := kb.gr hm15
      replace hc := hc.gr hm15
      replace kc := kc.gr hm15
      replace hbd := hbd.gr hm15
      replace hm0 := hm0.trans hm15
      replace hb3 := Blk.gr hb3 hm15
      replace hb4 := Blk.gr hb4 hm15
      replace hb5 := Blk.gr hb5 hm15
      replace hb10 := Blk.gr hb10 hm15
      replace hn40 := hn40.gr hm15
      replace hd40 := hd40.gr hm15
      replace hn43 := hn43.gr hm15
      replace hd43 := hd43.gr hm15
      replace hn48 := hn48.gr hm15
      replace hd48 := hd48.gr hm15
      replace hn51 := hn51.gr hm15
      replace hd51 := hd51.gr hm15
      replace hn57 := hn57.gr hm15
      replace hd57 := hd57.gr hm15
      replace hn59 := hn59.gr hm15
      replace hd59 := hd59.gr hm15
      replace hS1 := hS1.trans hm15
      clear hm15
      have F63 := Fit.add FB FC
      refine L.nil (hX _ _ ⟨.inr hS1, ?_⟩)
      refine D.one 26 rfl (by decide +kernel) (fun hX => ?_)
      refine L.callOn rfl rfl rfl rfl (c_rat_Add (qa := qa) (qb := qb + qc) hqa (rv_toL _) ha ka hn63 hd63 hbd (by omega) (by omega) (Nat.le_trans F63.1 (by decide)) (Nat.le_trans F63.2 (by decide))) rfl ?_
      rintro _ w16 ⟨⟨A64, c64, B64, e64, rfl, hn64, hd64⟩, hm16⟩
      replace ha := ha.gr hm16
      replace ka := ka.gr hm16
      replace hb := hb.gr hm16
      replace kb := kb.gr hm16
      replace hc := hc.gr hm16
      replace kc := kc.gr hm16
      replace hbd := hbd.gr hm16
      replace hm0 := hm0.trans hm16
      replace hb3 := Blk.gr hb3 hm16
      replace hb4 := Blk.gr hb4 hm16
      replace hb5 := Blk.gr hb5 hm16
      replace hb10 := Blk.gr hb10 hm16
      replace hn40 := hn40.gr hm16
      replace hd40 := hd40.gr hm16
      replace hn43 := hn43.gr hm16
      replace hd43 := hd43.gr hm16
      replace hn48 := hn48.gr hm16
      replace hd48 := hd48.gr hm16
      replace hn51 := hn51.gr hm16
      replace hd51 := hd51.gr hm16
      replace hn57 := hn57.gr hm16
      replace hd57 := hd57.gr hm16
      replace hn59 := hn59.gr hm16
      replace hd59 := hd59.gr hm16
      replace hn63 := hn63.gr hm16
      replace hd63 := hd63.gr hm16
      replace hS1 := hS1.trans hm16
      clear hm16
      have F64 := Fit.add FA F63
      refine L.nil (hX _ _ ⟨.inr hS1, ?_⟩)
      refine D.one 27 rfl (by decide +kernel) (fun hX => ?_)
      refine L.callOn rfl rfl rfl rfl (c_oneQ (RN.mk rfl hn59 hd59) ((RN.mk rfl hn64 hd64).eq ((Rat.add_assoc _ _ _).symm))) rfl ?_
      rintro _ w17 ⟨rfl, hm17⟩
      replace ha := ha.gr hm17
      replace ka := ka.gr hm17
      replace hb := hb.gr hm17
      replace kb := kb.gr hm17
      replace hc := hc.gr hm17
      replace kc := kc.gr hm17
      replace hbd := hbd.gr hm17
      replace hm0 := hm0.trans hm17
      replace hb3 := Blk.gr hb3 hm17
      replace hb4 := Blk.gr hb4 hm17
      replace hb5 := Blk.gr hb5 hm17
      replace hb10 := Blk.gr hb10 hm17
      replace hn40 := hn40.gr hm17
      replace hd40 := hd40.gr hm17
      replace hn43 := hn43.gr hm17
      replace hd43 := hd43.gr hm17
      replace hn48 := hn48.gr hm17
      replace hd48 := hd48.gr hm17
      replace hn51 := hn51.gr hm17
      replace hd51 := hd51.gr hm17
      replace hn57 := hn57.gr hm17
      replace hd57 := hd57.gr hm17
      replace hn59 := hn59.gr hm17
      replace hd59 := hd59.gr hm17
      replace hn63 := hn63.gr hm17
      replace hd63 := hd63.gr hm17
      replace hn64 := hn64.gr hm17
      replace hd64 := hd64.gr hm17
      replace hS1 := hS1.trans hm17
      clear hm17
      refine L.nil (hX _ _ ⟨.inr hS1, ?_⟩)
      refine D.take 28 rfl (by decide +kernel) (fun w_ hS => (R1.pickT rfl rfl)) hS1 rfl ?_
      refine D.take 29 rfl (by decide +kernel) (fun w_ hS => (R1.move rfl)) hS1 rfl ?_
      refine D.takeOn 30 rfl rfl rfl rfl (by decide +kernel) (fun w_ hS => (R1.loadBox rfl (Blk.gr hb3_s hS) tyG27)) hS1 rfl ?_
      refine D.takeOn 31 rfl rfl rfl rfl (by decide +kernel) (fun w_ hS => (R1.loadBox rfl (Blk.gr hb4_s hS) tyG27)) hS1 rfl ?_
      refine D.takeOn 33 rfl rfl rfl rfl (by decide +kernel) (fun w_ hS => (R1.loadBox rfl (Blk.gr hb5_s hS) tyG27)) hS1 rfl ?_
      refine D.takeOn 35 rfl rfl rfl rfl (by decide +kernel) (fun w_ hS => (R1.loadBox rfl (Blk.gr hb3_s hS) tyG27)) hS1 rfl ?_
      refine D.takeOn 36 rfl rfl rfl rfl (by decide +kernel) (fun w_ hS => (R1.loadBox rfl (Blk.gr hb5_s hS) tyG27)) hS1 rfl ?_
      refine D.takeOn 38 rfl rfl rfl rfl (by decide +kernel) (fun w_ hS => (R1.loadBox rfl (Blk.gr hb4_s hS) tyG27)) hS1 rfl ?_
      refine D.takeOn 39 rfl rfl rfl rfl (by decide +kernel) (fun w_ hS => (R1.loadBox rfl (Blk.gr hb5_s hS) tyG27)) hS1 rfl ?_
      refine D.one 32 rfl (by decide +kernel) (fun hX => ?_)
      refine L.callOn rfl rfl rfl rfl (c_rat_Add (qa := qa) (qb := qb) hqa hqb ha ka hb kb hbd (by omega) (by omega) (by omega) (by omega)) rfl ?_
      rintro _ w18 ⟨⟨A70, c70, B70, e70, rfl, hn70, hd70⟩, hm18⟩
      replace ha := ha.gr hm18
      replace ka := ka.gr hm18
      replace hb := hb.gr hm18
      replace kb := kb.gr hm18
      replace hc := hc.gr hm18
      replace kc := kc.gr hm18
      replace hbd := hbd.gr hm18
      replace hm0 := hm0.trans hm18
      replace hb3 := Blk.gr hb3 hm18
      replace hb4 := Blk.gr hb4 hm18
      replace hb5 := Blk.gr hb5 hm18
      replace hb10 := Blk.gr hb10 hm18
      replace hn40 := hn40.gr hm18
      replace hd40 := hd40.gr hm18
      replace hn43 := hn43.gr hm18
      replace hd43 := hd43.gr hm18
      replace hn48 := hn48.gr hm18
      replace hd48 := hd48.gr hm18
      replace hn51 := hn51.gr hm18
      replace hd51 := hd51.gr hm18
      replace hn57 := hn57.gr hm18
      replace hd57 := hd57.gr hm18
      replace hn59 := hn59.gr hm18
      replace hd59 := hd59.gr hm18
      replace hn63 := hn63.gr hm18
      replace hd63 := hd63.gr hm18
      replace hn64 := hn64.gr hm18
      replace hd64 := hd64.gr hm18
      replace hS1 := hS1.trans hm18
      clear hm18
      have F70 := Fit.add FA FB
      refine L.nil (hX _ _ ⟨.inr hS1, ?_⟩)
      refine D.one 34 rfl (by decide +kernel) (fun hX => ?_)
      refine L.callOn rfl rfl rfl rfl (c_rat_Mul (qa := qa + qb) (qb := qc) (rv_toL _) hqc hn70 hd70 hc kc hbd (Nat.le_trans F70.1 (by decide)) (Nat.le_trans F70.2 (by decide)) (by omega) (by omega)) rfl ?_
      rintro _ w19 ⟨⟨A72, c72, B72, e72, rfl, hn72, hd72⟩, hm19⟩
      replace ha := ha.gr hm19
      replace ka := ka.gr hm19
      replace hb := hb.gr hm19
      replace kb := kb.gr hm19
      replace hc := hc.gr hm19
      replace kc := kc.gr hm19
      replace hbd := hbd.gr hm19
      replace hm0 := hm0.trans hm19
      replace hb3 := Blk.gr hb3 hm19
      replace hb4 := Blk.gr hb4 hm19
      replace hb5 := Blk.gr hb5 hm19
      replace hb10 := Blk.gr hb10 hm19
      replace hn40 := hn40.gr hm19
      replace hd40 := hd40.gr hm19
      replace hn43 := hn43.gr hm19
      replace hd43 := hd43.gr hm19
      replace hn48 := hn48.gr hm19
      replace hd48 := hd48.gr hm19
      replace hn51 := hn51.gr hm19
      replace hd51 := hd51.gr hm19
      replace hn57 := hn57.gr hm19
      replace hd57 := hd57.gr hm19
      replace hn59 := hn59.gr hm19
      replace hd59 := hd59.gr hm19
      replace hn63 := hn63.gr hm19
      replace hd63 := hd63.gr hm19
      replace hn64 := hn64.gr hm19
      replace hd64 := hd64.gr hm19
      replace hn70 := hn70.gr hm19
      replace hd70 := hd70.gr hm19
      replace hS1 := hS1.trans hm19
      clear hm19
      have F72 := Fit.mul F70 FC
      refine L.nil (hX _ _ ⟨.inr hS1, ?_⟩)
      refine D.one 37 rfl (by decide +kernel) (fun hX => ?_)
      refine L.callOn rfl rfl rfl rfl (c_rat_Mul (qa := qa) (qb := qc) hqa hqc ha ka hc kc hbd (by omega) (by omega) (by omega) (by omega)) rfl ?_
      rintro _ w20 ⟨⟨A75, c75, B75, e75, rfl, hn75, hd75⟩, hm20⟩
      replace ha := ha.gr hm20
      replace ka := ka.gr hm20
      replace hb := hb.gr hm20
      replace kb := kb.gr hm20
      replace hc := hc.gr hm20
      replace kc := kc.gr hm20
      replace hbd := hbd.gr hm20
      replace hm0 := hm0.trans hm20
      replace hb3 := Blk.gr hb3 hm20
      replace hb4 := Blk.gr hb4 hm20
      replace hb5 := Blk.gr hb5 hm20
      replace hb10 := Blk.gr hb10 hm20
      replace hn40 := hn40.gr hm20
      replace hd40 := hd40.gr hm20
      replace hn43 := hn43.gr hm20
      replace hd43 := hd43.gr hm20
      replace hn48 := hn48.gr hm20
      replace hd48 := hd48.gr hm20
      replace hn51 := hn51.gr hm20
      replace hd51 := hd51.gr hm20
      replace hn57 := hn57.gr hm20
      replace hd57 := hd57.gr hm20
      replace hn59 := hn59.gr hm20
      replace hd59 := hd59.gr hm20
      replace hn63 := hn63.gr hm20
      replace hd63 := hd63.gr hm20
      replace hn64 := hn64.gr hm20
      replace hd64 := hd64.gr hm20
      replace hn70 := hn70.gr hm20
      replace hd70 := hd70.gr hm20
      replace hn72 := hn72.gr hm20
      replace hd72 := hd72.gr hm20
      replace hS1 := hS1.trans hm20
      clear hm20
      have F75 := Fit.mul FA FC
      refine L.nil (hX _ _ ⟨.inr hS1, ?_⟩)
      refine D.one 40 rfl (by decide +kernel) (fun hX => ?_)
      refine L.callOn rfl rfl rfl rfl (c_rat_Mul (qa := qb) (qb := qc) hqb hqc hb kb hc kc hbd (by omega) (by omega) (by omega) (by omega)) rfl ?_
      rintro _ w21 ⟨⟨A78, c78, B78, e78, rfl, hn78, hd78⟩, hm21⟩
      replace ha := ha.gr hm21
      replace ka := ka.gr hm21
      replace hb := hb.gr hm21
      replace kb := kb.gr hm21
      replace hc := hc.gr hm21
      replace kc := kc.gr hm21
      replace hbd := hbd.gr hm21
      replace hm0 := hm0.trans hm21
      replace hb3 := Blk.gr hb3 hm21
      replace hb4 := Blk.gr hb4 hm21
      replace hb5 := Blk.gr hb5 hm21
      replace hb10 := Blk.gr hb10 hm21
      replace hn40 := hn40.gr hm21
      replace hd40 := hd40.gr hm21
      replace hn43 := hn43.gr hm21
      replace hd43 := hd43.gr hm21
      replace hn48 := hn48.gr hm21
      replace hd48 := hd48.gr hm21
      replace hn51 := hn51.gr hm21
      replace hd51 := hd51.gr hm21
      replace hn57 := hn57.gr hm21
      replace hd57 := hd57.gr hm21
      replace hn59 := hn59.gr hm21
      replace hd59 := hd59.gr hm21
      replace hn63 := hn63.gr hm21
      replace hd63 := hd63.gr hm21
      replace hn64 := hn64.gr hm21
      replace hd64 := hd64.gr hm21
      replace hn70 := hn70.gr hm21
      replace hd70 := hd70.gr hm21
      replace hn72 := hn72.gr hm21
      replace hd72 := hd72.gr hm21
      replace hn75 := hn75.gr hm21
      replace hd75 := hd75.gr hm21
      replace hS1 := hS1.trans hm21
      clear hm21
      have F78 := Fit.mul FB FC
      refine L.nil (hX _ _ ⟨.inr hS1, ?_⟩)
      refine D.one 41 rfl (by decide +kernel) (fun hX => ?_)
      refine L.callOn rfl rfl rfl rfl (c_rat_Add (qa := qa * qc) (qb := qb * qc) (rv_toL _) (rv_toL _) hn75 hd75 hn78 hd78 hbd (Nat.le_trans F75.1 (by decide)) (Nat.le_trans F75.2 (by decide)) (Nat.le_trans F78.1 (by decide)) (Nat.le_trans F78.2 (by decide))) rfl ?_
      rintro _ w22 ⟨⟨A79, c79, B79, e79, rfl, hn79, hd79⟩, hm22⟩
      replace ha := ha.gr hm22
      replace ka := ka.gr hm22
      replace hb := hb.gr hm22
      replace kb := kb.gr hm22
      replace hc := hc.gr hm22
      replace kc := kc.gr hm22
      replace hbd := hbd.gr hm22
      replace hm0 := hm0.trans hm22
      replace hb3 := Blk.gr hb3 hm22
      replace hb4 := Blk.gr hb4 hm22
      replace hb5 := Blk.gr hb5 hm22
      replace hb10 := Blk.gr hb10 hm22
      replace hn40 := hn40.gr hm22
      replace hd40 := hd40.gr hm22
      replace hn43 := hn43.gr hm22
      replace hd43 := hd43.gr hm22
      replace hn48 := hn48.gr hm22
      replace hd48 := hd48.gr hm22
      replace hn51 := hn51.gr hm22
      replace hd51 := hd51.gr hm22
      replace hn57 := hn57.gr hm22
      replace hd57 := hd57.gr hm22
      replace hn59 := hn59.gr hm22
      replace hd59 := hd59.gr hm22
      replace hn63 := hn63.gr hm22
      replace hd63 := hd63.gr hm22
      replace hn64 := hn64.gr hm22
      replace hd64 := hd64.gr hm22
      replace hn70 := hn70.gr hm22
      replace hd70 := hd70.gr hm22
      replace hn72 := hn72.gr hm22
      replace hd72 := hd72.gr hm22
      replace hn75 := hn75.gr hm22
      replace hd75 := hd75.gr hm22
      replace hn78 := hn78.gr hm22
      replace hd78 := hd78.gr hm22
      replace hS1 := hS1.trans hm22
      clear hm22
      have F79 := Fit.add F75 F78
      refine L.nil (hX _ _ ⟨.inr hS1, ?_⟩)
      refine D.one 42 rfl (by decide +kernel) (fun hX => ?_)
      refine L.callOn rfl rfl rfl rfl (c_oneQ (RN.mk rfl hn72 hd72) ((RN.mk rfl hn79 hd79).eq ((Rat.add_mul _ _ _).symm))) rfl ?_
      rintro _ w23 ⟨rfl, hm23⟩
      replace ha := ha.gr hm23
      replace ka := ka.gr hm23
      replace hb := hb.gr hm23
      replace kb := kb.gr hm23
      replace hc := hc.gr hm23
      replace kc := kc.gr hm23
      replace hbd := hbd.gr hm23
      replace hm0 := hm0.trans hm23
      replace hb3 := Blk.gr hb3 hm23
      replace hb4 := Blk.gr hb4 hm23
      replace hb5 := Blk.gr hb5 hm23
      replace hb10 := Blk.gr hb10 hm23
      replace hn40 := hn40.gr hm23
      replace hd40 := hd40.gr hm23
      replace hn43 := hn43.gr hm23
      replace hd43 := hd43.gr hm23
      replace hn48 := hn48.gr hm23
      replace hd48 := hd48.gr hm23
      replace hn51 := hn51.gr hm23
      replace hd51 := hd51.gr hm23
      replace hn57 := hn57.gr hm23
      replace hd57 := hd57.gr hm23
      replace hn59 := hn59.gr hm23
      replace hd59 := hd59.gr hm23
      replace hn63 := hn63.gr hm23
      replace hd63 := hd63.gr hm23
      replace hn64 := hn64.gr hm23
      replace hd64 := hd64.gr hm23
      replace hn70 := hn70.gr hm23
      replace hd70 := hd70.gr hm23
      replace hn72 := hn72.gr hm23
      replace hd72 := hd72.gr hm23
      replace hn75 := hn75.gr hm23
      replace hd75 := hd75.gr hm23
      replace hn78 := hn78.gr hm23
      replace hd78 := hd78.gr hm23
      replace hn79 := hn79.gr hm23
      replace hd79 := hd79.gr hm23
      replace hS1 := hS1.trans hm23
      clear hm23
      refine L.nil (hX _ _ ⟨.inr hS1, ?_⟩)
      refine D.take 43 rfl (by decide +kernel) (fun w_ hS => (R1.pickT rfl rfl)) hS1 rfl ?_
      refine D.take 44 rfl (by decide +kernel) (fun w_ hS => (R1.move rfl)) hS1 rfl ?_
      refine D.one 45 rfl (by decide +kernel) (fun hX => ?_)
      refine L.callOn rfl rfl rfl rfl (c_known2) rfl ?_
      rintro _ w24 ⟨rfl, hm24⟩
      replace ha := ha.gr hm24
      replace ka := ka.gr hm24
      replace hb := hb.gr hm24
      replace kb := kb.gr hm24
      replace hc := hc.gr hm24
      replace kc := kc.gr hm24
      replace hbd := hbd.gr hm24
      replace hm0 := hm0.trans hm24
      replace hb3 := Blk.gr hb3 hm24
      replace hb4 := Blk.gr hb4 hm24
      replace hb5 := Blk.gr hb5 hm24
      replace hb10 := Blk.gr hb10 hm24
      replace hn40 := hn40.gr hm24
      replace hd40 := hd40.gr hm24
      replace hn43 := hn43.gr hm24
      replace hd43 := hd43.gr hm24
      replace hn48 := hn48.gr hm24
      replace hd48 := hd48.gr hm24
      replace hn51 := hn51.gr hm24
      replace hd51 := hd51.gr hm24
      replace hn57 := hn57.gr hm24
      replace hd57 := hd57.gr hm24
      replace hn59 := hn59.gr hm24
      replace hd59 := hd59.gr hm24
      replace hn63 := hn63.gr hm24
      replace hd63 := hd63.gr hm24
      replace hn64 := hn64.gr hm24
      replace hd64 := hd64.gr hm24
      replace hn70 := hn70.gr hm24
      replace hd70 := hd70.gr hm24
      replace hn72 := hn72.gr hm24
      replace hd72 := hd72.gr hm24
      replace hn75 := hn75.gr hm24
      replace hd75 := hd75.gr hm24
      replace hn78 := hn78.gr hm24
      replace hd78 := hd78.gr hm24
      replace hn79 := hn79.gr hm24
      replace hd79 := hd79.gr hm24
      replace hS1 := hS1.trans hm24
      clear hm24
      refine L.nil (hX _ _ ⟨.inr hS1, ?_⟩)
      refine D.take 46 rfl (by decide +kernel) (fun w_ hS => (R1.pickT rfl rfl)) hS1 rfl ?_
      refine D.take 47 rfl (by decide +kernel) (fun w_ hS => (R1.assign rfl)) hS1 rfl ?_
      refine D.done (by decide +kernel) ?_ _
      refine X.seq ?_
      refine W.ret ?_
      refine X.result1 rfl (.tmp rfl .nil) ?_
      exact ⟨rfl, hm0⟩
  ·
    have hcc_ := hgd12
    refine L.off rfl rfl rfl rfl rfl ?_
    refine L.off rfl rfl rfl rfl rfl ?_
    refine L.off rfl rfl rfl rfl rfl ?_
    refine L.off rfl rfl rfl rfl rfl ?_
    refine L.off rfl rfl rfl rfl rfl ?_
    refine L.off rfl rfl rfl rfl rfl ?_
    refine L.off rfl rfl rfl rfl rfl ?_
    refine L.off rfl rfl rfl rfl rfl ?_
    refine L.off rfl rfl rfl rfl rfl ?_
    refine L.off rfl rfl rfl rfl rfl ?_
    refine L.off rfl rfl rfl rfl rfl ?_
    refine L.off rfl rfl rfl rfl rfl ?_
    refine L.off rfl rfl rfl rfl rfl ?_
    refine L.off rfl rfl rfl rfl rfl ?_
    refine L.off rfl rfl rfl rfl rfl ?_
    refine L.off rfl rfl rfl rfl rfl ?_
    refine L.off rfl rfl rfl rfl rfl ?_
    refine L.off rfl rfl rfl rfl rfl ?_
    refine L.off rfl rfl rfl rfl rfl ?_
    refine L.off rfl rfl rfl rfl rfl ?_
    refine L.off rfl rfl rfl rfl rfl ?_
    refine L.off rfl rfl rfl rfl rfl ?_
    refine L.off rfl rfl rfl rfl rfl ?_
    refine L.off rfl rfl rfl rfl rfl ?_
    refine L.v (R1.pickT rfl rfl) rfl ?_
    refine L.nil ?_
    refine X.seq ?_
    refine W.condT rfl ?_
    refine W.seq ?_
    refine W.region ?_
    refine L.v (R1.assign rfl) rfl ?_
    refine L.nil ?_
    refine X.seq ?_
    refine W.ret ?_
    refine X.thenRet ?_
    refine X.result1 rfl (.tmp rfl .nil) ?_
    exact ⟨rfl, hm0⟩

end Go.Proofs.Ytjeodekhamdcmaa
