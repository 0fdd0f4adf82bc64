/- Walks: what the functions compute. -/
import Derived.Test.YtjeodekhamdcmaaLawB
import Derived.Test.YtjeodekhamdcmaaRatI
namespace Go.Proofs.Ytjeodekhamdcmaa
open Go.RowKit
set_option linter.unusedVariables false
set_option linter.unusedSimpArgs false
set_option maxRecDepth 10000
set_option maxHeartbeats 1000000 in
theorem c_RatLooks {M : List Nat} {w : World} {n : Int} {sa : Bool} {an ad : Value} {xa ya : List Nat} {qa : Rat} (hqa : rv sa (val xa) (val ya) = qa) (ha : U32 M w an xa) (ka : U32 M w ad ya) (hbd : Bd M w) (la : xa.length ≤ 140737488355328) (ma : ya.length ≤ 140737488355328) (hn1 : -9223372036854775808 ≤ n) (hn2 : n ≤ 9223372036854775807) :
    Ret Try.prog 15 #[.agg #[.bool sa, an, ad], .int .i64 n] w (fun r w' => r = .bool true ∧ Mod [] w w') := by
  obtain ⟨Aa, ca, rfl⟩ := ha.form
  obtain ⟨Ba, da, rfl⟩ := ka.form
  refine Ret.of (vs := [.agg #[.bool sa, .slice Aa xa.length ca, .slice Ba ya.length da], .int .i64 n]) (n := 93) Try.func15 rfl rfl rfl rfl ?_
  have hm0 : Mod [] w w := Mod.refl _ _
  refine W.seq ?_
  refine W.region ?_
  refine L.box rfl rfl ?_
  intro g2 w1 hN2
  replace ha := ha.new hN2
  replace ka := ka.new hN2
  replace hbd := hbd.new hN2
  have hge_g2 := New.ge hN2 hm0.size
  replace hm0 := hm0.trans (hN2.mod.mono (by simp))
  have hb2 := hN2.blk
  clear hN2
  refine L.v (R1.assign rfl) rfl ?_
  refine L.nil ?_
  refine X.seq ?_
  refine W.seq ?_
  refine W.seq ?_
  refine W.cut (ι := Bool) (fun b => [(1, .int .i64 n), (2, .pointer (some ⟨g2, 0, none⟩)), (30, .bool b)]) (fun b w_ => (b = false → xa.length ≤ 20 ∧ ya.length ≤ 20) ∧ U32 (g2 :: M) w_ (.slice Aa xa.length ca) xa ∧ U32 (g2 :: M) w_ (.slice Ba ya.length da) ya ∧ Blk w_ g2 27 #[.bool sa, .slice Aa xa.length ca, .slice Ba ya.length da] ∧ Bd (g2 :: M) w_ ∧ Mod [] w w_) ?_ ?_
  ·
    refine W.region ?_
    refine L.v (R1.fieldAt rfl tyF27_1) rfl ?_
    refine L.v (R1.loadFld rfl hb2 rfl tyP25) rfl ?_
    refine L.v (R1.len rfl tyS25) rfl ?_
    refine L.v ((R1.gt rfl rfl).asB (c := decide (20 < (xa.length : Int))) (rfl)) rfl ?_
    refine L.v (R1.move rfl) rfl ?_
    cases hgd9 : decide (20 < (xa.length : Int))
    ·
      try simp only [decide_eq_true_eq, decide_eq_false_iff_not, Bool.not_eq_true', Bool.not_eq_false', Int.not_lt, Int.not_le, ne_eq, Decidable.not_not] at hgd9
      refine L.on rfl rfl rfl (R1.fieldAt rfl tyF27_2) rfl ?_
      refine L.on rfl rfl rfl (R1.loadFld rfl hb2 rfl tyP25) rfl ?_
      refine L.on rfl rfl rfl (R1.len rfl tyS25) rfl ?_
      refine L.on rfl rfl rfl ((R1.gt rfl rfl).asB (c := decide (20 < (ya.length : Int))) (rfl)) rfl ?_
      refine L.v (R1.pickF rfl rfl) rfl ?_
      refine L.v (R1.move rfl) rfl ?_
      cases hgd15 : decide (20 < (ya.length : Int))
      ·
        try simp only [decide_eq_true_eq, decide_eq_false_iff_not, Bool.not_eq_true', Bool.not_eq_false', Int.not_lt, Int.not_le, ne_eq, Decidable.not_not] at hgd15
        refine L.on rfl rfl rfl (R1.fieldAt rfl tyF27_1) rfl ?_
        refine L.on rfl rfl rfl (R1.loadFld rfl hb2 rfl tyP25) rfl ?_
        refine L.on rfl rfl rfl (R1.len rfl tyS25) rfl ?_
        refine L.on rfl rfl rfl (R1.fieldAt rfl tyF27_2) rfl ?_
        refine L.on rfl rfl rfl (R1.loadFld rfl hb2 rfl tyP25) rfl ?_
        refine L.on rfl rfl rfl (R1.len rfl tyS25) rfl ?_
        refine L.on rfl rfl rfl (R1.addI rfl rfl (by omega)) rfl ?_
        refine L.on rfl rfl rfl ((R1.gt rfl rfl).asB (c := decide (16 < ((xa.length + ya.length : Nat) : Int))) (rfl)) rfl ?_
        refine L.on rfl rfl rfl (R1.move rfl) rfl ?_
        cases hgd24 : decide (16 < ((xa.length + ya.length : Nat) : Int))
        ·
          try simp only [decide_eq_true_eq, decide_eq_false_iff_not, Bool.not_eq_true', Bool.not_eq_false', Int.not_lt, Int.not_le, ne_eq, Decidable.not_not] at hgd24
          refine L.off rfl rfl rfl rfl rfl ?_
          refine L.off rfl rfl rfl rfl rfl ?_
          refine L.off rfl rfl rfl rfl rfl ?_
          refine L.off rfl rfl rfl rfl rfl ?_
          refine L.on rfl rfl rfl (R1.pickF rfl rfl) rfl ?_
          refine L.v (R1.pickF rfl rfl) rfl ?_
          refine L.nil ?_
          refine X.join false ?_ ?_
          · exact ⟨rfl, rfl, rfl, trivial⟩
          ·
            exact ⟨fun _ => ⟨by omega, by omega⟩, ha, ka, hb2, hbd, hm0⟩
        ·
          try simp only [decide_eq_true_eq, decide_eq_false_iff_not, Bool.not_eq_true', Bool.not_eq_false', Int.not_lt, Int.not_le, ne_eq, Decidable.not_not] at hgd24
          refine L.on rfl rfl rfl (R1.fieldAt rfl tyF27_2) rfl ?_
          refine L.on rfl rfl rfl (R1.loadFld rfl hb2 rfl tyP25) rfl ?_
          refine L.on rfl rfl rfl (R1.len rfl tyS25) rfl ?_
          refine L.on rfl rfl rfl ((R1.gt rfl rfl).asB (c := decide (1 < (ya.length : Int))) (rfl)) rfl ?_
          refine L.on rfl rfl rfl (R1.pickT rfl rfl) rfl ?_
          refine L.v (R1.pickF rfl rfl) rfl ?_
          refine L.nil ?_
          refine X.join (decide (1 < (ya.length : Int))) ?_ ?_
          · exact ⟨rfl, rfl, rfl, trivial⟩
          ·
            exact ⟨fun _ => ⟨by omega, by omega⟩, ha, ka, hb2, hbd, hm0⟩
      ·
        try simp only [decide_eq_true_eq, decide_eq_false_iff_not, Bool.not_eq_true', Bool.not_eq_false', Int.not_lt, Int.not_le, ne_eq, Decidable.not_not] at hgd15
        refine L.off rfl rfl rfl rfl rfl ?_
        refine L.off rfl rfl rfl rfl rfl ?_
        refine L.off rfl rfl rfl rfl rfl ?_
        refine L.off rfl rfl rfl rfl rfl ?_
        refine L.off rfl rfl rfl rfl rfl ?_
        refine L.off rfl rfl rfl rfl rfl ?_
        refine L.off rfl rfl rfl rfl rfl ?_
        refine L.off rfl rfl rfl rfl rfl ?_
        refine L.off rfl rfl rfl rfl rfl ?_
        refine L.offU rfl rfl rfl rfl ?_
        refine L.offU rfl rfl rfl rfl ?_
        refine L.offU rfl rfl rfl rfl ?_
        refine L.offU rfl rfl rfl rfl ?_
        refine L.off rfl rfl rfl rfl rfl ?_
        refine L.v (R1.pickT rfl rfl) rfl ?_
        refine L.nil ?_
        refine X.join true ?_ ?_
        · exact ⟨rfl, rfl, rfl, trivial⟩
        ·
          exact ⟨(fun h => by cases h), ha, ka, hb2, hbd, hm0⟩
    ·
      try simp only [decide_eq_true_eq, decide_eq_false_iff_not, Bool.not_eq_true', Bool.not_eq_false', Int.not_lt, Int.not_le, ne_eq, Decidable.not_not] at hgd9
      refine L.off rfl rfl rfl rfl rfl ?_
      refine L.off rfl rfl rfl rfl rfl ?_
      refine L.off rfl rfl rfl rfl rfl ?_
      refine L.off rfl rfl rfl rfl rfl ?_
      refine L.v (R1.pickT rfl rfl) rfl ?_
      refine L.v (R1.move rfl) rfl ?_
      refine L.off rfl rfl rfl rfl rfl ?_
      refine L.off rfl rfl rfl rfl rfl ?_
      refine L.off rfl rfl rfl rfl rfl ?_
      refine L.off rfl rfl rfl rfl rfl ?_
      refine L.off rfl rfl rfl rfl rfl ?_
      refine L.off rfl rfl rfl rfl rfl ?_
      refine L.off rfl rfl rfl rfl rfl ?_
      refine L.off rfl rfl rfl rfl rfl ?_
      refine L.off rfl rfl rfl rfl rfl ?_
      refine L.offU rfl rfl rfl rfl ?_
      refine L.offU rfl rfl rfl rfl ?_
      refine L.offU rfl rfl rfl rfl ?_
      refine L.offU rfl rfl rfl rfl ?_
      refine L.off rfl rfl rfl rfl rfl ?_
      refine L.v (R1.pickT rfl rfl) rfl ?_
      refine L.nil ?_
      refine X.join true ?_ ?_
      · exact ⟨rfl, rfl, rfl, trivial⟩
      ·
        exact ⟨(fun h => by cases h), ha, ka, hb2, hbd, hm0⟩
  ·
    rintro b wj ⟨hb9, ha, ka, hb2, hbd, hm0⟩
    refine X.seq ?_
    refine W.cond rfl ?_ ?_
    ·
      intro hc30
      have hcc_ := hc30
      refine W.seq ?_
      refine W.region ?_
      refine L.v (R1.assign rfl) rfl ?_
      refine L.nil ?_
      refine X.seq ?_
      refine W.ret ?_
      refine X.thenRet ?_
      refine X.result1 rfl (.tmp rfl .nil) ?_
      exact ⟨rfl, hm0⟩
    ·
      intro hc30
      have hcc_ := hc30
      obtain ⟨zxa, zya⟩ := hb9 hc30
      have FA : Fit qa 21 := Fit.rv hqa ha.2 ka.2 zxa zya
      refine W.skip ?_
      refine X.seq ?_
      refine W.seq ?_
      refine W.drawW (T := []) rfl (by decide +kernel) (NoHang.then NoHang.post) (fun w2 hm2 => ?_)
      replace ha := ha.gr hm2
      replace ka := ka.gr hm2
      replace hb2 := Blk.gr hb2 hm2
      replace hbd := hbd.gr hm2
      replace hm0 := hm0.trans hm2
      have hS1 : Mod [] w2 w2 := Mod.refl _ _
      clear hm2
      have hb2_s := hb2
      refine D.take 0 rfl (by decide +kernel) (fun w_ hS => (R1.loadBox rfl (Blk.gr hb2_s hS) tyG27)) hS1 rfl ?_
      refine D.take 2 rfl (by decide +kernel) (fun w_ hS => (R1.loadBox rfl (Blk.gr hb2_s hS) tyG27)) hS1 rfl ?_
      refine D.one 1 rfl (by decide +kernel) (fun hX => ?_)
      refine L.call rfl (c_rat_Norm (q := qa) hqa ha ka hbd (by omega) (by omega)) rfl ?_
      rintro _ w3 ⟨⟨A32, c32, B32, e32, rfl, hn32, hd32⟩, hm3⟩
      replace ha := ha.gr hm3
      replace ka := ka.gr hm3
      replace hb2 := Blk.gr hb2 hm3
      replace hbd := hbd.gr hm3
      replace hm0 := hm0.trans hm3
      replace hS1 := hS1.trans hm3
      clear hm3
      have F32 := FA
      refine L.nil (hX _ _ ⟨.inr hS1, ?_⟩)
      refine D.one 3 rfl (by decide +kernel) (fun hX => ?_)
      refine L.call rfl (c_ref2_Norm (q := qa) hqa ha ka hbd (by omega) (by omega)) rfl ?_
      rintro _ w4 ⟨⟨A34, c34, B34, e34, rfl, hn34, hd34⟩, hm4⟩
      replace ha := ha.gr hm4
      replace ka := ka.gr hm4
      replace hb2 := Blk.gr hb2 hm4
      replace hbd := hbd.gr hm4
      replace hm0 := hm0.trans hm4
      replace hn32 := hn32.gr hm4
      replace hd32 := hd32.gr hm4
      replace hS1 := hS1.trans hm4
      clear hm4
      have F34 := FA
      refine L.nil (hX _ _ ⟨.inr hS1, ?_⟩)
      refine D.one 4 rfl (by decide +kernel) (fun hX => ?_)
      refine L.call rfl (c_oneQ (RN.mk rfl hn32 hd32) ((RN.mk rfl hn34 hd34).eq (rfl))) rfl ?_
      rintro _ w5 ⟨rfl, hm5⟩
      replace ha := ha.gr hm5
      replace ka := ka.gr hm5
      replace hb2 := Blk.gr hb2 hm5
      replace hbd := hbd.gr hm5
      replace hm0 := hm0.trans hm5
      replace hn32 := hn32.gr hm5
      replace hd32 := hd32.gr hm5
      replace hn34 := hn34.gr hm5
      replace hd34 := hd34.gr hm5
      replace hS1 := hS1.trans hm5
      clear hm5
      refine L.nil (hX _ _ ⟨.inr hS1, ?_⟩)
      refine D.take 5 rfl (by decide +kernel) (fun w_ hS => (R1.move rfl)) hS1 rfl ?_
      refine D.takeOn 6 rfl rfl rfl rfl (by decide +kernel) (fun w_ hS => (R1.loadBox rfl (Blk.gr hb2_s hS) tyG27)) hS1 rfl ?_
      refine D.takeOn 8 rfl rfl rfl rfl (by decide +kernel) (fun w_ hS => (R1.loadBox rfl (Blk.gr hb2_s hS) tyG27)) hS1 rfl ?_
      refine D.one 7 rfl (by decide +kernel) (fun hX => ?_)
      refine L.callOn rfl rfl rfl rfl (c_rat_Is ha ka hbd (by omega) (by omega)) rfl ?_
      rintro _ w6 ⟨rfl, hm6⟩
      replace ha := ha.gr hm6
      replace ka := ka.gr hm6
      replace hb2 := Blk.gr hb2 hm6
      replace hbd := hbd.gr hm6
      replace hm0 := hm0.trans hm6
      replace hn32 := hn32.gr hm6
      replace hd32 := hd32.gr hm6
      replace hn34 := hn34.gr hm6
      replace hd34 := hd34.gr hm6
      replace hS1 := hS1.trans hm6
      clear hm6
      refine L.nil (hX _ _ ⟨.inr hS1, ?_⟩)
      refine D.one 9 rfl (by decide +kernel) (fun hX => ?_)
      refine L.callOn rfl rfl rfl rfl (c_ref2_Is ha ka hbd (by omega) (by omega)) rfl ?_
      rintro _ w7 ⟨rfl, hm7⟩
      replace ha := ha.gr hm7
      replace ka := ka.gr hm7
      replace hb2 := Blk.gr hb2 hm7
      replace hbd := hbd.gr hm7
      replace hm0 := hm0.trans hm7
      replace hn32 := hn32.gr hm7
      replace hd32 := hd32.gr hm7
      replace hn34 := hn34.gr hm7
      replace hd34 := hd34.gr hm7
      replace hS1 := hS1.trans hm7
      clear hm7
      refine L.nil (hX _ _ ⟨.inr hS1, ?_⟩)
      refine D.takeOn 10 rfl rfl rfl rfl (by decide +kernel) (fun w_ hS => ((R1.eqB rfl rfl tyB4).asB (c := true) (by simp))) hS1 rfl ?_
      refine D.take 11 rfl (by decide +kernel) (fun w_ hS => (R1.pickT rfl rfl)) hS1 rfl ?_
      refine D.take 12 rfl (by decide +kernel) (fun w_ hS => (R1.move rfl)) hS1 rfl ?_
      refine D.takeOn 13 rfl rfl rfl rfl (by decide +kernel) (fun w_ hS => (R1.loadBox rfl (Blk.gr hb2_s hS) tyG27)) hS1 rfl ?_
      refine D.takeOn 15 rfl rfl rfl rfl (by decide +kernel) (fun w_ hS => (R1.loadBox rfl (Blk.gr hb2_s hS) tyG27)) hS1 rfl ?_
      refine D.one 14 rfl (by decide +kernel) (fun hX => ?_)
      refine L.callOn rfl rfl rfl rfl (c_rat_Zero (q := qa) hqa ha ka hbd (by omega) (by omega)) rfl ?_
      rintro _ w8 ⟨rfl, hm8⟩
      replace ha := ha.gr hm8
      replace ka := ka.gr hm8
      replace hb2 := Blk.gr hb2 hm8
      replace hbd := hbd.gr hm8
      replace hm0 := hm0.trans hm8
      replace hn32 := hn32.gr hm8
      replace hd32 := hd32.gr hm8
      replace hn34 := hn34.gr hm8
      replace hd34 := hd34.gr hm8
      replace hS1 := hS1.trans hm8
      clear hm8
      refine L.nil (hX _ _ ⟨.inr hS1, ?_⟩)
      refine D.one 16 rfl (by decide +kernel) (fun hX => ?_)
      refine L.callOn rfl rfl rfl rfl (c_ref2_Zero (q := qa) hqa ha ka hbd (by omega) (by omega)) rfl ?_
      rintro _ w9 ⟨rfl, hm9⟩
      replace ha := ha.gr hm9
      replace ka := ka.gr hm9
      replace hb2 := Blk.gr hb2 hm9
      replace hbd := hbd.gr hm9
      replace hm0 := hm0.trans hm9
      replace hn32 := hn32.gr hm9
      replace hd32 := hd32.gr hm9
      replace hn34 := hn34.gr hm9
      replace hd34 := hd34.gr hm9
      replace hS1 := hS1.trans hm9
      clear hm9
      refine L.nil (hX _ _ ⟨.inr hS1, ?_⟩)
      refine D.takeOn 17 rfl rfl rfl rfl (by decide +kernel) (fun w_ hS => ((R1.eqB rfl rfl tyB4).asB (c := true) (by simp))) hS1 rfl ?_
      refine D.take 18 rfl (by decide +kernel) (fun w_ hS => (R1.pickT rfl rfl)) hS1 rfl ?_
      refine D.take 19 rfl (by decide +kernel) (fun w_ hS => (R1.move rfl)) hS1 rfl ?_
      refine D.takeOn 20 rfl rfl rfl rfl (by decide +kernel) (fun w_ hS => (R1.loadBox rfl (Blk.gr hb2_s hS) tyG27)) hS1 rfl ?_
      refine D.takeOn 22 rfl rfl rfl rfl (by decide +kernel) (fun w_ hS => (R1.loadBox rfl (Blk.gr hb2_s hS) tyG27)) hS1 rfl ?_
      refine D.one 21 rfl (by decide +kernel) (fun hX => ?_)
      refine L.callOn rfl rfl rfl rfl (c_rat_Large (q := qa) hqa ha ka hbd (by omega) (by omega)) rfl ?_
      rintro _ w10 ⟨rfl, hm10⟩
      replace ha := ha.gr hm10
      replace ka := ka.gr hm10
      replace hb2 := Blk.gr hb2 hm10
      replace hbd := hbd.gr hm10
      replace hm0 := hm0.trans hm10
      replace hn32 := hn32.gr hm10
      replace hd32 := hd32.gr hm10
      replace hn34 := hn34.gr hm10
      replace hd34 := hd34.gr hm10
      replace hS1 := hS1.trans hm10
      clear hm10
      refine L.nil (hX _ _ ⟨.inr hS1, ?_⟩)
      refine D.one 23 rfl (by decide +kernel) (fun hX => ?_)
      refine L.callOn rfl rfl rfl rfl (c_ref2_Large (q := qa) hqa ha ka hbd (by omega) (by omega)) rfl ?_
      rintro _ w11 ⟨rfl, hm11⟩
      replace ha := ha.gr hm11
      replace ka := ka.gr hm11
      replace hb2 := Blk.gr hb2 hm11
      replace hbd := hbd.gr hm11
      replace hm0 := hm0.trans hm11
      replace hn32 := hn32.gr hm11
      replace hd32 := hd32.gr hm11
      replace hn34 := hn34.gr hm11
      replace hd34 := hd34.gr hm11
      replace hS1 := hS1.trans hm11
      clear hm11
      refine L.nil (hX _ _ ⟨.inr hS1, ?_⟩)
      refine D.takeOn 24 rfl rfl rfl rfl (by decide +kernel) (fun w_ hS => ((R1.eqB rfl rfl tyB4).asB (c := true) (by simp))) hS1 rfl ?_
      refine D.take 25 rfl (by decide +kernel) (fun w_ hS => (R1.pickT rfl rfl)) hS1 rfl ?_
      refine D.take 26 rfl (by decide +kernel) (fun w_ hS => (R1.move rfl)) hS1 rfl ?_
      refine D.takeOn 27 rfl rfl rfl rfl (by decide +kernel) (fun w_ hS => (R1.loadBox rfl (Blk.gr hb2_s hS) tyG27)) hS1 rfl ?_
      refine D.takeOn 29 rfl rfl rfl rfl (by decide +kernel) (fun w_ hS => (R1.loadBox rfl (Blk.gr hb2_s hS) tyG27)) hS1 rfl ?_
      refine D.one 28 rfl (by decide +kernel) (fun hX => ?_)
      refine L.callOn rfl rfl rfl rfl (c_rat_Neg (q := qa) hqa ha ka hbd (by omega) (by omega)) rfl ?_
      rintro _ w12 ⟨⟨A59, c59, B59, e59, rfl, hn59, hd59⟩, hm12⟩
      replace ha := ha.gr hm12
      replace ka := ka.gr hm12
      replace hb2 := Blk.gr hb2 hm12
      replace hbd := hbd.gr hm12
      replace hm0 := hm0.trans hm12
      replace hn32 := hn32.gr hm12
      replace hd32 := hd32.gr hm12
      replace hn34 := hn34.gr hm12
      replace hd34 := hd34.gr hm12
      replace hS1 := hS1.trans hm12
      clear hm12
      have F59 := Fit.neg FA
      refine L.nil (hX _ _ ⟨.inr hS1, ?_⟩)
      refine D.one 30 rfl (by decide +kernel) (fun hX => ?_)
      refine L.callOn rfl rfl rfl rfl (c_ref2_Neg (q := qa) hqa ha ka hbd (by omega) (by omega)) rfl ?_
      rintro _ w13 ⟨⟨A61, c61, B61, e61, rfl, hn61, hd61⟩, hm13⟩
      replace ha := ha.gr hm13
      replace ka := ka.gr hm13
      replace hb2 := Blk.gr hb2 hm13
      replace hbd := hbd.gr hm13
      replace hm0 := hm0.trans hm13
      replace hn32 := hn32.gr hm13
      replace hd32 := hd32.gr hm13
      replace hn34 := hn34.gr hm13
      replace hd34 := hd34.gr hm13
      replace hn59 := hn59.gr hm13
      replace hd59 := hd59.gr hm13
      replace hS1 := hS1.trans hm13
      clear hm13
      have F61 := Fit.neg FA
      refine L.nil (hX _ _ ⟨.inr hS1, ?_⟩)
      refine D.one 31 rfl (by decide +kernel) (fun hX => ?_)
      refine L.callOn rfl rfl rfl rfl (c_oneQ (RN.mk rfl hn59 hd59) ((RN.mk rfl hn61 hd61).eq (rfl))) rfl ?_
      rintro _ w14 ⟨rfl, hm14⟩
      replace ha := ha.gr hm14
      replace ka := ka.gr hm14
      replace hb2 := Blk.gr hb2 hm14
      replace hbd := hbd.gr hm14
      replace hm0 := hm0.trans hm14
      replace hn32 := hn32.gr hm14
      replace hd32 := hd32.gr hm14
      replace hn34 := hn34.gr hm14
      replace hd34 := hd34.gr hm14
      replace hn59 := hn59.gr hm14
      replace hd59 := hd59.gr hm14
      replace hn61 := hn61.gr hm14
      replace hd61 := hd61.gr hm14
      replace hS1 := hS1.trans hm14
      clear hm14
      refine L.nil (hX _ _ ⟨.inr hS1, ?_⟩)
      refine D.take 32 rfl (by decide +kernel) (fun w_ hS => (R1.pickT rfl rfl)) hS1 rfl ?_
      refine D.take 33 rfl (by decide +kernel) (fun w_ hS => (R1.move rfl)) hS1 rfl ?_
      refine D.takeOn 34 rfl rfl rfl rfl (by decide +kernel) (fun w_ hS => (R1.loadBox rfl (Blk.gr hb2_s hS) tyG27)) hS1 rfl ?_
      refine D.takeOn 36 rfl rfl rfl rfl (by decide +kernel) (fun w_ hS => (R1.loadBox rfl (Blk.gr hb2_s hS) tyG27)) hS1 rfl ?_
      refine D.one 35 rfl (by decide +kernel) (fun hX => ?_)
      refine L.callOn rfl rfl rfl rfl (c_rat_Floor (q := qa) hqa ha ka hbd (by omega) (by omega)) rfl ?_
      rintro _ w15 ⟨⟨A66, c66, B66, e66, rfl, hn66, hd66⟩, hm15⟩
      replace ha := ha.gr hm15
      replace ka := ka.gr hm15
      replace hb2 := Blk.gr hb2 hm15
      replace hbd := hbd.gr hm15
      replace hm0 := hm0.trans hm15
      replace hn32 := hn32.gr hm15
      replace hd32 := hd32.gr hm15
      replace hn34 := hn34.gr hm15
      replace hd34 := hd34.gr hm15
      replace hn59 := hn59.gr hm15
      replace hd59 := hd59.gr hm15
      replace hn61 := hn61.gr hm15
      replace hd61 := hd61.gr hm15
      replace hS1 := hS1.trans hm15
      clear hm15
      have F66 := Fit.floor FA
      refine L.nil (hX _ _ ⟨.inr hS1, ?_⟩)
      refine D.one 37 rfl (by decide +kernel) (fun hX => ?_)
      refine L.callOn rfl rfl rfl rfl (c_ref2_Floor (q := qa) hqa ha ka hbd (by omega) (by omega)) rfl ?_
      rintro _ w16 ⟨⟨A68, c68, B68, e68, rfl, hn68, hd68⟩, hm16⟩
      replace ha := ha.gr hm16
      replace ka := ka.gr hm16
      replace hb2 := Blk.gr hb2 hm16
      replace hbd := hbd.gr hm16
      replace hm0 := hm0.trans hm16
      replace hn32 := hn32.gr hm16
      replace hd32 := hd32.gr hm16
      replace hn34 := hn34.gr hm16
      replace hd34 := hd34.gr hm16
      replace hn59 := hn59.gr hm16
      replace hd59 := hd59.gr hm16
      replace hn61 := hn61.gr hm16
      replace hd61 := hd61.gr hm16
      replace hn66 := hn66.gr hm16
      replace hd66 := hd66.gr hm16
      replace hS1 := hS1.trans hm16
      clear hm16
      have F68 := Fit.floor FA
      refine L.nil (hX _ _ ⟨.inr hS1, ?_⟩)
      refine D.one 38 rfl (by decide +kernel) (fun hX => ?_)
      refine L.callOn rfl rfl rfl rfl (c_oneQ (RN.mk rfl hn66 hd66) ((RN.mk rfl hn68 hd68).eq (rfl))) rfl ?_
      rintro _ w17 ⟨rfl, hm17⟩
      replace ha := ha.gr hm17
      replace ka := ka.gr hm17
      replace hb2 := Blk.gr hb2 hm17
      replace hbd := hbd.gr hm17
      replace hm0 := hm0.trans hm17
      replace hn32 := hn32.gr hm17
      replace hd32 := hd32.gr hm17
      replace hn34 := hn34.gr hm17
      replace hd34 := hd34.gr hm17
      replace hn59 := hn59.gr hm17
      replace hd59 := hd59.gr hm17
      replace hn61 := hn61.gr hm17
      replace hd61 := hd61.gr hm17
      replace hn66 := hn66.gr hm17
      replace hd66 := hd66.gr hm17
      replace hn68 := hn68.gr hm17
      replace hd68 := hd68.gr hm17
      replace hS1 := hS1.trans hm17
      clear hm17
      refine L.nil (hX _ _ ⟨.inr hS1, ?_⟩)
      refine D.take 39 rfl (by decide +kernel) (fun w_ hS => (R1.pickT rfl rfl)) hS1 rfl ?_
      refine D.take 40 rfl (by decide +kernel) (fun w_ hS => (R1.move rfl)) hS1 rfl ?_
      refine D.takeOn 41 rfl rfl rfl rfl (by decide +kernel) (fun w_ hS => (R1.move rfl)) hS1 rfl ?_
      refine D.takeOn 43 rfl rfl rfl rfl (by decide +kernel) (fun w_ hS => (R1.move rfl)) hS1 rfl ?_
      refine D.one 42 rfl (by decide +kernel) (fun hX => ?_)
      refine L.callOn rfl rfl rfl rfl (c_rat_Int (n := n) (by omega) (by omega) hbd) rfl ?_
      rintro _ w18 ⟨⟨A73, c73, B73, e73, rfl, hn73, hd73⟩, hm18⟩
      replace ha := ha.gr hm18
      replace ka := ka.gr hm18
      replace hb2 := Blk.gr hb2 hm18
      replace hbd := hbd.gr hm18
      replace hm0 := hm0.trans hm18
      replace hn32 := hn32.gr hm18
      replace hd32 := hd32.gr hm18
      replace hn34 := hn34.gr hm18
      replace hd34 := hd34.gr hm18
      replace hn59 := hn59.gr hm18
      replace hd59 := hd59.gr hm18
      replace hn61 := hn61.gr hm18
      replace hd61 := hd61.gr hm18
      replace hn66 := hn66.gr hm18
      replace hd66 := hd66.gr hm18
      replace hn68 := hn68.gr hm18
      replace hd68 := hd68.gr hm18
      replace hS1 := hS1.trans hm18
      clear hm18
      have F73 := Fit.int (n := n) (by omega) (by omega)
      refine L.nil (hX _ _ ⟨.inr hS1, ?_⟩)
      refine D.one 44 rfl (by decide +kernel) (fun hX => ?_)
      refine L.callOn rfl rfl rfl rfl (c_ref2_Int (n := n) (by omega) (by omega) hbd) rfl ?_
      rintro _ w19 ⟨⟨A75, c75, B75, e75, rfl, hn75, hd75⟩, hm19⟩
      replace ha := ha.gr hm19
      replace ka := ka.gr hm19
      replace hb2 := Blk.gr hb2 hm19
      replace hbd := hbd.gr hm19
      replace hm0 := hm0.trans hm19
      replace hn32 := hn32.gr hm19
      replace hd32 := hd32.gr hm19
      replace hn34 := hn34.gr hm19
      replace hd34 := hd34.gr hm19
      replace hn59 := hn59.gr hm19
      replace hd59 := hd59.gr hm19
      replace hn61 := hn61.gr hm19
      replace hd61 := hd61.gr hm19
      replace hn66 := hn66.gr hm19
      replace hd66 := hd66.gr hm19
      replace hn68 := hn68.gr hm19
      replace hd68 := hd68.gr hm19
      replace hn73 := hn73.gr hm19
      replace hd73 := hd73.gr hm19
      replace hS1 := hS1.trans hm19
      clear hm19
      have F75 := Fit.int (n := n) (by omega) (by omega)
      refine L.nil (hX _ _ ⟨.inr hS1, ?_⟩)
      refine D.one 45 rfl (by decide +kernel) (fun hX => ?_)
      refine L.callOn rfl rfl rfl rfl (c_oneQ (RN.mk rfl hn73 hd73) ((RN.mk rfl hn75 hd75).eq (rfl))) rfl ?_
      rintro _ w20 ⟨rfl, hm20⟩
      replace ha := ha.gr hm20
      replace ka := ka.gr hm20
      replace hb2 := Blk.gr hb2 hm20
      replace hbd := hbd.gr hm20
      replace hm0 := hm0.trans hm20
      replace hn32 := hn32.gr hm20
      replace hd32 := hd32.gr hm20
      replace hn34 := hn34.gr hm20
      replace hd34 := hd34.gr hm20
      replace hn59 := hn59.gr hm20
      replace hd59 := hd59.gr hm20
      replace hn61 := hn61.gr hm20
      replace hd61 := hd61.gr hm20
      replace hn66 := hn66.gr hm20
      replace hd66 := hd66.gr hm20
      replace hn68 := hn68.gr hm20
      replace hd68 := hd68.gr hm20
      replace hn73 := hn73.gr hm20
      replace hd73 := hd73.gr hm20
      replace hn75 := hn75.gr hm20
      replace hd75 := hd75.gr hm20
      replace hS1 := hS1.trans hm20
      clear hm20
      refine L.nil (hX _ _ ⟨.inr hS1, ?_⟩)
      refine D.take 46 rfl (by decide +kernel) (fun w_ hS => (R1.pickT rfl rfl)) hS1 rfl ?_
      refine D.take 47 rfl (by decide +kernel) (fun w_ hS => (R1.move rfl)) hS1 rfl ?_
      refine D.takeOn 48 rfl rfl rfl rfl (by decide +kernel) (fun w_ hS => (R1.fieldAt rfl tyF27_0)) hS1 rfl ?_
      refine D.takeOn 49 rfl rfl rfl rfl (by decide +kernel) (fun w_ hS => (R1.loadFld rfl (Blk.gr hb2_s hS) rfl tyP4)) hS1 rfl ?_
      refine D.takeOn 50 rfl rfl rfl rfl (by decide +kernel) (fun w_ hS => (R1.fieldAt rfl tyF27_1)) hS1 rfl ?_
      refine D.takeOn 51 rfl rfl rfl rfl (by decide +kernel) (fun w_ hS => (R1.loadFld rfl (Blk.gr hb2_s hS) rfl tyP25)) hS1 rfl ?_
      refine D.takeOn 52 rfl rfl rfl rfl (by decide +kernel) (fun w_ hS => (R1.fieldAt rfl tyF27_2)) hS1 rfl ?_
      refine D.takeOn 53 rfl rfl rfl rfl (by decide +kernel) (fun w_ hS => (R1.loadFld rfl (Blk.gr hb2_s hS) rfl tyP25)) hS1 rfl ?_
      refine D.takeOn 55 rfl rfl rfl rfl (by decide +kernel) (fun w_ hS => (R1.loadBox rfl (Blk.gr hb2_s hS) tyG27)) hS1 rfl ?_
      refine D.one 54 rfl (by decide +kernel) (fun hX => ?_)
      refine L.callOn rfl rfl rfl rfl (c_rat_Of (q := qa) hqa ha ka hbd (by omega) (by omega)) rfl ?_
      rintro _ w21 ⟨⟨A85, c85, B85, e85, rfl, hn85, hd85⟩, hm21⟩
      replace ha := ha.gr hm21
      replace ka := ka.gr hm21
      replace hb2 := Blk.gr hb2 hm21
      replace hbd := hbd.gr hm21
      replace hm0 := hm0.trans hm21
      replace hn32 := hn32.gr hm21
      replace hd32 := hd32.gr hm21
      replace hn34 := hn34.gr hm21
      replace hd34 := hd34.gr hm21
      replace hn59 := hn59.gr hm21
      replace hd59 := hd59.gr hm21
      replace hn61 := hn61.gr hm21
      replace hd61 := hd61.gr hm21
      replace hn66 := hn66.gr hm21
      replace hd66 := hd66.gr hm21
      replace hn68 := hn68.gr hm21
      replace hd68 := hd68.gr hm21
      replace hn73 := hn73.gr hm21
      replace hd73 := hd73.gr hm21
      replace hn75 := hn75.gr hm21
      replace hd75 := hd75.gr hm21
      replace hS1 := hS1.trans hm21
      clear hm21
      have F85 := FA
      refine L.nil (hX _ _ ⟨.inr hS1, ?_⟩)
      refine D.one 56 rfl (by decide +kernel) (fun hX => ?_)
      refine L.callOn rfl rfl rfl rfl (c_ref2_Norm (q := qa) hqa ha ka hbd (by omega) (by omega)) rfl ?_
      rintro _ w22 ⟨⟨A87, c87, B87, e87, rfl, hn87, hd87⟩, hm22⟩
      replace ha := ha.gr hm22
      replace ka := ka.gr hm22
      replace hb2 := Blk.gr hb2 hm22
      replace hbd := hbd.gr hm22
      replace hm0 := hm0.trans hm22
      replace hn32 := hn32.gr hm22
      replace hd32 := hd32.gr hm22
      replace hn34 := hn34.gr hm22
      replace hd34 := hd34.gr hm22
      replace hn59 := hn59.gr hm22
      replace hd59 := hd59.gr hm22
      replace hn61 := hn61.gr hm22
      replace hd61 := hd61.gr hm22
      replace hn66 := hn66.gr hm22
      replace hd66 := hd66.gr hm22
      replace hn68 := hn68.gr hm22
      replace hd68 := hd68.gr hm22
      replace hn73 := hn73.gr hm22
      replace hd73 := hd73.gr hm22
      replace hn75 := hn75.gr hm22
      replace hd75 := hd75.gr hm22
      replace hn85 := hn85.gr hm22
      replace hd85 := hd85.gr hm22
      replace hS1 := hS1.trans hm22
      clear hm22
      have F87 := FA
      refine L.nil (hX _ _ ⟨.inr hS1, ?_⟩)
      refine D.one 57 rfl (by decide +kernel) (fun hX => ?_)
      refine L.callOn rfl rfl rfl rfl (c_oneQ (RN.mk rfl hn85 hd85) ((RN.mk rfl hn87 hd87).eq (rfl))) rfl ?_
      rintro _ w23 ⟨rfl, hm23⟩
      replace ha := ha.gr hm23
      replace ka := ka.gr hm23
      replace hb2 := Blk.gr hb2 hm23
      replace hbd := hbd.gr hm23
      replace hm0 := hm0.trans hm23
      replace hn32 := hn32.gr hm23
      replace hd32 := hd32.gr hm23
      replace hn34 := hn34.gr hm23
      replace hd34 := hd34.gr hm23
      replace hn59 := hn59.gr hm23
      replace hd59 := hd59.gr hm23
      replace hn61 := hn61.gr hm23
      replace hd61 := hd61.gr hm23
      replace hn66 := hn66.gr hm23
      replace hd66 := hd66.gr hm23
      replace hn68 := hn68.gr hm23
      replace hd68 := hd68.gr hm23
      replace hn73 := hn73.gr hm23
      replace hd73 := hd73.gr hm23
      replace hn75 := hn75.gr hm23
      replace hd75 := hd75.gr hm23
      replace hn85 := hn85.gr hm23
      replace hd85 := hd85.gr hm23
      replace hn87 := hn87.gr hm23
      replace hd87 := hd87.gr hm23
      replace hS1 := hS1.trans hm23
      clear hm23
      refine L.nil (hX _ _ ⟨.inr hS1, ?_⟩)
      refine D.take 58 rfl (by decide +kernel) (fun w_ hS => (R1.pickT rfl rfl)) hS1 rfl ?_
      refine D.take 59 rfl (by decide +kernel) (fun w_ hS => (R1.move rfl)) hS1 rfl ?_
      refine D.one 60 rfl (by decide +kernel) (fun hX => ?_)
      refine L.callOn rfl rfl rfl rfl (c_known2) rfl ?_
      rintro _ w24 ⟨rfl, hm24⟩
      replace ha := ha.gr hm24
      replace ka := ka.gr hm24
      replace hb2 := Blk.gr hb2 hm24
      replace hbd := hbd.gr hm24
      replace hm0 := hm0.trans hm24
      replace hn32 := hn32.gr hm24
      replace hd32 := hd32.gr hm24
      replace hn34 := hn34.gr hm24
      replace hd34 := hd34.gr hm24
      replace hn59 := hn59.gr hm24
      replace hd59 := hd59.gr hm24
      replace hn61 := hn61.gr hm24
      replace hd61 := hd61.gr hm24
      replace hn66 := hn66.gr hm24
      replace hd66 := hd66.gr hm24
      replace hn68 := hn68.gr hm24
      replace hd68 := hd68.gr hm24
      replace hn73 := hn73.gr hm24
      replace hd73 := hd73.gr hm24
      replace hn75 := hn75.gr hm24
      replace hd75 := hd75.gr hm24
      replace hn85 := hn85.gr hm24
      replace hd85 := hd85.gr hm24
      replace hn87 := hn87.gr hm24
      replace hd87 := hd87.gr hm24
      replace hS1 := hS1.trans hm24
      clear hm24
      refine L.nil (hX _ _ ⟨.inr hS1, ?_⟩)
      refine D.take 61 rfl (by decide +kernel) (fun w_ hS => (R1.pickT rfl rfl)) hS1 rfl ?_
      refine D.take 62 rfl (by decide +kernel) (fun w_ hS => (R1.assign rfl)) hS1 rfl ?_
      refine D.done (by decide +kernel) ?_ _
      refine X.seq ?_
      refine W.ret ?_
      refine X.result1 rfl (.tmp rfl .nil) ?_
      exact ⟨rfl, hm0⟩

end Go.Proofs.Ytjeodekhamdcmaa
