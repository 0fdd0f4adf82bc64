/- Walks: what the functions compute. -/
import Derived.Test.YtjeodekhamdcmaaLawB
import Derived.Test.YtjeodekhamdcmaaRatI
namespace Go.Proofs.Ytjeodekhamdcmaa
open Go.RowKit
set_option linter.unusedVariables false
set_option linter.unusedSimpArgs false
set_option maxRecDepth 10000
theorem c_RatOrder {M : List Nat} {w : World} {sa : Bool} {an ad : Value} {xa ya : List Nat} {qa : Rat} {sb : Bool} {bn bd : Value} {xb yb : List Nat} {qb : Rat} {sc : Bool} {cn cd : Value} {xc yc : List Nat} {qc : Rat} (hqa : rv sa (val xa) (val ya) = qa) (ha : U32 M w an xa) (ka : U32 M w ad ya) (hqb : rv sb (val xb) (val yb) = qb) (hb : U32 M w bn xb) (kb : U32 M w bd yb) (hqc : rv sc (val xc) (val yc) = qc) (hc : U32 M w cn xc) (kc : U32 M w cd yc) (hbd : Bd M w) (la : xa.length ≤ 140737488355328) (ma : ya.length ≤ 140737488355328) (lb : xb.length ≤ 140737488355328) (mb : yb.length ≤ 140737488355328) (lc : xc.length ≤ 140737488355328) (mc : yc.length ≤ 140737488355328) :
    Ret Try.prog 12 #[.agg #[.bool sa, an, ad], .agg #[.bool sb, bn, bd], .agg #[.bool sc, cn, cd]] w (fun r w' => r = .bool true ∧ Mod [] w w') := by
  obtain ⟨Aa, ca, rfl⟩ := ha.form
  obtain ⟨Ba, da, rfl⟩ := ka.form
  obtain ⟨Ab, cb, rfl⟩ := hb.form
  obtain ⟨Bb, db, rfl⟩ := kb.form
  obtain ⟨Ac, cc, rfl⟩ := hc.form
  obtain ⟨Bc, dc, rfl⟩ := kc.form
  refine Ret.of (vs := [.agg #[.bool sa, .slice Aa xa.length ca, .slice Ba ya.length da], .agg #[.bool sb, .slice Ab xb.length cb, .slice Bb yb.length db], .agg #[.bool sc, .slice Ac xc.length cc, .slice Bc yc.length dc]]) (n := 70) Try.func12 rfl rfl rfl rfl ?_
  have hm0 : Mod [] w w := Mod.refl _ _
  refine W.seq ?_
  refine W.region ?_
  refine L.box rfl rfl ?_
  intro g3 w1 hN3
  replace ha := ha.new hN3
  replace ka := ka.new hN3
  replace hb := hb.new hN3
  replace kb := kb.new hN3
  replace hc := hc.new hN3
  replace kc := kc.new hN3
  replace hbd := hbd.new hN3
  have hge_g3 := New.ge hN3 hm0.size
  replace hm0 := hm0.trans (hN3.mod.mono (by simp))
  have hb3 := hN3.blk
  clear hN3
  refine L.box rfl rfl ?_
  intro g4 w2 hN4
  replace ha := ha.new hN4
  replace ka := ka.new hN4
  replace hb := hb.new hN4
  replace kb := kb.new hN4
  replace hc := hc.new hN4
  replace kc := kc.new hN4
  replace hbd := hbd.new hN4
  have hge_g4 := New.ge hN4 hm0.size
  replace hm0 := hm0.trans (hN4.mod.mono (by simp))
  have hne_g3_g4 := hb3.ne_ hN4
  replace hb3 := Blk.gr hb3 hN4.mod
  have hb4 := hN4.blk
  clear hN4
  refine L.box rfl rfl ?_
  intro g5 w3 hN5
  replace ha := ha.new hN5
  replace ka := ka.new hN5
  replace hb := hb.new hN5
  replace kb := kb.new hN5
  replace hc := hc.new hN5
  replace kc := kc.new hN5
  replace hbd := hbd.new hN5
  have hge_g5 := New.ge hN5 hm0.size
  replace hm0 := hm0.trans (hN5.mod.mono (by simp))
  have hne_g3_g5 := hb3.ne_ hN5
  replace hb3 := Blk.gr hb3 hN5.mod
  have hne_g4_g5 := hb4.ne_ hN5
  replace hb4 := Blk.gr hb4 hN5.mod
  have hb5 := hN5.blk
  clear hN5
  refine L.v (R1.assign rfl) rfl ?_
  refine L.nil ?_
  refine X.seq ?_
  refine W.seq ?_
  refine W.seq ?_
  refine W.region ?_
  refine L.v (R1.loadBox rfl hb3 tyG27) rfl ?_
  refine L.v (R1.loadBox rfl hb4 tyG27) rfl ?_
  refine L.v (R1.loadBox rfl hb5 tyG27) rfl ?_
  refine L.buildSlice (cells := [.bool sa, .slice Aa xa.length ca, .slice Ba ya.length da, .bool sb, .slice Ab xb.length cb, .slice Bb yb.length db, .bool sc, .slice Ac xc.length cc, .slice Bc yc.length dc]) rfl tyS63 tyZ27 (fillQ3 _ _ _ _ _ _ _ _ _ _ _ _ _ _ _ _ _ _ _ _ _) (by decide) (by decide) rfl ?_
  intro g11 w4 hN11
  replace ha := ha.new hN11
  replace ka := ka.new hN11
  replace hb := hb.new hN11
  replace kb := kb.new hN11
  replace hc := hc.new hN11
  replace kc := kc.new hN11
  replace hbd := hbd.new hN11
  have hge_g11 := New.ge hN11 hm0.size
  replace hm0 := hm0.trans (hN11.mod.mono (by simp))
  have hne_g3_g11 := hb3.ne_ hN11
  replace hb3 := Blk.gr hb3 hN11.mod
  have hne_g4_g11 := hb4.ne_ hN11
  replace hb4 := Blk.gr hb4 hN11.mod
  have hne_g5_g11 := hb5.ne_ hN11
  replace hb5 := Blk.gr hb5 hN11.mod
  have hb11 := hN11.blk
  clear hN11
  have hr9 : ∀ i, i < 3 → ∃ A c B d, (#[.bool sa, .slice Aa xa.length ca, .slice Ba ya.length da, .bool sb, .slice Ab xb.length cb, .slice Bb yb.length db, .bool sc, .slice Ac xc.length cc, .slice Bc yc.length dc] : Array Value)[i * 3 + 1]? = some (.slice A ((fun i => [xa.length, xb.length, xc.length].getD i 0) i) c) ∧ (#[.bool sa, .slice Aa xa.length ca, .slice Ba ya.length da, .bool sb, .slice Ab xb.length cb, .slice Bb yb.length db, .bool sc, .slice Ac xc.length cc, .slice Bc yc.length dc] : Array Value)[i * 3 + 2]? = some (.slice B ((fun i => [ya.length, yb.length, yc.length].getD i 0) i) d) := fun i hi => by
      match i, hi with
      | 0, _ => exact ⟨_, _, _, _, rfl, rfl⟩
      | 1, _ => exact ⟨_, _, _, _, rfl, rfl⟩
      | 2, _ => exact ⟨_, _, _, _, rfl, rfl⟩
  have hl9 : ∀ i, i < 3 → (fun i => [xa.length, xb.length, xc.length].getD i 0) i ≤ 140737488355328 ∧ (fun i => [ya.length, yb.length, yc.length].getD i 0) i ≤ 140737488355328 := fun i hi => by
      match i, hi with
      | 0, _ => exact ⟨la, ma⟩
      | 1, _ => exact ⟨lb, mb⟩
      | 2, _ => exact ⟨lc, mc⟩
  refine L.call rfl (c_big (ln := (fun i => [xa.length, xb.length, xc.length].getD i 0)) (ld := (fun i => [ya.length, yb.length, yc.length].getD i 0)) hb11 hr9 hl9 (by decide)) rfl ?_
  rintro _ w5 ⟨b12, rfl, hbig, hm5⟩
  replace ha := ha.gr hm5
  replace ka := ka.gr hm5
  replace hb := hb.gr hm5
  replace kb := kb.gr hm5
  replace hc := hc.gr hm5
  replace kc := kc.gr hm5
  replace hbd := hbd.gr hm5
  replace hm0 := hm0.trans hm5
  replace hb3 := Blk.gr hb3 hm5
  replace hb4 := Blk.gr hb4 hm5
  replace hb5 := Blk.gr hb5 hm5
  replace hb11 := Blk.gr hb11 hm5
  clear hm5
  refine L.v (R1.move rfl) rfl ?_
  cases hgd13 : b12
  ·
    have hcc_ := hgd13
    have za := hbig hgd13 0 (by decide)
    change xa.length ≤ 16 ∧ ya.length ≤ 16 at za
    have FA : Fit qa 17 := Fit.rv hqa ha.2 ka.2 za.1 za.2
    have zb := hbig hgd13 1 (by decide)
    change xb.length ≤ 16 ∧ yb.length ≤ 16 at zb
    have FB : Fit qb 17 := Fit.rv hqb hb.2 kb.2 zb.1 zb.2
    have zc := hbig hgd13 2 (by decide)
    change xc.length ≤ 16 ∧ yc.length ≤ 16 at zc
    have FC : Fit qc 17 := Fit.rv hqc hc.2 kc.2 zc.1 zc.2
    refine L.on rfl rfl rfl (R1.fieldAt rfl tyF27_1) rfl ?_
    refine L.on rfl rfl rfl (R1.loadFld rfl hb3 rfl tyP25) rfl ?_
    refine L.on rfl rfl rfl (R1.lenU rfl (by assumption) tyS25) rfl ?_
    refine L.on rfl rfl rfl (R1.fieldAt rfl tyF27_1) rfl ?_
    refine L.on rfl rfl rfl (R1.loadFld rfl hb4 rfl tyP25) rfl ?_
    refine L.on rfl rfl rfl (R1.lenU rfl (by assumption) tyS25) rfl ?_
    refine L.on rfl rfl rfl (R1.addI rfl rfl (by omega)) rfl ?_
    refine L.on rfl rfl rfl (R1.fieldAt rfl tyF27_1) rfl ?_
    refine L.on rfl rfl rfl (R1.loadFld rfl hb5 rfl tyP25) rfl ?_
    refine L.on rfl rfl rfl (R1.lenU rfl (by assumption) tyS25) rfl ?_
    refine L.on rfl rfl rfl (R1.addI rfl rfl (by omega)) rfl ?_
    refine L.on rfl rfl rfl (R1.fieldAt rfl tyF27_2) rfl ?_
    refine L.on rfl rfl rfl (R1.loadFld rfl hb3 rfl tyP25) rfl ?_
    refine L.on rfl rfl rfl (R1.lenU rfl (by assumption) tyS25) rfl ?_
    refine L.on rfl rfl rfl (R1.addI rfl rfl (by omega)) rfl ?_
    refine L.on rfl rfl rfl (R1.fieldAt rfl tyF27_2) rfl ?_
    refine L.on rfl rfl rfl (R1.loadFld rfl hb4 rfl tyP25) rfl ?_
    refine L.on rfl rfl rfl (R1.lenU rfl (by assumption) tyS25) rfl ?_
    refine L.on rfl rfl rfl (R1.addI rfl rfl (by omega)) rfl ?_
    refine L.on rfl rfl rfl (R1.fieldAt rfl tyF27_2) rfl ?_
    refine L.on rfl rfl rfl (R1.loadFld rfl hb5 rfl tyP25) rfl ?_
    refine L.on rfl rfl rfl (R1.lenU rfl (by assumption) tyS25) rfl ?_
    refine L.on rfl rfl rfl (R1.addI rfl rfl (by omega)) rfl ?_
    refine L.on rfl rfl rfl (R1.gt rfl rfl) rfl ?_
    refine L.v (R1.pickF rfl rfl) rfl ?_
    refine L.nil ?_
    refine X.seq ?_
    refine W.cond rfl ?_ ?_
    ·
      intro hc38
      try simp only [decide_eq_true_eq, decide_eq_false_iff_not, Bool.not_eq_true', Bool.not_eq_false', Int.not_lt, Int.not_le, ne_eq, Decidable.not_not] at hc38
      refine W.seq ?_
      refine W.region ?_
      refine L.v (R1.assign rfl) rfl ?_
      refine L.nil ?_
      refine X.seq ?_
      refine W.ret ?_
      refine X.thenRet ?_
      refine X.result1 rfl (.tmp rfl .nil) ?_
      exact ⟨rfl, hm0⟩
    ·
      intro hc38
      try simp only [decide_eq_true_eq, decide_eq_false_iff_not, Bool.not_eq_true', Bool.not_eq_false', Int.not_lt, Int.not_le, ne_eq, Decidable.not_not] at hc38
      refine W.skip ?_
      refine X.seq ?_
      refine W.seq ?_
      refine W.region ?_
      refine L.v (R1.loadBox rfl hb3 tyG27) rfl ?_
      refine L.v (R1.loadBox rfl hb4 tyG27) rfl ?_
      refine L.call rfl (c_rat_Cmp (qa := qa) (qb := qb) hqa hqb ha ka hb kb hbd (by omega) (by omega) (by omega) (by omega)) rfl ?_
      rintro _ w6 ⟨rfl, hm6⟩
      replace ha := ha.gr hm6
      replace ka := ka.gr hm6
      replace hb := hb.gr hm6
      replace kb := kb.gr hm6
      replace hc := hc.gr hm6
      replace kc := kc.gr hm6
      replace hbd := hbd.gr hm6
      replace hm0 := hm0.trans hm6
      replace hb3 := Blk.gr hb3 hm6
      replace hb4 := Blk.gr hb4 hm6
      replace hb5 := Blk.gr hb5 hm6
      replace hb11 := Blk.gr hb11 hm6
      clear hm6
      refine L.v (R1.assign rfl) rfl ?_
      refine L.nil ?_
      refine X.seq ?_
      refine W.seq ?_
      refine W.drawW (T := []) rfl (by decide +kernel) (NoHang.then NoHang.post) (fun w7 hm7 => ?_)
      replace ha := ha.gr hm7
      replace ka := ka.gr hm7
      replace hb := hb.gr hm7
      replace kb := kb.gr hm7
      replace hc := hc.gr hm7
      replace kc := kc.gr hm7
      replace hbd := hbd.gr hm7
      replace hm0 := hm0.trans hm7
      replace hb3 := Blk.gr hb3 hm7
      replace hb4 := Blk.gr hb4 hm7
      replace hb5 := Blk.gr hb5 hm7
      replace hb11 := Blk.gr hb11 hm7
      have hS1 : Mod [] w7 w7 := Mod.refl _ _
      clear hm7
      have hb3_s := hb3
      have hb4_s := hb4
      have hb5_s := hb5
      have hb11_s := hb11
      refine D.take 0 rfl (by decide +kernel) (fun w_ hS => (R1.loadBox rfl (Blk.gr hb4_s hS) tyG27)) hS1 rfl ?_
      refine D.take 1 rfl (by decide +kernel) (fun w_ hS => (R1.loadBox rfl (Blk.gr hb3_s hS) tyG27)) hS1 rfl ?_
      refine D.take 3 rfl (by decide +kernel) (fun w_ hS => (R1.move rfl)) hS1 rfl ?_
      have hrg := cmpQ_range qa qb
      refine D.take 4 rfl (by decide +kernel) (fun w_ hS => ((R1.neg rfl).as (wrap_i64 (by omega) (by omega)))) hS1 rfl ?_
      refine D.one 2 rfl (by decide +kernel) (fun hX => ?_)
      refine L.call rfl (c_rat_Cmp (qa := qb) (qb := qa) hqb hqa hb kb ha ka hbd (by omega) (by omega) (by omega) (by omega)) rfl ?_
      rintro _ w8 ⟨rfl, hm8⟩
      replace ha := ha.gr hm8
      replace ka := ka.gr hm8
      replace hb := hb.gr hm8
      replace kb := kb.gr hm8
      replace hc := hc.gr hm8
      replace kc := kc.gr hm8
      replace hbd := hbd.gr hm8
      replace hm0 := hm0.trans hm8
      replace hb3 := Blk.gr hb3 hm8
      replace hb4 := Blk.gr hb4 hm8
      replace hb5 := Blk.gr hb5 hm8
      replace hb11 := Blk.gr hb11 hm8
      replace hS1 := hS1.trans hm8
      clear hm8
      refine L.nil (hX _ _ ⟨.inr hS1, ?_⟩)
      refine D.take 5 rfl (by decide +kernel) (fun w_ hS => ((R1.eq rfl rfl).asB (c := true) (decide_eq_true (cmpQ_neg qa qb)))) hS1 rfl ?_
      refine D.take 6 rfl (by decide +kernel) (fun w_ hS => (R1.move rfl)) hS1 rfl ?_
      refine D.takeOn 7 rfl rfl rfl rfl (by decide +kernel) (fun w_ hS => (R1.move rfl)) hS1 rfl ?_
      refine D.takeOn 8 rfl rfl rfl rfl (by decide +kernel) (fun w_ hS => ((R1.eq rfl rfl).asB (c := (decide (qa = qb))) (cmpQ_zero qa qb))) hS1 rfl ?_
      refine D.takeOn 9 rfl rfl rfl rfl (by decide +kernel) (fun w_ hS => (R1.loadBox rfl (Blk.gr hb3_s hS) tyG27)) hS1 rfl ?_
      refine D.takeOn 10 rfl rfl rfl rfl (by decide +kernel) (fun w_ hS => (R1.loadBox rfl (Blk.gr hb4_s hS) tyG27)) hS1 rfl ?_
      refine D.one 11 rfl (by decide +kernel) (fun hX => ?_)
      refine L.callOn rfl rfl rfl rfl (c_rat_Same (qa := qa) (qb := qb) hqa hqb ha ka hb kb hbd (by omega) (by omega) (by omega) (by omega)) rfl ?_
      rintro _ w9 ⟨rfl, hm9⟩
      replace ha := ha.gr hm9
      replace ka := ka.gr hm9
      replace hb := hb.gr hm9
      replace kb := kb.gr hm9
      replace hc := hc.gr hm9
      replace kc := kc.gr hm9
      replace hbd := hbd.gr hm9
      replace hm0 := hm0.trans hm9
      replace hb3 := Blk.gr hb3 hm9
      replace hb4 := Blk.gr hb4 hm9
      replace hb5 := Blk.gr hb5 hm9
      replace hb11 := Blk.gr hb11 hm9
      replace hS1 := hS1.trans hm9
      clear hm9
      refine L.nil (hX _ _ ⟨.inr hS1, ?_⟩)
      refine D.takeOn 12 rfl rfl rfl rfl (by decide +kernel) (fun w_ hS => ((R1.eqB rfl rfl tyB4).asB (c := true) (by simp))) hS1 rfl ?_
      refine D.take 13 rfl (by decide +kernel) (fun w_ hS => (R1.pickT rfl rfl)) hS1 rfl ?_
      refine D.take 14 rfl (by decide +kernel) (fun w_ hS => (R1.move rfl)) hS1 rfl ?_
      refine D.takeOn 15 rfl rfl rfl rfl (by decide +kernel) (fun w_ hS => (R1.loadBox rfl (Blk.gr hb3_s hS) tyG27)) hS1 rfl ?_
      refine D.takeOn 16 rfl rfl rfl rfl (by decide +kernel) (fun w_ hS => (R1.loadBox rfl (Blk.gr hb5_s hS) tyG27)) hS1 rfl ?_
      refine D.takeOn 18 rfl rfl rfl rfl (by decide +kernel) (fun w_ hS => (R1.loadBox rfl (Blk.gr hb4_s hS) tyG27)) hS1 rfl ?_
      refine D.takeOn 19 rfl rfl rfl rfl (by decide +kernel) (fun w_ hS => (R1.loadBox rfl (Blk.gr hb5_s hS) tyG27)) hS1 rfl ?_
      refine D.takeOn 22 rfl rfl rfl rfl (by decide +kernel) (fun w_ hS => (R1.move rfl)) hS1 rfl ?_
      refine D.one 17 rfl (by decide +kernel) (fun hX => ?_)
      refine L.callOn rfl rfl rfl rfl (c_rat_Add (qa := qa) (qb := qc) hqa hqc ha ka hc kc hbd (by omega) (by omega) (by omega) (by omega)) rfl ?_
      rintro _ w10 ⟨⟨A59, c59, B59, e59, rfl, hn59, hd59⟩, hm10⟩
      replace ha := ha.gr hm10
      replace ka := ka.gr hm10
      replace hb := hb.gr hm10
      replace kb := kb.gr hm10
      replace hc := hc.gr hm10
      replace kc := kc.gr hm10
      replace hbd := hbd.gr hm10
      replace hm0 := hm0.trans hm10
      replace hb3 := Blk.gr hb3 hm10
      replace hb4 := Blk.gr hb4 hm10
      replace hb5 := Blk.gr hb5 hm10
      replace hb11 := Blk.gr hb11 hm10
      replace hS1 := hS1.trans hm10
      clear hm10
      have F59 := Fit.add FA FC
      refine L.nil (hX _ _ ⟨.inr hS1, ?_⟩)
      refine D.one 20 rfl (by decide +kernel) (fun hX => ?_)
      refine L.callOn rfl rfl rfl rfl (c_rat_Add (qa := qb) (qb := qc) hqb hqc hb kb hc kc hbd (by omega) (by omega) (by omega) (by omega)) rfl ?_
      rintro _ w11 ⟨⟨A62, c62, B62, e62, rfl, hn62, hd62⟩, hm11⟩
      replace ha := ha.gr hm11
      replace ka := ka.gr hm11
      replace hb := hb.gr hm11
      replace kb := kb.gr hm11
      replace hc := hc.gr hm11
      replace kc := kc.gr hm11
      replace hbd := hbd.gr hm11
      replace hm0 := hm0.trans hm11
      replace hb3 := Blk.gr hb3 hm11
      replace hb4 := Blk.gr hb4 hm11
      replace hb5 := Blk.gr hb5 hm11
      replace hb11 := Blk.gr hb11 hm11
      replace hn59 := hn59.gr hm11
      replace hd59 := hd59.gr hm11
      replace hS1 := hS1.trans hm11
      clear hm11
      have F62 := Fit.add FB FC
      refine L.nil (hX _ _ ⟨.inr hS1, ?_⟩)
      refine D.one 21 rfl (by decide +kernel) (fun hX => ?_)
      refine L.callOn rfl rfl rfl rfl (c_rat_Cmp (qa := (qa + qc)) (qb := (qb + qc)) (rv_toL _) (rv_toL _) hn59 hd59 hn62 hd62 hbd (Nat.le_trans F59.1 (by decide)) (Nat.le_trans F59.2 (by decide)) (Nat.le_trans F62.1 (by decide)) (Nat.le_trans F62.2 (by decide))) rfl ?_
      rintro _ w12 ⟨rfl, hm12⟩
      replace ha := ha.gr hm12
      replace ka := ka.gr hm12
      replace hb := hb.gr hm12
      replace kb := kb.gr hm12
      replace hc := hc.gr hm12
      replace kc := kc.gr hm12
      replace hbd := hbd.gr hm12
      replace hm0 := hm0.trans hm12
      replace hb3 := Blk.gr hb3 hm12
      replace hb4 := Blk.gr hb4 hm12
      replace hb5 := Blk.gr hb5 hm12
      replace hb11 := Blk.gr hb11 hm12
      replace hn59 := hn59.gr hm12
      replace hd59 := hd59.gr hm12
      replace hn62 := hn62.gr hm12
      replace hd62 := hd62.gr hm12
      replace hS1 := hS1.trans hm12
      clear hm12
      refine L.nil (hX _ _ ⟨.inr hS1, ?_⟩)
      refine D.takeOn 23 rfl rfl rfl rfl (by decide +kernel) (fun w_ hS => ((R1.eq rfl rfl).asB (c := true) (decide_eq_true (cmpQ_add qa qb qc)))) hS1 rfl ?_
      refine D.take 24 rfl (by decide +kernel) (fun w_ hS => (R1.pickT rfl rfl)) hS1 rfl ?_
      refine D.take 25 rfl (by decide +kernel) (fun w_ hS => (R1.move rfl)) hS1 rfl ?_
      refine D.one 26 rfl (by decide +kernel) (fun hX => ?_)
      refine L.callOn rfl rfl rfl rfl (c_known2) rfl ?_
      rintro _ w13 ⟨rfl, hm13⟩
      replace ha := ha.gr hm13
      replace ka := ka.gr hm13
      replace hb := hb.gr hm13
      replace kb := kb.gr hm13
      replace hc := hc.gr hm13
      replace kc := kc.gr hm13
      replace hbd := hbd.gr hm13
      replace hm0 := hm0.trans hm13
      replace hb3 := Blk.gr hb3 hm13
      replace hb4 := Blk.gr hb4 hm13
      replace hb5 := Blk.gr hb5 hm13
      replace hb11 := Blk.gr hb11 hm13
      replace hn59 := hn59.gr hm13
      replace hd59 := hd59.gr hm13
      replace hn62 := hn62.gr hm13
      replace hd62 := hd62.gr hm13
      replace hS1 := hS1.trans hm13
      clear hm13
      refine L.nil (hX _ _ ⟨.inr hS1, ?_⟩)
      refine D.take 27 rfl (by decide +kernel) (fun w_ hS => (R1.pickT rfl rfl)) hS1 rfl ?_
      refine D.take 28 rfl (by decide +kernel) (fun w_ hS => (R1.assign rfl)) hS1 rfl ?_
      refine D.done (by decide +kernel) ?_ _
      refine X.seq ?_
      refine W.ret ?_
      refine X.result1 rfl (.tmp rfl .nil) ?_
      exact ⟨rfl, hm0⟩
  ·
    have hcc_ := hgd13
    refine L.off rfl rfl rfl rfl rfl ?_
    refine L.off rfl rfl rfl rfl rfl ?_
    refine L.off rfl rfl rfl rfl rfl ?_
    refine L.off rfl rfl rfl rfl rfl ?_
    refine L.off rfl rfl rfl rfl rfl ?_
    refine L.off rfl rfl rfl rfl rfl ?_
    refine L.off rfl rfl rfl rfl rfl ?_
    refine L.off rfl rfl rfl rfl rfl ?_
    refine L.off rfl rfl rfl rfl rfl ?_
    refine L.off rfl rfl rfl rfl rfl ?_
    refine L.off rfl rfl rfl rfl rfl ?_
    refine L.off rfl rfl rfl rfl rfl ?_
    refine L.off rfl rfl rfl rfl rfl ?_
    refine L.off rfl rfl rfl rfl rfl ?_
    refine L.off rfl rfl rfl rfl rfl ?_
    refine L.off rfl rfl rfl rfl rfl ?_
    refine L.off rfl rfl rfl rfl rfl ?_
    refine L.off rfl rfl rfl rfl rfl ?_
    refine L.off rfl rfl rfl rfl rfl ?_
    refine L.off rfl rfl rfl rfl rfl ?_
    refine L.off rfl rfl rfl rfl rfl ?_
    refine L.off rfl rfl rfl rfl rfl ?_
    refine L.off rfl rfl rfl rfl rfl ?_
    refine L.off rfl rfl rfl rfl rfl ?_
    refine L.v (R1.pickT rfl rfl) rfl ?_
    refine L.nil ?_
    refine X.seq ?_
    refine W.condT rfl ?_
    refine W.seq ?_
    refine W.region ?_
    refine L.v (R1.assign rfl) rfl ?_
    refine L.nil ?_
    refine X.seq ?_
    refine W.ret ?_
    refine X.thenRet ?_
    refine X.result1 rfl (.tmp rfl .nil) ?_
    exact ⟨rfl, hm0⟩

end Go.Proofs.Ytjeodekhamdcmaa
