/- Walks: what the functions compute. -/
import Derived.Test.YtbomlakekdamhaaHist1
namespace Go.Proofs.Ytbomlakekdamhaa
open Go.RowKit
set_option linter.unusedVariables false
set_option linter.unusedSimpArgs false
set_option maxRecDepth 10000
theorem c_known {w : World} :
    Ret Try.prog 10 #[] w (fun r w' => r = .bool true ∧ Mod [] w w') := by
  have hbd : Bd [] w := fun m h => by cases h
  have hn : Strs [] w (.slice none 0 0) [] := Strs.nil
  refine Ret.of (vs := []) (n := 35) Try.func10 rfl rfl rfl rfl ?_
  have hm0 : Mod [] w w := Mod.refl _ _
  refine W.seq ?_
  refine W.region ?_
  refine L.v (R1.assign rfl) rfl ?_
  refine L.nil ?_
  refine X.seq ?_
  refine W.seq ?_
  refine W.region ?_
  refine L.v (R1.build rfl (built_H0)) rfl ?_
  refine L.call rfl (c_PushQ (q := [] ++ [(⟨#[97]⟩ : ByteArray)]) rfl hn hbd (by simp)) rfl ?_
  rintro _ w1 ⟨A6, c6, rfl, h6, hm1⟩
  replace hbd := hbd.gr hm1
  replace hn := hn.gr hm1
  replace hm0 := hm0.trans hm1
  clear hm1
  refine L.call rfl (c_Undo1 h6 hn hbd (by simp) (by simp)) rfl ?_
  rintro _ w2 ⟨A7, c7, B7, d7, rfl, h7, k7, hm2⟩
  replace hbd := hbd.gr hm2
  replace hn := hn.gr hm2
  replace hm0 := hm0.trans hm2
  replace h6 := h6.gr hm2
  clear hm2
  refine L.v (R1.move rfl) rfl ?_
  refine L.v (R1.extract rfl rfl) rfl ?_
  refine L.v (R1.extract rfl rfl) rfl ?_
  refine L.v (R1.extract rfl rfl) rfl ?_
  refine L.alloc tyZ24 rfl ?_
  intro g1 w3 hN1
  replace hbd := hbd.new hN1
  replace hn := hn.new hN1
  have hge_g1 := New.ge hN1 hm0.size
  replace hm0 := hm0.trans (hN1.mod.mono (by simp))
  replace h6 := h6.new hN1
  replace h7 := h7.new hN1
  replace k7 := k7.new hN1
  have hb1 := hN1.blk
  clear hN1
  refine L.storeBox rfl rfl hb1 rfl rfl tyG24 ?_
  intro w4 hb1' hm4
  replace hbd := hbd.gr hm4
  replace hn := hn.mod hm4 (by simp)
  replace hm0 := hm0.old1 hm4 hge_g1
  replace h6 := h6.mod hm4 (by simp)
  replace h7 := h7.mod hm4 (by simp)
  replace k7 := k7.mod hm4 (by simp)
  clear hm4
  replace hb1 := hb1'; clear hb1'
  refine L.v (R1.assign rfl) rfl ?_
  refine L.v (R1.assign rfl) rfl ?_
  refine L.nil ?_
  refine X.seq ?_
  refine W.seq ?_
  refine W.region ?_
  refine L.v (R1.move rfl) rfl ?_
  refine L.v (R1.move rfl) rfl ?_
  refine L.on rfl rfl rfl (R1.move rfl) rfl ?_
  refine L.on rfl rfl rfl ((R1.eqS rfl rfl).asB (c := true) (by simp)) rfl ?_
  refine L.v (R1.pickT rfl rfl) rfl ?_
  refine L.v (R1.move rfl) rfl ?_
  refine L.on rfl rfl rfl (R1.fieldAt rfl tyF24_0) rfl ?_
  refine L.on rfl rfl rfl (R1.loadFld rfl hb1 rfl tyP22) rfl ?_
  refine L.on rfl rfl rfl (R1.lenStrs rfl (by assumption) tyS22) rfl ?_
  refine L.on rfl rfl rfl ((R1.eq rfl rfl).asB (c := true) (by simp)) rfl ?_
  refine L.v (R1.pickT rfl rfl) rfl ?_
  refine L.v (R1.move rfl) rfl ?_
  refine L.on rfl rfl rfl (R1.fieldAt rfl tyF24_1) rfl ?_
  refine L.on rfl rfl rfl (R1.loadFld rfl hb1 rfl tyP22) rfl ?_
  refine L.on rfl rfl rfl (R1.lenStrs rfl (by assumption) tyS22) rfl ?_
  refine L.on rfl rfl rfl ((R1.eq rfl rfl).asB (c := true) (by simp)) rfl ?_
  refine L.v (R1.pickT rfl rfl) rfl ?_
  refine L.v (R1.move rfl) rfl ?_
  refine L.on rfl rfl rfl (R1.fieldAt rfl tyF24_1) rfl ?_
  refine L.on rfl rfl rfl (R1.loadFld rfl hb1 rfl tyP22) rfl ?_
  refine L.on rfl rfl rfl (R1.atStrs (j := 0) rfl rfl (by assumption) tyS22 rfl (by simp)) rfl ?_
  refine L.on rfl rfl rfl (R1.ldStrs rfl (by assumption) tyP9 (by simp) rfl) rfl ?_
  refine L.on rfl rfl rfl ((R1.eqS rfl rfl).asB (c := true) (by simp)) rfl ?_
  refine L.v (R1.pickT rfl rfl) rfl ?_
  refine L.v (R1.assign rfl) rfl ?_
  refine L.nil ?_
  refine X.seq ?_
  refine W.ret ?_
  refine X.result1 rfl (.tmp rfl .nil) ?_
  exact ⟨rfl, hm0⟩

theorem c_HistBack0 {M : List Nat} {w : World} {vp vf : Value} {ps fs : List ByteArray} {now : ByteArray} (hp : Strs M w vp ps) (hf : Strs M w vf fs) (hbd : Bd M w) (hl1 : ps.length ≤ 8796093021970) (hl2 : fs.length ≤ 8796093021970) (h0 : ps = []) :
    Ret Try.prog 4 #[.agg #[vp, vf], .string now] w (fun r w' => r = .bool true ∧ Mod [] w w') := by
  refine Ret.of (vs := [.agg #[vp, vf], .string now]) (n := 69) Try.func4 rfl rfl rfl rfl ?_
  have hm0 : Mod [] w w := Mod.refl _ _
  refine W.seq ?_
  refine W.region ?_
  refine L.box rfl rfl ?_
  intro g2 w1 hN2
  replace hp := hp.new hN2
  replace hf := hf.new hN2
  replace hbd := hbd.new hN2
  have hge_g2 := New.ge hN2 hm0.size
  replace hm0 := hm0.trans (hN2.mod.mono (by simp))
  have hb2 := hN2.blk
  clear hN2
  refine L.v (R1.assign rfl) rfl ?_
  refine L.nil ?_
  refine X.seq ?_
  refine W.seq ?_
  refine W.seq ?_
  refine W.region ?_
  refine L.v (R1.loadBox rfl hb2 tyG24) rfl ?_
  refine L.call rfl (c_long hp hf (by first | omega | (simp; omega)) (by omega)) rfl ?_
  rintro _ w2 ⟨⟨b12, rfl⟩, hm2⟩
  replace hp := hp.gr hm2
  replace hf := hf.gr hm2
  replace hbd := hbd.gr hm2
  replace hm0 := hm0.trans hm2
  replace hb2 := Blk.gr hb2 hm2
  clear hm2
  refine L.v (R1.move rfl) rfl ?_
  cases hgd13 : b12
  ·
    try simp only [decide_eq_true_eq, decide_eq_false_iff_not, Bool.not_eq_true', Bool.not_eq_false', Int.not_lt, Int.not_le, ne_eq, Decidable.not_not] at hgd13
    refine L.on rfl rfl rfl (R1.move rfl) rfl ?_
    refine L.on rfl rfl rfl (R1.lenS rfl tyStr9) rfl ?_
    refine L.on rfl rfl rfl (R1.gt rfl rfl) rfl ?_
    refine L.v (R1.pickF rfl rfl) rfl ?_
    refine L.nil ?_
    refine X.seq ?_
    refine W.cond rfl ?_ ?_
    ·
      intro hc17
      try simp only [decide_eq_true_eq, decide_eq_false_iff_not, Bool.not_eq_true', Bool.not_eq_false', Int.not_lt, Int.not_le, ne_eq, Decidable.not_not] at hc17
      refine W.seq ?_
      refine W.region ?_
      refine L.v (R1.assign rfl) rfl ?_
      refine L.nil ?_
      refine X.seq ?_
      refine W.ret ?_
      refine X.thenRet ?_
      refine X.result1 rfl (.tmp rfl .nil) ?_
      exact ⟨rfl, hm0⟩
    ·
      intro hc17
      try simp only [decide_eq_true_eq, decide_eq_false_iff_not, Bool.not_eq_true', Bool.not_eq_false', Int.not_lt, Int.not_le, ne_eq, Decidable.not_not] at hc17
      refine W.skip ?_
      refine X.seq ?_
      refine W.seq ?_
      refine W.region ?_
      refine L.v (R1.loadBox rfl hb2 tyG24) rfl ?_
      refine L.v (R1.move rfl) rfl ?_
      refine L.call rfl (c_Undo0 (by assumption) (by assumption) (by assumption) (by assumption) (by omega) (by omega)) rfl ?_
      rintro _ w3 ⟨A21, c21, B21, d21, rfl, h21, k21, hm3⟩
      replace hp := hp.gr hm3
      replace hf := hf.gr hm3
      replace hbd := hbd.gr hm3
      replace hm0 := hm0.trans hm3
      replace hb2 := Blk.gr hb2 hm3
      clear hm3
      refine L.v (R1.move rfl) rfl ?_
      refine L.v (R1.extract rfl rfl) rfl ?_
      refine L.v (R1.extract rfl rfl) rfl ?_
      refine L.v (R1.extract rfl rfl) rfl ?_
      refine L.alloc tyZ24 rfl ?_
      intro g5 w4 hN5
      replace hp := hp.new hN5
      replace hf := hf.new hN5
      replace hbd := hbd.new hN5
      have hge_g5 := New.ge hN5 hm0.size
      replace hm0 := hm0.trans (hN5.mod.mono (by simp))
      have hne_g2_g5 := hb2.ne_ hN5
      replace hb2 := Blk.gr hb2 hN5.mod
      replace h21 := h21.new hN5
      replace k21 := k21.new hN5
      have hb5 := hN5.blk
      clear hN5
      refine L.storeBox rfl rfl hb5 rfl rfl tyG24 ?_
      intro w5 hb5' hm5
      replace hp := hp.mod hm5 (by simp)
      replace hf := hf.mod hm5 (by simp)
      replace hbd := hbd.gr hm5
      replace hm0 := hm0.old1 hm5 hge_g5
      replace hb2 := Blk.far hb2 hm5 (by first | exact hne_g2_g5 | exact (hne_g5_g2).symm)
      replace h21 := h21.mod hm5 (by simp)
      replace k21 := k21.mod hm5 (by simp)
      clear hm5
      replace hb5 := hb5'; clear hb5'
      refine L.v (R1.assign rfl) rfl ?_
      refine L.v (R1.assign rfl) rfl ?_
      refine L.nil ?_
      refine X.seq ?_
      refine W.seq ?_
      refine W.seq ?_
      refine W.region ?_
      refine L.v (R1.move rfl) rfl ?_
      refine L.v ((R1.not rfl).asB (c := true) rfl) rfl ?_
      refine L.nil ?_
      refine X.seq ?_
      refine W.condT rfl ?_
      refine W.seq ?_
      refine W.region ?_
      refine L.v (R1.fieldAt rfl tyF24_0) rfl ?_
      refine L.v (R1.loadFld rfl hb2 rfl tyP22) rfl ?_
      refine L.v (R1.lenStrs rfl (by assumption) tyS22) rfl ?_
      refine L.v ((R1.eq rfl rfl).asB (c := true) (by simp [h0])) rfl ?_
      refine L.v (R1.move rfl) rfl ?_
      refine L.on rfl rfl rfl (R1.move rfl) rfl ?_
      refine L.on rfl rfl rfl ((R1.eqS rfl rfl).asB (c := true) (by simp)) rfl ?_
      refine L.v (R1.pickT rfl rfl) rfl ?_
      refine L.v (R1.move rfl) rfl ?_
      refine L.callOn rfl rfl rfl rfl (c_known) rfl ?_
      rintro _ w6 ⟨rfl, hm6⟩
      replace hp := hp.gr hm6
      replace hf := hf.gr hm6
      replace hbd := hbd.gr hm6
      replace hm0 := hm0.trans hm6
      replace hb2 := Blk.gr hb2 hm6
      replace h21 := h21.gr hm6
      replace k21 := k21.gr hm6
      replace hb5 := Blk.gr hb5 hm6
      clear hm6
      refine L.v (R1.pickT rfl rfl) rfl ?_
      refine L.v (R1.assign rfl) rfl ?_
      refine L.nil ?_
      refine X.seq ?_
      refine W.ret ?_
      refine X.thenRet ?_
      refine X.result1 rfl (.tmp rfl .nil) ?_
      exact ⟨rfl, hm0⟩
  ·
    try simp only [decide_eq_true_eq, decide_eq_false_iff_not, Bool.not_eq_true', Bool.not_eq_false', Int.not_lt, Int.not_le, ne_eq, Decidable.not_not] at hgd13
    refine L.off rfl rfl rfl rfl rfl ?_
    refine L.off rfl rfl rfl rfl rfl ?_
    refine L.off rfl rfl rfl rfl rfl ?_
    refine L.v (R1.pickT rfl rfl) rfl ?_
    refine L.nil ?_
    refine X.seq ?_
    refine W.condT rfl ?_
    refine W.seq ?_
    refine W.region ?_
    refine L.v (R1.assign rfl) rfl ?_
    refine L.nil ?_
    refine X.seq ?_
    refine W.ret ?_
    refine X.thenRet ?_
    refine X.result1 rfl (.tmp rfl .nil) ?_
    exact ⟨rfl, hm0⟩

theorem c_HistBack1 {M : List Nat} {w : World} {vp vf : Value} {ps fs : List ByteArray} {now p : ByteArray} (hp : Strs M w vp (ps ++ [p])) (hf : Strs M w vf fs) (hbd : Bd M w) (hl1 : ps.length ≤ 8796093021970) (hl2 : fs.length ≤ 8796093021970) :
    Ret Try.prog 4 #[.agg #[vp, vf], .string now] w (fun r w' => r = .bool true ∧ Mod [] w w') := by
  refine Ret.of (vs := [.agg #[vp, vf], .string now]) (n := 69) Try.func4 rfl rfl rfl rfl ?_
  have hm0 : Mod [] w w := Mod.refl _ _
  refine W.seq ?_
  refine W.region ?_
  refine L.box rfl rfl ?_
  intro g2 w1 hN2
  replace hp := hp.new hN2
  replace hf := hf.new hN2
  replace hbd := hbd.new hN2
  have hge_g2 := New.ge hN2 hm0.size
  replace hm0 := hm0.trans (hN2.mod.mono (by simp))
  have hb2 := hN2.blk
  clear hN2
  refine L.v (R1.assign rfl) rfl ?_
  refine L.nil ?_
  refine X.seq ?_
  refine W.seq ?_
  refine W.seq ?_
  refine W.region ?_
  refine L.v (R1.loadBox rfl hb2 tyG24) rfl ?_
  refine L.call rfl (c_long hp hf (by first | omega | (simp; omega)) (by omega)) rfl ?_
  rintro _ w2 ⟨⟨b12, rfl⟩, hm2⟩
  replace hp := hp.gr hm2
  replace hf := hf.gr hm2
  replace hbd := hbd.gr hm2
  replace hm0 := hm0.trans hm2
  replace hb2 := Blk.gr hb2 hm2
  clear hm2
  refine L.v (R1.move rfl) rfl ?_
  cases hgd13 : b12
  ·
    try simp only [decide_eq_true_eq, decide_eq_false_iff_not, Bool.not_eq_true', Bool.not_eq_false', Int.not_lt, Int.not_le, ne_eq, Decidable.not_not] at hgd13
    refine L.on rfl rfl rfl (R1.move rfl) rfl ?_
    refine L.on rfl rfl rfl (R1.lenS rfl tyStr9) rfl ?_
    refine L.on rfl rfl rfl (R1.gt rfl rfl) rfl ?_
    refine L.v (R1.pickF rfl rfl) rfl ?_
    refine L.nil ?_
    refine X.seq ?_
    refine W.cond rfl ?_ ?_
    ·
      intro hc17
      try simp only [decide_eq_true_eq, decide_eq_false_iff_not, Bool.not_eq_true', Bool.not_eq_false', Int.not_lt, Int.not_le, ne_eq, Decidable.not_not] at hc17
      refine W.seq ?_
      refine W.region ?_
      refine L.v (R1.assign rfl) rfl ?_
      refine L.nil ?_
      refine X.seq ?_
      refine W.ret ?_
      refine X.thenRet ?_
      refine X.result1 rfl (.tmp rfl .nil) ?_
      exact ⟨rfl, hm0⟩
    ·
      intro hc17
      try simp only [decide_eq_true_eq, decide_eq_false_iff_not, Bool.not_eq_true', Bool.not_eq_false', Int.not_lt, Int.not_le, ne_eq, Decidable.not_not] at hc17
      refine W.skip ?_
      refine X.seq ?_
      refine W.seq ?_
      refine W.region ?_
      refine L.v (R1.loadBox rfl hb2 tyG24) rfl ?_
      refine L.v (R1.move rfl) rfl ?_
      refine L.call rfl (c_Undo1 (by assumption) (by assumption) (by assumption) (by omega) (by omega)) rfl ?_
      rintro _ w3 ⟨A21, c21, B21, d21, rfl, h21, k21, hm3⟩
      replace hp := hp.gr hm3
      replace hf := hf.gr hm3
      replace hbd := hbd.gr hm3
      replace hm0 := hm0.trans hm3
      replace hb2 := Blk.gr hb2 hm3
      clear hm3
      refine L.v (R1.move rfl) rfl ?_
      refine L.v (R1.extract rfl rfl) rfl ?_
      refine L.v (R1.extract rfl rfl) rfl ?_
      refine L.v (R1.extract rfl rfl) rfl ?_
      refine L.alloc tyZ24 rfl ?_
      intro g5 w4 hN5
      replace hp := hp.new hN5
      replace hf := hf.new hN5
      replace hbd := hbd.new hN5
      have hge_g5 := New.ge hN5 hm0.size
      replace hm0 := hm0.trans (hN5.mod.mono (by simp))
      have hne_g2_g5 := hb2.ne_ hN5
      replace hb2 := Blk.gr hb2 hN5.mod
      replace h21 := h21.new hN5
      replace k21 := k21.new hN5
      have hb5 := hN5.blk
      clear hN5
      refine L.storeBox rfl rfl hb5 rfl rfl tyG24 ?_
      intro w5 hb5' hm5
      replace hp := hp.mod hm5 (by simp)
      replace hf := hf.mod hm5 (by simp)
      replace hbd := hbd.gr hm5
      replace hm0 := hm0.old1 hm5 hge_g5
      replace hb2 := Blk.far hb2 hm5 (by first | exact hne_g2_g5 | exact (hne_g5_g2).symm)
      replace h21 := h21.mod hm5 (by simp)
      replace k21 := k21.mod hm5 (by simp)
      clear hm5
      replace hb5 := hb5'; clear hb5'
      refine L.v (R1.assign rfl) rfl ?_
      refine L.v (R1.assign rfl) rfl ?_
      refine L.nil ?_
      refine X.seq ?_
      refine W.seq ?_
      refine W.seq ?_
      refine W.region ?_
      refine L.v (R1.move rfl) rfl ?_
      refine L.v ((R1.not rfl).asB (c := false) rfl) rfl ?_
      refine L.nil ?_
      refine X.seq ?_
      refine W.condF rfl ?_
      refine W.skip ?_
      refine X.seq ?_
      refine W.seq ?_
      refine W.region ?_
      refine L.v (R1.loadBox rfl hb5 tyG24) rfl ?_
      refine L.v (R1.move rfl) rfl ?_
      refine L.call rfl (c_Redo1 (by assumption) (by assumption) (by assumption) (by omega) (by omega)) rfl ?_
      rintro _ w6 ⟨A41, c41, B41, d41, rfl, h41, k41, hm6⟩
      replace hp := hp.gr hm6
      replace hf := hf.gr hm6
      replace hbd := hbd.gr hm6
      replace hm0 := hm0.trans hm6
      replace hb2 := Blk.gr hb2 hm6
      replace h21 := h21.gr hm6
      replace k21 := k21.gr hm6
      replace hb5 := Blk.gr hb5 hm6
      clear hm6
      refine L.v (R1.move rfl) rfl ?_
      refine L.v (R1.extract rfl rfl) rfl ?_
      refine L.v (R1.extract rfl rfl) rfl ?_
      refine L.v (R1.extract rfl rfl) rfl ?_
      refine L.alloc tyZ24 rfl ?_
      intro g8 w7 hN8
      replace hp := hp.new hN8
      replace hf := hf.new hN8
      replace hbd := hbd.new hN8
      have hge_g8 := New.ge hN8 hm0.size
      replace hm0 := hm0.trans (hN8.mod.mono (by simp))
      have hne_g2_g8 := hb2.ne_ hN8
      replace hb2 := Blk.gr hb2 hN8.mod
      replace h21 := h21.new hN8
      replace k21 := k21.new hN8
      have hne_g5_g8 := hb5.ne_ hN8
      replace hb5 := Blk.gr hb5 hN8.mod
      replace h41 := h41.new hN8
      replace k41 := k41.new hN8
      have hb8 := hN8.blk
      clear hN8
      refine L.storeBox rfl rfl hb8 rfl rfl tyG24 ?_
      intro w8 hb8' hm8
      replace hp := hp.mod hm8 (by simp)
      replace hf := hf.mod hm8 (by simp)
      replace hbd := hbd.gr hm8
      replace hm0 := hm0.old1 hm8 hge_g8
      replace hb2 := Blk.far hb2 hm8 (by first | exact hne_g2_g8 | exact (hne_g8_g2).symm)
      replace h21 := h21.mod hm8 (by simp)
      replace k21 := k21.mod hm8 (by simp)
      replace hb5 := Blk.far hb5 hm8 (by first | exact hne_g5_g8 | exact (hne_g8_g5).symm)
      replace h41 := h41.mod hm8 (by simp)
      replace k41 := k41.mod hm8 (by simp)
      clear hm8
      replace hb8 := hb8'; clear hb8'
      refine L.v (R1.assign rfl) rfl ?_
      refine L.v (R1.assign rfl) rfl ?_
      refine L.nil ?_
      refine X.seq ?_
      refine W.seq ?_
      refine W.region ?_
      refine L.v (R1.move rfl) rfl ?_
      refine L.v (R1.move rfl) rfl ?_
      refine L.on rfl rfl rfl (R1.move rfl) rfl ?_
      refine L.on rfl rfl rfl (R1.move rfl) rfl ?_
      refine L.on rfl rfl rfl ((R1.eqS rfl rfl).asB (c := true) (by simp)) rfl ?_
      refine L.v (R1.pickT rfl rfl) rfl ?_
      refine L.v (R1.move rfl) rfl ?_
      refine L.on rfl rfl rfl (R1.loadBox rfl hb8 tyG24) rfl ?_
      refine L.on rfl rfl rfl (R1.loadBox rfl hb2 tyG24) rfl ?_
      refine L.callOn rfl rfl rfl rfl (c_same h41 k41 hp hf (by simp; omega) (by omega)) rfl ?_
      rintro _ w9 ⟨rfl, hm9⟩
      replace hp := hp.gr hm9
      replace hf := hf.gr hm9
      replace hbd := hbd.gr hm9
      replace hm0 := hm0.trans hm9
      replace hb2 := Blk.gr hb2 hm9
      replace h21 := h21.gr hm9
      replace k21 := k21.gr hm9
      replace hb5 := Blk.gr hb5 hm9
      replace h41 := h41.gr hm9
      replace k41 := k41.gr hm9
      replace hb8 := Blk.gr hb8 hm9
      clear hm9
      refine L.v (R1.pickT rfl rfl) rfl ?_
      refine L.v (R1.move rfl) rfl ?_
      refine L.on rfl rfl rfl (R1.fieldAt rfl tyF24_0) rfl ?_
      refine L.on rfl rfl rfl (R1.loadFld rfl hb5 rfl tyP22) rfl ?_
      refine L.on rfl rfl rfl (R1.lenStrs rfl (by assumption) tyS22) rfl ?_
      refine L.on rfl rfl rfl (R1.fieldAt rfl tyF24_0) rfl ?_
      refine L.on rfl rfl rfl (R1.loadFld rfl hb2 rfl tyP22) rfl ?_
      refine L.on rfl rfl rfl (R1.lenStrs rfl (by assumption) tyS22) rfl ?_
      refine L.on rfl rfl rfl ((R1.subI (b := 1) rfl rfl (by simp) (by simp; omega)).as (j := ((ps.length : Nat) : Int)) (by simp)) rfl ?_
      refine L.on rfl rfl rfl ((R1.eq rfl rfl).asB (c := true) (by simp)) rfl ?_
      refine L.v (R1.pickT rfl rfl) rfl ?_
      refine L.v (R1.move rfl) rfl ?_
      refine L.callOn rfl rfl rfl rfl (c_known) rfl ?_
      rintro _ w10 ⟨rfl, hm10⟩
      replace hp := hp.gr hm10
      replace hf := hf.gr hm10
      replace hbd := hbd.gr hm10
      replace hm0 := hm0.trans hm10
      replace hb2 := Blk.gr hb2 hm10
      replace h21 := h21.gr hm10
      replace k21 := k21.gr hm10
      replace hb5 := Blk.gr hb5 hm10
      replace h41 := h41.gr hm10
      replace k41 := k41.gr hm10
      replace hb8 := Blk.gr hb8 hm10
      clear hm10
      refine L.v (R1.pickT rfl rfl) rfl ?_
      refine L.v (R1.assign rfl) rfl ?_
      refine L.nil ?_
      refine X.seq ?_
      refine W.ret ?_
      refine X.result1 rfl (.tmp rfl .nil) ?_
      exact ⟨rfl, hm0⟩
  ·
    try simp only [decide_eq_true_eq, decide_eq_false_iff_not, Bool.not_eq_true', Bool.not_eq_false', Int.not_lt, Int.not_le, ne_eq, Decidable.not_not] at hgd13
    refine L.off rfl rfl rfl rfl rfl ?_
    refine L.off rfl rfl rfl rfl rfl ?_
    refine L.off rfl rfl rfl rfl rfl ?_
    refine L.v (R1.pickT rfl rfl) rfl ?_
    refine L.nil ?_
    refine X.seq ?_
    refine W.condT rfl ?_
    refine W.seq ?_
    refine W.region ?_
    refine L.v (R1.assign rfl) rfl ?_
    refine L.nil ?_
    refine X.seq ?_
    refine W.ret ?_
    refine X.thenRet ?_
    refine X.result1 rfl (.tmp rfl .nil) ?_
    exact ⟨rfl, hm0⟩

theorem c_HistPush {M : List Nat} {w : World} {vp vf : Value} {ps fs : List ByteArray} {now next : ByteArray} (hp : Strs M w vp ps) (hf : Strs M w vf fs) (hbd : Bd M w) (hl1 : ps.length ≤ 8796093021970) (hl2 : fs.length ≤ 8796093021970) :
    Ret Try.prog 5 #[.agg #[vp, vf], .string now, .string next] w (fun r w' => r = .bool true ∧ Mod [] w w') := by
  have e0 : lastN 32 (ps ++ [now]) = (lastN 31 ps) ++ [now] := by
      unfold lastN
      simp only [List.length_append, List.length_cons, List.length_nil]
      rw [List.drop_append_of_le_length (by omega)]
      congr 2
  have hl3 : (lastN 31 ps).length ≤ 31 := by unfold lastN; simp; omega
  refine Ret.of (vs := [.agg #[vp, vf], .string now, .string next]) (n := 68) Try.func5 rfl rfl rfl rfl ?_
  have hm0 : Mod [] w w := Mod.refl _ _
  refine W.seq ?_
  refine W.region ?_
  refine L.box rfl rfl ?_
  intro g3 w1 hN3
  replace hp := hp.new hN3
  replace hf := hf.new hN3
  replace hbd := hbd.new hN3
  have hge_g3 := New.ge hN3 hm0.size
  replace hm0 := hm0.trans (hN3.mod.mono (by simp))
  have hb3 := hN3.blk
  clear hN3
  refine L.v (R1.assign rfl) rfl ?_
  refine L.nil ?_
  refine X.seq ?_
  refine W.seq ?_
  refine W.seq ?_
  refine W.region ?_
  refine L.v (R1.loadBox rfl hb3 tyG24) rfl ?_
  refine L.call rfl (c_long (by assumption) (by assumption) (by omega) (by omega)) rfl ?_
  rintro _ w2 ⟨⟨b15, rfl⟩, hm2⟩
  replace hp := hp.gr hm2
  replace hf := hf.gr hm2
  replace hbd := hbd.gr hm2
  replace hm0 := hm0.trans hm2
  replace hb3 := Blk.gr hb3 hm2
  clear hm2
  refine L.v (R1.move rfl) rfl ?_
  cases hgd16 : b15
  ·
    try simp only [decide_eq_true_eq, decide_eq_false_iff_not, Bool.not_eq_true', Bool.not_eq_false', Int.not_lt, Int.not_le, ne_eq, Decidable.not_not] at hgd16
    refine L.on rfl rfl rfl (R1.move rfl) rfl ?_
    refine L.on rfl rfl rfl (R1.lenS rfl tyStr9) rfl ?_
    refine L.on rfl rfl rfl (R1.move rfl) rfl ?_
    refine L.on rfl rfl rfl (R1.lenS rfl tyStr9) rfl ?_
    refine L.on rfl rfl rfl (R1.add rfl rfl) rfl ?_
    refine L.on rfl rfl rfl (R1.gt rfl rfl) rfl ?_
    refine L.v (R1.pickF rfl rfl) rfl ?_
    refine L.nil ?_
    refine X.seq ?_
    refine W.cond rfl ?_ ?_
    ·
      intro hc23
      try simp only [decide_eq_true_eq, decide_eq_false_iff_not, Bool.not_eq_true', Bool.not_eq_false', Int.not_lt, Int.not_le, ne_eq, Decidable.not_not] at hc23
      refine W.seq ?_
      refine W.region ?_
      refine L.v (R1.assign rfl) rfl ?_
      refine L.nil ?_
      refine X.seq ?_
      refine W.ret ?_
      refine X.thenRet ?_
      refine X.result1 rfl (.tmp rfl .nil) ?_
      exact ⟨rfl, hm0⟩
    ·
      intro hc23
      try simp only [decide_eq_true_eq, decide_eq_false_iff_not, Bool.not_eq_true', Bool.not_eq_false', Int.not_lt, Int.not_le, ne_eq, Decidable.not_not] at hc23
      refine W.skip ?_
      refine X.seq ?_
      refine W.seq ?_
      refine W.region ?_
      refine L.v (R1.loadBox rfl hb3 tyG24) rfl ?_
      refine L.v (R1.move rfl) rfl ?_
      refine L.call rfl (c_PushQ e0 hp hbd (by omega)) rfl ?_
      rintro _ w3 ⟨A26, c26, rfl, h26, hm3⟩
      replace hp := hp.gr hm3
      replace hf := hf.gr hm3
      replace hbd := hbd.gr hm3
      replace hm0 := hm0.trans hm3
      replace hb3 := Blk.gr hb3 hm3
      clear hm3
      have hn : Strs (g3 :: M) _ (.slice none 0 0) [] := Strs.nil (w := w3)
      refine L.alloc tyZ24 rfl ?_
      intro g7 w4 hN7
      replace hp := hp.new hN7
      replace hf := hf.new hN7
      replace hbd := hbd.new hN7
      have hge_g7 := New.ge hN7 hm0.size
      replace hm0 := hm0.trans (hN7.mod.mono (by simp))
      have hne_g3_g7 := hb3.ne_ hN7
      replace hb3 := Blk.gr hb3 hN7.mod
      replace h26 := h26.new hN7
      replace hn := hn.new hN7
      have hb7 := hN7.blk
      clear hN7
      refine L.storeBox rfl rfl hb7 rfl rfl tyG24 ?_
      intro w5 hb7' hm5
      replace hp := hp.mod hm5 (by simp)
      replace hf := hf.mod hm5 (by simp)
      replace hbd := hbd.gr hm5
      replace hm0 := hm0.old1 hm5 hge_g7
      replace hb3 := Blk.far hb3 hm5 (by first | exact hne_g3_g7 | exact (hne_g7_g3).symm)
      replace h26 := h26.mod hm5 (by simp)
      replace hn := hn.mod hm5 (by simp)
      clear hm5
      replace hb7 := hb7'; clear hb7'
      refine L.nil ?_
      refine X.seq ?_
      refine W.seq ?_
      refine W.region ?_
      refine L.v (R1.loadBox rfl hb7 tyG24) rfl ?_
      refine L.v (R1.move rfl) rfl ?_
      refine L.call rfl (c_Redo0 h26 hn rfl hbd (by simp; omega) (by simp)) rfl ?_
      rintro _ w6 ⟨A30, c30, B30, d30, rfl, h30, k30, hm6⟩
      replace hp := hp.gr hm6
      replace hf := hf.gr hm6
      replace hbd := hbd.gr hm6
      replace hm0 := hm0.trans hm6
      replace hb3 := Blk.gr hb3 hm6
      replace h26 := h26.gr hm6
      replace hn := hn.gr hm6
      replace hb7 := Blk.gr hb7 hm6
      clear hm6
      refine L.v (R1.move rfl) rfl ?_
      refine L.v (R1.extract rfl rfl) rfl ?_
      refine L.v (R1.extract rfl rfl) rfl ?_
      refine L.v (R1.extract rfl rfl) rfl ?_
      refine L.alloc tyZ24 rfl ?_
      intro g8 w7 hN8
      replace hp := hp.new hN8
      replace hf := hf.new hN8
      replace hbd := hbd.new hN8
      have hge_g8 := New.ge hN8 hm0.size
      replace hm0 := hm0.trans (hN8.mod.mono (by simp))
      have hne_g3_g8 := hb3.ne_ hN8
      replace hb3 := Blk.gr hb3 hN8.mod
      replace h26 := h26.new hN8
      replace hn := hn.new hN8
      have hne_g7_g8 := hb7.ne_ hN8
      replace hb7 := Blk.gr hb7 hN8.mod
      replace h30 := h30.new hN8
      replace k30 := k30.new hN8
      have hb8 := hN8.blk
      clear hN8
      refine L.storeBox rfl rfl hb8 rfl rfl tyG24 ?_
      intro w8 hb8' hm8
      replace hp := hp.mod hm8 (by simp)
      replace hf := hf.mod hm8 (by simp)
      replace hbd := hbd.gr hm8
      replace hm0 := hm0.old1 hm8 hge_g8
      replace hb3 := Blk.far hb3 hm8 (by first | exact hne_g3_g8 | exact (hne_g8_g3).symm)
      replace h26 := h26.mod hm8 (by simp)
      replace hn := hn.mod hm8 (by simp)
      replace hb7 := Blk.far hb7 hm8 (by first | exact hne_g7_g8 | exact (hne_g8_g7).symm)
      replace h30 := h30.mod hm8 (by simp)
      replace k30 := k30.mod hm8 (by simp)
      clear hm8
      replace hb8 := hb8'; clear hb8'
      refine L.v (R1.assign rfl) rfl ?_
      refine L.v (R1.assign rfl) rfl ?_
      refine L.nil ?_
      refine X.seq ?_
      refine W.seq ?_
      refine W.region ?_
      refine L.v (R1.loadBox rfl hb7 tyG24) rfl ?_
      refine L.v (R1.move rfl) rfl ?_
      refine L.call rfl (c_Undo1 h26 hn hbd (by omega) (by simp)) rfl ?_
      rintro _ w9 ⟨A37, c37, B37, d37, rfl, h37, k37, hm9⟩
      replace hp := hp.gr hm9
      replace hf := hf.gr hm9
      replace hbd := hbd.gr hm9
      replace hm0 := hm0.trans hm9
      replace hb3 := Blk.gr hb3 hm9
      replace h26 := h26.gr hm9
      replace hn := hn.gr hm9
      replace hb7 := Blk.gr hb7 hm9
      replace h30 := h30.gr hm9
      replace k30 := k30.gr hm9
      replace hb8 := Blk.gr hb8 hm9
      clear hm9
      refine L.v (R1.move rfl) rfl ?_
      refine L.v (R1.extract rfl rfl) rfl ?_
      refine L.v (R1.extract rfl rfl) rfl ?_
      refine L.v (R1.extract rfl rfl) rfl ?_
      refine L.alloc tyZ24 rfl ?_
      intro g11 w10 hN11
      replace hp := hp.new hN11
      replace hf := hf.new hN11
      replace hbd := hbd.new hN11
      have hge_g11 := New.ge hN11 hm0.size
      replace hm0 := hm0.trans (hN11.mod.mono (by simp))
      have hne_g3_g11 := hb3.ne_ hN11
      replace hb3 := Blk.gr hb3 hN11.mod
      replace h26 := h26.new hN11
      replace hn := hn.new hN11
      have hne_g7_g11 := hb7.ne_ hN11
      replace hb7 := Blk.gr hb7 hN11.mod
      replace h30 := h30.new hN11
      replace k30 := k30.new hN11
      have hne_g8_g11 := hb8.ne_ hN11
      replace hb8 := Blk.gr hb8 hN11.mod
      replace h37 := h37.new hN11
      replace k37 := k37.new hN11
      have hb11 := hN11.blk
      clear hN11
      refine L.storeBox rfl rfl hb11 rfl rfl tyG24 ?_
      intro w11 hb11' hm11
      replace hp := hp.mod hm11 (by simp)
      replace hf := hf.mod hm11 (by simp)
      replace hbd := hbd.gr hm11
      replace hm0 := hm0.old1 hm11 hge_g11
      replace hb3 := Blk.far hb3 hm11 (by first | exact hne_g3_g11 | exact (hne_g11_g3).symm)
      replace h26 := h26.mod hm11 (by simp)
      replace hn := hn.mod hm11 (by simp)
      replace hb7 := Blk.far hb7 hm11 (by first | exact hne_g7_g11 | exact (hne_g11_g7).symm)
      replace h30 := h30.mod hm11 (by simp)
      replace k30 := k30.mod hm11 (by simp)
      replace hb8 := Blk.far hb8 hm11 (by first | exact hne_g8_g11 | exact (hne_g11_g8).symm)
      replace h37 := h37.mod hm11 (by simp)
      replace k37 := k37.mod hm11 (by simp)
      clear hm11
      replace hb11 := hb11'; clear hb11'
      refine L.v (R1.assign rfl) rfl ?_
      refine L.v (R1.assign rfl) rfl ?_
      refine L.nil ?_
      refine X.seq ?_
      refine W.seq ?_
      refine W.region ?_
      refine L.v (R1.move rfl) rfl ?_
      refine L.v ((R1.not rfl).asB (c := true) rfl) rfl ?_
      refine L.v (R1.move rfl) rfl ?_
      refine L.on rfl rfl rfl (R1.move rfl) rfl ?_
      refine L.v (R1.pickT rfl rfl) rfl ?_
      refine L.v (R1.move rfl) rfl ?_
      refine L.on rfl rfl rfl (R1.move rfl) rfl ?_
      refine L.on rfl rfl rfl (R1.move rfl) rfl ?_
      refine L.on rfl rfl rfl ((R1.eqS rfl rfl).asB (c := true) (by simp)) rfl ?_
      refine L.v (R1.pickT rfl rfl) rfl ?_
      refine L.v (R1.move rfl) rfl ?_
      refine L.on rfl rfl rfl (R1.fieldAt rfl tyF24_1) rfl ?_
      refine L.on rfl rfl rfl (R1.loadFld rfl hb11 rfl tyP22) rfl ?_
      refine L.on rfl rfl rfl (R1.lenStrs rfl (by assumption) tyS22) rfl ?_
      refine L.on rfl rfl rfl ((R1.eq rfl rfl).asB (c := true) (by simp)) rfl ?_
      refine L.v (R1.pickT rfl rfl) rfl ?_
      refine L.v (R1.move rfl) rfl ?_
      refine L.on rfl rfl rfl (R1.fieldAt rfl tyF24_1) rfl ?_
      refine L.on rfl rfl rfl (R1.loadFld rfl hb11 rfl tyP22) rfl ?_
      refine L.on rfl rfl rfl (R1.atStrs (j := 0) rfl rfl (by assumption) tyS22 rfl (by simp)) rfl ?_
      refine L.on rfl rfl rfl (R1.ldStrs rfl (by assumption) tyP9 (by simp) rfl) rfl ?_
      refine L.on rfl rfl rfl (R1.move rfl) rfl ?_
      refine L.on rfl rfl rfl ((R1.eqS rfl rfl).asB (c := true) (by simp)) rfl ?_
      refine L.v (R1.pickT rfl rfl) rfl ?_
      refine L.v (R1.move rfl) rfl ?_
      refine L.callOn rfl rfl rfl rfl (c_known) rfl ?_
      rintro _ w12 ⟨rfl, hm12⟩
      replace hp := hp.gr hm12
      replace hf := hf.gr hm12
      replace hbd := hbd.gr hm12
      replace hm0 := hm0.trans hm12
      replace hb3 := Blk.gr hb3 hm12
      replace h26 := h26.gr hm12
      replace hn := hn.gr hm12
      replace hb7 := Blk.gr hb7 hm12
      replace h30 := h30.gr hm12
      replace k30 := k30.gr hm12
      replace hb8 := Blk.gr hb8 hm12
      replace h37 := h37.gr hm12
      replace k37 := k37.gr hm12
      replace hb11 := Blk.gr hb11 hm12
      clear hm12
      refine L.v (R1.pickT rfl rfl) rfl ?_
      refine L.v (R1.assign rfl) rfl ?_
      refine L.nil ?_
      refine X.seq ?_
      refine W.ret ?_
      refine X.result1 rfl (.tmp rfl .nil) ?_
      exact ⟨rfl, hm0⟩
  ·
    try simp only [decide_eq_true_eq, decide_eq_false_iff_not, Bool.not_eq_true', Bool.not_eq_false', Int.not_lt, Int.not_le, ne_eq, Decidable.not_not] at hgd16
    refine L.off rfl rfl rfl rfl rfl ?_
    refine L.off rfl rfl rfl rfl rfl ?_
    refine L.off rfl rfl rfl rfl rfl ?_
    refine L.off rfl rfl rfl rfl rfl ?_
    refine L.off rfl rfl rfl rfl rfl ?_
    refine L.off rfl rfl rfl rfl rfl ?_
    refine L.v (R1.pickT rfl rfl) rfl ?_
    refine L.nil ?_
    refine X.seq ?_
    refine W.condT rfl ?_
    refine W.seq ?_
    refine W.region ?_
    refine L.v (R1.assign rfl) rfl ?_
    refine L.nil ?_
    refine X.seq ?_
    refine W.ret ?_
    refine X.thenRet ?_
    refine X.result1 rfl (.tmp rfl .nil) ?_
    exact ⟨rfl, hm0⟩

end Go.Proofs.Ytbomlakekdamhaa
