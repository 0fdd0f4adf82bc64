/- Walks: what the functions compute. -/
import Derived.Test.YtjeodekhamdcmaaRefE
import Derived.Test.YtjeodekhamdcmaaRatb
namespace Go.Proofs.Ytjeodekhamdcmaa
open Go.RowKit
set_option linter.unusedVariables false
set_option linter.unusedSimpArgs false
set_option maxRecDepth 10000
theorem c_rat_Is {M N9 : List Nat} {w : World} {s : Bool} {vn vd : Value} {xs ys : List Nat} (h : U32 N9 w vn xs) (k : U32 N9 w vd ys) (hbd : Bd M w) (hl1 : xs.length ≤ 1099511627776) (hl2 : ys.length ≤ 1099511627776) :
    Ret Try.prog 44 #[.agg #[.bool s, vn, vd]] w (fun r w' => r = .bool (isN s xs ys) ∧ Mod [] w w') := by
  refine Ret.of (vs := [.agg #[.bool s, vn, vd]]) (n := 37) Try.func44 rfl rfl rfl rfl ?_
  have hm0 : Mod [] w w := Mod.refl _ _
  refine W.seq ?_
  refine W.region ?_
  refine L.box rfl rfl ?_
  intro g1 w1 hN1
  replace h := h.new hN1
  replace k := k.new hN1
  replace hbd := hbd.new hN1
  have hge_g1 := New.ge hN1 hm0.size
  replace hm0 := hm0.trans (hN1.mod.mono (by simp))
  have hb1 := hN1.blk
  clear hN1
  refine L.v (R1.assign rfl) rfl ?_
  refine L.nil ?_
  refine X.seq ?_
  refine W.seq ?_
  refine W.seq ?_
  refine W.region ?_
  refine L.v (R1.fieldAt rfl tyF27_1) rfl ?_
  refine L.v (R1.loadFld rfl hb1 rfl tyP25) rfl ?_
  refine L.call rfl (c_nat_Is h) rfl ?_
  rintro _ w2 ⟨rfl, hm2⟩
  replace h := h.gr hm2
  replace k := k.gr hm2
  replace hbd := hbd.gr hm2
  replace hm0 := hm0.trans hm2
  replace hb1 := Blk.gr hb1 hm2
  clear hm2
  refine L.v (R1.not rfl) rfl ?_
  refine L.v (R1.move rfl) rfl ?_
  cases hgd7 : (!trimmedB xs)
  ·
    try simp only [decide_eq_true_eq, decide_eq_false_iff_not, Bool.not_eq_true', Bool.not_eq_false', Int.not_lt, Int.not_le, ne_eq, Decidable.not_not] at hgd7
    refine L.on rfl rfl rfl (R1.fieldAt rfl tyF27_2) rfl ?_
    refine L.on rfl rfl rfl (R1.loadFld rfl hb1 rfl tyP25) rfl ?_
    refine L.callOn rfl rfl rfl rfl (c_nat_Is k) rfl ?_
    rintro _ w3 ⟨rfl, hm3⟩
    replace h := h.gr hm3
    replace k := k.gr hm3
    replace hbd := hbd.gr hm3
    replace hm0 := hm0.trans hm3
    replace hb1 := Blk.gr hb1 hm3
    clear hm3
    refine L.on rfl rfl rfl (R1.not rfl) rfl ?_
    refine L.v (R1.pickF rfl rfl) rfl ?_
    refine L.v (R1.move rfl) rfl ?_
    cases hgd13 : (!trimmedB ys)
    ·
      try simp only [decide_eq_true_eq, decide_eq_false_iff_not, Bool.not_eq_true', Bool.not_eq_false', Int.not_lt, Int.not_le, ne_eq, Decidable.not_not] at hgd13
      refine L.on rfl rfl rfl (R1.fieldAt rfl tyF27_2) rfl ?_
      refine L.on rfl rfl rfl (R1.loadFld rfl hb1 rfl tyP25) rfl ?_
      refine L.on rfl rfl rfl (R1.lenU rfl (by assumption) tyS25) rfl ?_
      refine L.on rfl rfl rfl ((R1.eq rfl rfl).asB (c := decide (ys.length = 0)) (by simp)) rfl ?_
      refine L.v (R1.pickF rfl rfl) rfl ?_
      refine L.v (R1.move rfl) rfl ?_
      cases hgd19 : decide (ys.length = 0)
      ·
        try simp only [decide_eq_true_eq, decide_eq_false_iff_not, Bool.not_eq_true', Bool.not_eq_false', Int.not_lt, Int.not_le, ne_eq, Decidable.not_not] at hgd19
        refine L.on rfl rfl rfl (R1.fieldAt rfl tyF27_0) rfl ?_
        refine L.on rfl rfl rfl (R1.loadFld rfl hb1 rfl tyP4) rfl ?_
        refine L.on rfl rfl rfl (R1.move rfl) rfl ?_
        cases hgd22 : s
        ·
          have hcc_ := hgd22
          refine L.off rfl rfl rfl rfl rfl ?_
          refine L.off rfl rfl rfl rfl rfl ?_
          refine L.off rfl rfl rfl rfl rfl ?_
          refine L.off rfl rfl rfl rfl rfl ?_
          refine L.on rfl rfl rfl (R1.pickF rfl rfl) rfl ?_
          refine L.v (R1.pickF rfl rfl) rfl ?_
          refine L.nil ?_
          refine X.seq ?_
          refine W.condF rfl ?_
          refine W.skip ?_
          refine X.seq ?_
          refine W.seq ?_
          refine W.region ?_
          refine L.v (R1.fieldAt rfl tyF27_1) rfl ?_
          refine L.v (R1.loadFld rfl hb1 rfl tyP25) rfl ?_
          refine L.v (R1.fieldAt rfl tyF27_2) rfl ?_
          refine L.v (R1.loadFld rfl hb1 rfl tyP25) rfl ?_
          refine L.call rfl (c_nat_Gcd (M := []) (h.sub (by simp)) (k.sub (by simp)) (fun m hm => by cases hm) (by omega) (by omega)) rfl ?_
          rintro v33 w4 ⟨h33, hm4⟩
          replace h := h.gr hm4
          replace k := k.gr hm4
          replace hbd := hbd.gr hm4
          replace hm0 := hm0.trans hm4
          replace hb1 := Blk.gr hb1 hm4
          clear hm4
          refine L.call rfl (c_nat_Of (M := []) (n := 1) (by decide) (fun m hm => by cases hm)) rfl ?_
          rintro v34 w5 ⟨h34, hm5⟩
          replace h := h.gr hm5
          replace k := k.gr hm5
          replace hbd := hbd.gr hm5
          replace hm0 := hm0.trans hm5
          replace hb1 := Blk.gr hb1 hm5
          replace h33 := h33.gr hm5
          clear hm5
          refine L.call rfl (c_nat_Cmp h33 h34) rfl ?_
          rintro _ w6 ⟨rfl, hm6⟩
          replace h := h.gr hm6
          replace k := k.gr hm6
          replace hbd := hbd.gr hm6
          replace hm0 := hm0.trans hm6
          replace hb1 := Blk.gr hb1 hm6
          replace h33 := h33.gr hm6
          replace h34 := h34.gr hm6
          clear hm6
          refine L.v ((R1.eq rfl rfl).asB (c := decide (Nat.gcd (val xs) (val ys) = 1)) (by rw [val_toL, val_toL, cmpI_one])) rfl ?_
          refine L.v (R1.assign rfl) rfl ?_
          refine L.nil ?_
          refine X.seq ?_
          refine W.ret ?_
          refine X.result1 rfl (.tmp rfl .nil) ?_
          refine ⟨?_, hm0⟩
          rw [isN_true h.2 k.2 hgd7 hgd13 hgd19 (by first | exact fun h9 => hc28 h9.2 | (intro h9; simp at h9))]
        ·
          have hcc_ := hgd22
          refine L.on rfl rfl rfl (R1.fieldAt rfl tyF27_1) rfl ?_
          refine L.on rfl rfl rfl (R1.loadFld rfl hb1 rfl tyP25) rfl ?_
          refine L.on rfl rfl rfl (R1.lenU rfl (by assumption) tyS25) rfl ?_
          refine L.on rfl rfl rfl ((R1.eq rfl rfl).asB (c := decide (xs.length = 0)) (by simp)) rfl ?_
          refine L.on rfl rfl rfl (R1.pickT rfl rfl) rfl ?_
          refine L.v (R1.pickF rfl rfl) rfl ?_
          refine L.nil ?_
          refine X.seq ?_
          refine W.cond rfl ?_ ?_
          ·
            intro hc28
            try simp only [decide_eq_true_eq, decide_eq_false_iff_not, Bool.not_eq_true', Bool.not_eq_false', Int.not_lt, Int.not_le, ne_eq, Decidable.not_not] at hc28
            refine W.seq ?_
            refine W.region ?_
            refine L.v (R1.assign rfl) rfl ?_
            refine L.nil ?_
            refine X.seq ?_
            refine W.ret ?_
            refine X.thenRet ?_
            refine X.result1 rfl (.tmp rfl .nil) ?_
            refine ⟨?_, hm0⟩
            rw [isN_false h.2 k.2 (by first | exact .inl hgd7 | exact .inr (.inl hgd13) | exact .inr (.inr (.inl hgd19)) | exact .inr (.inr (.inr ⟨rfl, hc28⟩)) | exact .inr (.inr (.inr ⟨hgd22, hc28⟩)))]
          ·
            intro hc28
            try simp only [decide_eq_true_eq, decide_eq_false_iff_not, Bool.not_eq_true', Bool.not_eq_false', Int.not_lt, Int.not_le, ne_eq, Decidable.not_not] at hc28
            refine W.skip ?_
            refine X.seq ?_
            refine W.seq ?_
            refine W.region ?_
            refine L.v (R1.fieldAt rfl tyF27_1) rfl ?_
            refine L.v (R1.loadFld rfl hb1 rfl tyP25) rfl ?_
            refine L.v (R1.fieldAt rfl tyF27_2) rfl ?_
            refine L.v (R1.loadFld rfl hb1 rfl tyP25) rfl ?_
            refine L.call rfl (c_nat_Gcd (M := []) (h.sub (by simp)) (k.sub (by simp)) (fun m hm => by cases hm) (by omega) (by omega)) rfl ?_
            rintro v33 w7 ⟨h33, hm7⟩
            replace h := h.gr hm7
            replace k := k.gr hm7
            replace hbd := hbd.gr hm7
            replace hm0 := hm0.trans hm7
            replace hb1 := Blk.gr hb1 hm7
            clear hm7
            refine L.call rfl (c_nat_Of (M := []) (n := 1) (by decide) (fun m hm => by cases hm)) rfl ?_
            rintro v34 w8 ⟨h34, hm8⟩
            replace h := h.gr hm8
            replace k := k.gr hm8
            replace hbd := hbd.gr hm8
            replace hm0 := hm0.trans hm8
            replace hb1 := Blk.gr hb1 hm8
            replace h33 := h33.gr hm8
            clear hm8
            refine L.call rfl (c_nat_Cmp h33 h34) rfl ?_
            rintro _ w9 ⟨rfl, hm9⟩
            replace h := h.gr hm9
            replace k := k.gr hm9
            replace hbd := hbd.gr hm9
            replace hm0 := hm0.trans hm9
            replace hb1 := Blk.gr hb1 hm9
            replace h33 := h33.gr hm9
            replace h34 := h34.gr hm9
            clear hm9
            refine L.v ((R1.eq rfl rfl).asB (c := decide (Nat.gcd (val xs) (val ys) = 1)) (by rw [val_toL, val_toL, cmpI_one])) rfl ?_
            refine L.v (R1.assign rfl) rfl ?_
            refine L.nil ?_
            refine X.seq ?_
            refine W.ret ?_
            refine X.result1 rfl (.tmp rfl .nil) ?_
            refine ⟨?_, hm0⟩
            rw [isN_true h.2 k.2 hgd7 hgd13 hgd19 (by first | exact fun h9 => hc28 h9.2 | (intro h9; simp at h9))]
      ·
        try simp only [decide_eq_true_eq, decide_eq_false_iff_not, Bool.not_eq_true', Bool.not_eq_false', Int.not_lt, Int.not_le, ne_eq, Decidable.not_not] at hgd19
        refine L.off rfl rfl rfl rfl rfl ?_
        refine L.off rfl rfl rfl rfl rfl ?_
        refine L.off rfl rfl rfl rfl rfl ?_
        refine L.offU rfl rfl rfl rfl ?_
        refine L.offU rfl rfl rfl rfl ?_
        refine L.offU rfl rfl rfl rfl ?_
        refine L.offU rfl rfl rfl rfl ?_
        refine L.off rfl rfl rfl rfl rfl ?_
        refine L.v (R1.pickT rfl rfl) rfl ?_
        refine L.nil ?_
        refine X.seq ?_
        refine W.condT rfl ?_
        refine W.seq ?_
        refine W.region ?_
        refine L.v (R1.assign rfl) rfl ?_
        refine L.nil ?_
        refine X.seq ?_
        refine W.ret ?_
        refine X.thenRet ?_
        refine X.result1 rfl (.tmp rfl .nil) ?_
        refine ⟨?_, hm0⟩
        rw [isN_false h.2 k.2 (by first | exact .inl hgd7 | exact .inr (.inl hgd13) | exact .inr (.inr (.inl hgd19)) | exact .inr (.inr (.inr ⟨rfl, hc28⟩)) | exact .inr (.inr (.inr ⟨hgd22, hc28⟩)))]
    ·
      try simp only [decide_eq_true_eq, decide_eq_false_iff_not, Bool.not_eq_true', Bool.not_eq_false', Int.not_lt, Int.not_le, ne_eq, Decidable.not_not] at hgd13
      refine L.off rfl rfl rfl rfl rfl ?_
      refine L.off rfl rfl rfl rfl rfl ?_
      refine L.off rfl rfl rfl rfl rfl ?_
      refine L.off rfl rfl rfl rfl rfl ?_
      refine L.v (R1.pickT rfl rfl) rfl ?_
      refine L.v (R1.move rfl) rfl ?_
      refine L.off rfl rfl rfl rfl rfl ?_
      refine L.off rfl rfl rfl rfl rfl ?_
      refine L.off rfl rfl rfl rfl rfl ?_
      refine L.offU rfl rfl rfl rfl ?_
      refine L.offU rfl rfl rfl rfl ?_
      refine L.offU rfl rfl rfl rfl ?_
      refine L.offU rfl rfl rfl rfl ?_
      refine L.off rfl rfl rfl rfl rfl ?_
      refine L.v (R1.pickT rfl rfl) rfl ?_
      refine L.nil ?_
      refine X.seq ?_
      refine W.condT rfl ?_
      refine W.seq ?_
      refine W.region ?_
      refine L.v (R1.assign rfl) rfl ?_
      refine L.nil ?_
      refine X.seq ?_
      refine W.ret ?_
      refine X.thenRet ?_
      refine X.result1 rfl (.tmp rfl .nil) ?_
      refine ⟨?_, hm0⟩
      rw [isN_false h.2 k.2 (by first | exact .inl hgd7 | exact .inr (.inl hgd13) | exact .inr (.inr (.inl hgd19)) | exact .inr (.inr (.inr ⟨rfl, hc28⟩)) | exact .inr (.inr (.inr ⟨hgd22, hc28⟩)))]
  ·
    try simp only [decide_eq_true_eq, decide_eq_false_iff_not, Bool.not_eq_true', Bool.not_eq_false', Int.not_lt, Int.not_le, ne_eq, Decidable.not_not] at hgd7
    refine L.off rfl rfl rfl rfl rfl ?_
    refine L.off rfl rfl rfl rfl rfl ?_
    refine L.off rfl rfl rfl rfl rfl ?_
    refine L.off rfl rfl rfl rfl rfl ?_
    refine L.v (R1.pickT rfl rfl) rfl ?_
    refine L.v (R1.move rfl) rfl ?_
    refine L.off rfl rfl rfl rfl rfl ?_
    refine L.off rfl rfl rfl rfl rfl ?_
    refine L.off rfl rfl rfl rfl rfl ?_
    refine L.off rfl rfl rfl rfl rfl ?_
    refine L.v (R1.pickT rfl rfl) rfl ?_
    refine L.v (R1.move rfl) rfl ?_
    refine L.off rfl rfl rfl rfl rfl ?_
    refine L.off rfl rfl rfl rfl rfl ?_
    refine L.off rfl rfl rfl rfl rfl ?_
    refine L.offU rfl rfl rfl rfl ?_
    refine L.offU rfl rfl rfl rfl ?_
    refine L.offU rfl rfl rfl rfl ?_
    refine L.offU rfl rfl rfl rfl ?_
    refine L.off rfl rfl rfl rfl rfl ?_
    refine L.v (R1.pickT rfl rfl) rfl ?_
    refine L.nil ?_
    refine X.seq ?_
    refine W.condT rfl ?_
    refine W.seq ?_
    refine W.region ?_
    refine L.v (R1.assign rfl) rfl ?_
    refine L.nil ?_
    refine X.seq ?_
    refine W.ret ?_
    refine X.thenRet ?_
    refine X.result1 rfl (.tmp rfl .nil) ?_
    refine ⟨?_, hm0⟩
    rw [isN_false h.2 k.2 (by first | exact .inl hgd7 | exact .inr (.inl hgd13) | exact .inr (.inr (.inl hgd19)) | exact .inr (.inr (.inr ⟨rfl, hc28⟩)) | exact .inr (.inr (.inr ⟨hgd22, hc28⟩)))]

theorem c_ref2_Floor {M N9 : List Nat} {w : World} {s : Bool} {vn vd : Value} {xs ys : List Nat} {q : Rat} (hq : rv s (val xs) (val ys) = q) (h : U32 N9 w vn xs) (k : U32 N9 w vd ys) (hbd : Bd M w) (hl1 : xs.length ≤ 137438953400) (hl2 : ys.length ≤ 137438953400) :
    Ret Try.prog 50 #[.agg #[.bool s, vn, vd]] w (fun r w' => RN M w' r ((q.floor : Int) : Rat) ∧ Mod [] w w') := by
  have la1 := rv_len1 hq h.2
  have la2 := rv_len2 hq k.2
  have ldv := Nat.le_trans (toL_len_mono (Nat.div_le_self q.num.natAbs q.den)) la1
  refine Ret.of (vs := [.agg #[.bool s, vn, vd]]) (n := 33) Try.func50 rfl rfl rfl rfl ?_
  have hm0 : Mod [] w w := Mod.refl _ _
  refine W.seq ?_
  refine W.region ?_
  refine L.box rfl rfl ?_
  intro g1 w1 hN1
  replace h := h.new hN1
  replace k := k.new hN1
  replace hbd := hbd.new hN1
  have hge_g1 := New.ge hN1 hm0.size
  replace hm0 := hm0.trans (hN1.mod.mono (by simp))
  have hb1 := hN1.blk
  clear hN1
  refine L.alloc tyZ27 rfl ?_
  intro g2 w2 hN2
  replace h := h.new hN2
  replace k := k.new hN2
  replace hbd := hbd.new hN2
  have hge_g2 := New.ge hN2 hm0.size
  replace hm0 := hm0.trans (hN2.mod.mono (by simp))
  have hne_g1_g2 := hb1.ne_ hN2
  replace hb1 := Blk.gr hb1 hN2.mod
  have hb2 := hN2.blk
  clear hN2
  refine L.nil ?_
  refine X.seq ?_
  refine W.seq ?_
  refine W.region ?_
  refine L.v (R1.loadBox rfl hb1 tyG27) rfl ?_
  refine L.call rfl (c_ref2_Norm hq h k hbd (by omega) (by omega)) rfl ?_
  rintro _ w3 ⟨⟨A8, c8, B8, e8, rfl, hn8, hd8⟩, hm3⟩
  replace h := h.gr hm3
  replace k := k.gr hm3
  replace hbd := hbd.gr hm3
  replace hm0 := hm0.trans hm3
  replace hb1 := Blk.gr hb1 hm3
  replace hb2 := Blk.gr hb2 hm3
  clear hm3
  refine L.alloc tyZ27 rfl ?_
  intro g3 w4 hN3
  replace h := h.new hN3
  replace k := k.new hN3
  replace hbd := hbd.new hN3
  have hge_g3 := New.ge hN3 hm0.size
  replace hm0 := hm0.trans (hN3.mod.mono (by simp))
  have hne_g1_g3 := hb1.ne_ hN3
  replace hb1 := Blk.gr hb1 hN3.mod
  have hne_g2_g3 := hb2.ne_ hN3
  replace hb2 := Blk.gr hb2 hN3.mod
  replace hn8 := hn8.new hN3
  replace hd8 := hd8.new hN3
  have hb3 := hN3.blk
  clear hN3
  refine L.storeBox rfl rfl hb3 rfl rfl tyG27 ?_
  intro w5 hb3' hm5
  replace h := h.mod hm5 (by simp)
  replace k := k.mod hm5 (by simp)
  replace hbd := hbd.gr hm5
  replace hm0 := hm0.old1 hm5 hge_g3
  replace hb1 := Blk.far hb1 hm5 (by first | exact hne_g1_g3 | exact (hne_g3_g1).symm)
  replace hb2 := Blk.far hb2 hm5 (by first | exact hne_g2_g3 | exact (hne_g3_g2).symm)
  replace hn8 := hn8.mod hm5 (by simp)
  replace hd8 := hd8.mod hm5 (by simp)
  clear hm5
  replace hb3 := hb3'; clear hb3'
  refine L.nil ?_
  refine X.seq ?_
  refine W.seq ?_
  refine W.region ?_
  refine L.v (R1.fieldAt rfl tyF27_1) rfl ?_
  refine L.v (R1.loadFld rfl hb3 rfl tyP25) rfl ?_
  refine L.v (R1.fieldAt rfl tyF27_2) rfl ?_
  refine L.v (R1.loadFld rfl hb3 rfl tyP25) rfl ?_
  refine L.call rfl (c_r1_DivMod hn8 hd8 hbd (by omega) (by omega) (by rw [val_toL]; exact q.den_nz)) rfl ?_
  rintro _ w6 ⟨v14, u14, rfl, h14, k14, hm6⟩
  replace h := h.gr hm6
  replace k := k.gr hm6
  replace hbd := hbd.gr hm6
  replace hm0 := hm0.trans hm6
  replace hb1 := Blk.gr hb1 hm6
  replace hb2 := Blk.gr hb2 hm6
  replace hn8 := hn8.gr hm6
  replace hd8 := hd8.gr hm6
  replace hb3 := Blk.gr hb3 hm6
  clear hm6
  rw [val_toL, val_toL] at h14 k14
  obtain ⟨A14, c14, rfl⟩ := h14.form
  refine L.v (R1.move rfl) rfl ?_
  refine L.v (R1.extract rfl rfl) rfl ?_
  refine L.v (R1.extract rfl rfl) rfl ?_
  refine L.v (R1.extract rfl rfl) rfl ?_
  refine L.v (R1.assign rfl) rfl ?_
  refine L.v (R1.assign rfl) rfl ?_
  refine L.v (R1.assign rfl) rfl ?_
  refine L.nil ?_
  refine X.seq ?_
  refine W.seq ?_
  refine W.seq ?_
  refine W.region ?_
  refine L.v (R1.fieldAt rfl tyF27_0) rfl ?_
  refine L.v (R1.loadFld rfl hb3 rfl tyP4) rfl ?_
  refine L.v (R1.move rfl) rfl ?_
  cases hgd20 : decide (q.num < 0)
  ·
    have hcc_ := hgd20
    refine L.off rfl rfl rfl rfl rfl ?_
    refine L.off rfl rfl rfl rfl rfl ?_
    refine L.off rfl rfl rfl rfl rfl ?_
    refine L.v (R1.pickF rfl rfl) rfl ?_
    refine L.nil ?_
    refine X.seq ?_
    refine W.cut (ι := Nat × Option Addr × Nat × Nat) (fun (m, A, l, c) => [(2, .pointer (some ⟨g2, 0, none⟩)), (3, .pointer (some ⟨g3, 0, none⟩)), (4, .slice A l c)]) (fun (m, A, l, c) w_ => q.floor = sg (decide (q.num < 0)) m ∧ (toL m).length ≤ 1099511627776 ∧ U32 (g3 :: g2 :: g1 :: M) w_ (.slice A l c) (toL m) ∧ Blk w_ g2 27 #[.bool false, .slice none 0 0, .slice none 0 0] ∧ Blk w_ g3 27 #[.bool (decide (q.num < 0)), .slice A8 (toL q.num.natAbs).length c8, .slice B8 (toL q.den).length e8] ∧ Bd (g3 :: g2 :: g1 :: M) w_ ∧ Mod [] w w_) ?_ ?_
    ·
      refine W.condF rfl ?_
      refine W.skip ?_
      refine X.join (q.num.natAbs / q.den, A14, (toL (q.num.natAbs / q.den)).length, c14) ?_ ?_
      · exact ⟨rfl, rfl, rfl, trivial⟩
      ·
        exact ⟨by rw [floor_pos hgd20, hgd20]; rfl, by omega, h14, hb2, hb3, hbd, hm0⟩
    ·
      rintro ⟨m, A, l, c⟩ wj ⟨hfl, hlm, hz, hb2, hb3, hbd, hm0⟩
      refine X.seq ?_
      refine W.seq ?_
      refine W.region ?_
      refine L.v (R1.fieldAt rfl tyF27_0) rfl ?_
      refine L.v (R1.loadFld rfl hb3 rfl tyP4) rfl ?_
      refine L.v (R1.move rfl) rfl ?_
      have hbdz := hbd
      refine L.build1 rfl rfl tyS25 tyZ51 rfl ?_
      intro g31 w7 hN31
      replace hz := hz.gr hN31.mod
      replace hb2 := Blk.gr hb2 hN31.mod
      replace hb3 := Blk.gr hb3 hN31.mod
      replace hbd := hbd.gr hN31.mod
      replace hm0 := hm0.trans hN31.mod
      have h31 : U32 (g3 :: g2 :: g1 :: M) w7 (.slice (some ⟨g31, 0, none⟩) 1 1) (toL 1) := by
          rw [toL_lit1]
          exact U32.of_blk (xs := [1]) hN31.blk (hbdz.not (New.ge hN31 (Nat.le_refl _))) (by show (1 : Nat) ≤ maxLen; decide) (by simp)
      clear hN31
      refine L.call rfl (c_ref2_Of (q := ((q.floor : Int) : Rat)) (by rw [val_toL, val_toL, rv_one, ← hfl]) hz h31 hbd (by omega) (by rw [toL_1]; omega)) rfl ?_
      rintro _ w8 ⟨⟨A32, c32, B32, e32, rfl, hn32, hd32⟩, hm8⟩
      replace hz := hz.gr hm8
      replace hb2 := Blk.gr hb2 hm8
      replace hb3 := Blk.gr hb3 hm8
      replace hbd := hbd.gr hm8
      replace hm0 := hm0.trans hm8
      replace h31 := h31.gr hm8
      clear hm8
      refine L.storeBox rfl rfl hb2 rfl rfl tyG27 ?_
      intro w9 hb2' hm9
      replace hz := hz.mod hm9 (by simp)
      replace hb3 := Blk.far hb3 hm9 (by first | exact hne_g3_g2 | exact (hne_g2_g3).symm)
      replace hbd := hbd.gr hm9
      replace hm0 := hm0.old1 hm9 hge_g2
      replace h31 := h31.mod hm9 (by simp)
      replace hn32 := hn32.mod hm9 (by simp)
      replace hd32 := hd32.mod hm9 (by simp)
      clear hm9
      replace hb2 := hb2'; clear hb2'
      refine L.nil ?_
      refine X.seq ?_
      refine W.ret ?_
      refine X.result1 rfl (.cell rfl (loadVar_blk hb2 tyG27) .nil) ?_
      exact ⟨RN.mk rfl (hn32.sub (by intro b hb; simp [hb])) (hd32.sub (by intro b hb; simp [hb])), hm0⟩
  ·
    have hcc_ := hgd20
    refine L.on rfl rfl rfl (R1.move rfl) rfl ?_
    refine L.on rfl rfl rfl (R1.lenU rfl (by assumption) tyS25) rfl ?_
    refine L.on rfl rfl rfl ((R1.gt rfl rfl).asB (c := decide (q.num.natAbs % q.den ≠ 0)) (lenpos _)) rfl ?_
    refine L.v (R1.pickT rfl rfl) rfl ?_
    refine L.nil ?_
    refine X.seq ?_
    refine W.cut (ι := Nat × Option Addr × Nat × Nat) (fun (m, A, l, c) => [(2, .pointer (some ⟨g2, 0, none⟩)), (3, .pointer (some ⟨g3, 0, none⟩)), (4, .slice A l c)]) (fun (m, A, l, c) w_ => q.floor = sg (decide (q.num < 0)) m ∧ (toL m).length ≤ 1099511627776 ∧ U32 (g3 :: g2 :: g1 :: M) w_ (.slice A l c) (toL m) ∧ Blk w_ g2 27 #[.bool false, .slice none 0 0, .slice none 0 0] ∧ Blk w_ g3 27 #[.bool (decide (q.num < 0)), .slice A8 (toL q.num.natAbs).length c8, .slice B8 (toL q.den).length e8] ∧ Bd (g3 :: g2 :: g1 :: M) w_ ∧ Mod [] w w_) ?_ ?_
    ·
      refine W.cond rfl ?_ ?_
      ·
        intro hc24
        try simp only [decide_eq_true_eq, decide_eq_false_iff_not, Bool.not_eq_true', Bool.not_eq_false', Int.not_lt, Int.not_le, ne_eq, Decidable.not_not] at hc24
        refine W.region ?_
        refine L.v (R1.move rfl) rfl ?_
        have hbdz := hbd
        refine L.build1 rfl rfl tyS25 tyZ51 rfl ?_
        intro g26 w10 hN26
        replace h := h.gr hN26.mod
        replace k := k.gr hN26.mod
        replace hbd := hbd.gr hN26.mod
        replace hm0 := hm0.trans hN26.mod
        replace hb1 := Blk.gr hb1 hN26.mod
        replace hb2 := Blk.gr hb2 hN26.mod
        replace hn8 := hn8.gr hN26.mod
        replace hd8 := hd8.gr hN26.mod
        replace hb3 := Blk.gr hb3 hN26.mod
        replace h14 := h14.gr hN26.mod
        replace k14 := k14.gr hN26.mod
        have h26 : U32 (g3 :: g2 :: g1 :: M) w10 (.slice (some ⟨g26, 0, none⟩) 1 1) (toL 1) := by
            rw [toL_lit1]
            exact U32.of_blk (xs := [1]) hN26.blk (hbdz.not (New.ge hN26 (Nat.le_refl _))) (by show (1 : Nat) ≤ maxLen; decide) (by simp)
        clear hN26
        refine L.call rfl (c_r1_Add h14 h26 hbd (by omega) (by rw [toL_1]; omega)) rfl ?_
        rintro v27 w11 ⟨h27, hm11⟩
        replace h := h.gr hm11
        replace k := k.gr hm11
        replace hbd := hbd.gr hm11
        replace hm0 := hm0.trans hm11
        replace hb1 := Blk.gr hb1 hm11
        replace hb2 := Blk.gr hb2 hm11
        replace hn8 := hn8.gr hm11
        replace hd8 := hd8.gr hm11
        replace hb3 := Blk.gr hb3 hm11
        replace h14 := h14.gr hm11
        replace k14 := k14.gr hm11
        replace h26 := h26.gr hm11
        clear hm11
        rw [val_toL, val_toL] at h27
        obtain ⟨A27, c27, rfl⟩ := h27.form
        refine L.v (R1.assign rfl) rfl ?_
        refine L.nil ?_
        refine X.join (q.num.natAbs / q.den + 1, A27, (toL (q.num.natAbs / q.den + 1)).length, c27) ?_ ?_
        · exact ⟨rfl, rfl, rfl, trivial⟩
        ·
          exact ⟨by rw [floor_neg1 hgd20 hc24, hgd20]; rfl, Nat.le_trans (toL_len_add (c := 137438953400) (Nat.le_trans ldv (by omega)) (by rw [toL_1]; omega)) (by omega), h27, hb2, hb3, hbd, hm0⟩
      ·
        intro hc24
        try simp only [decide_eq_true_eq, decide_eq_false_iff_not, Bool.not_eq_true', Bool.not_eq_false', Int.not_lt, Int.not_le, ne_eq, Decidable.not_not] at hc24
        refine W.skip ?_
        refine X.join (q.num.natAbs / q.den, A14, (toL (q.num.natAbs / q.den)).length, c14) ?_ ?_
        · exact ⟨rfl, rfl, rfl, trivial⟩
        ·
          exact ⟨by rw [floor_neg0 hgd20 hc24, hgd20]; rfl, by omega, h14, hb2, hb3, hbd, hm0⟩
    ·
      rintro ⟨m, A, l, c⟩ wj ⟨hfl, hlm, hz, hb2, hb3, hbd, hm0⟩
      refine X.seq ?_
      refine W.seq ?_
      refine W.region ?_
      refine L.v (R1.fieldAt rfl tyF27_0) rfl ?_
      refine L.v (R1.loadFld rfl hb3 rfl tyP4) rfl ?_
      refine L.v (R1.move rfl) rfl ?_
      have hbdz := hbd
      refine L.build1 rfl rfl tyS25 tyZ51 rfl ?_
      intro g31 w12 hN31
      replace hz := hz.gr hN31.mod
      replace hb2 := Blk.gr hb2 hN31.mod
      replace hb3 := Blk.gr hb3 hN31.mod
      replace hbd := hbd.gr hN31.mod
      replace hm0 := hm0.trans hN31.mod
      have h31 : U32 (g3 :: g2 :: g1 :: M) w12 (.slice (some ⟨g31, 0, none⟩) 1 1) (toL 1) := by
          rw [toL_lit1]
          exact U32.of_blk (xs := [1]) hN31.blk (hbdz.not (New.ge hN31 (Nat.le_refl _))) (by show (1 : Nat) ≤ maxLen; decide) (by simp)
      clear hN31
      refine L.call rfl (c_ref2_Of (q := ((q.floor : Int) : Rat)) (by rw [val_toL, val_toL, rv_one, ← hfl]) hz h31 hbd (by omega) (by rw [toL_1]; omega)) rfl ?_
      rintro _ w13 ⟨⟨A32, c32, B32, e32, rfl, hn32, hd32⟩, hm13⟩
      replace hz := hz.gr hm13
      replace hb2 := Blk.gr hb2 hm13
      replace hb3 := Blk.gr hb3 hm13
      replace hbd := hbd.gr hm13
      replace hm0 := hm0.trans hm13
      replace h31 := h31.gr hm13
      clear hm13
      refine L.storeBox rfl rfl hb2 rfl rfl tyG27 ?_
      intro w14 hb2' hm14
      replace hz := hz.mod hm14 (by simp)
      replace hb3 := Blk.far hb3 hm14 (by first | exact hne_g3_g2 | exact (hne_g2_g3).symm)
      replace hbd := hbd.gr hm14
      replace hm0 := hm0.old1 hm14 hge_g2
      replace h31 := h31.mod hm14 (by simp)
      replace hn32 := hn32.mod hm14 (by simp)
      replace hd32 := hd32.mod hm14 (by simp)
      clear hm14
      replace hb2 := hb2'; clear hb2'
      refine L.nil ?_
      refine X.seq ?_
      refine W.ret ?_
      refine X.result1 rfl (.cell rfl (loadVar_blk hb2 tyG27) .nil) ?_
      exact ⟨RN.mk rfl (hn32.sub (by intro b hb; simp [hb])) (hd32.sub (by intro b hb; simp [hb])), hm0⟩


theorem c_rat_Div {M N8 N9 : List Nat} {w : World} {sa sb : Bool} {an ad bn bd : Value} {xa ya xb yb : List Nat} {qa qb : Rat} (hqa : rv sa (val xa) (val ya) = qa) (hqb : rv sb (val xb) (val yb) = qb) (ha : U32 N8 w an xa) (ka : U32 N8 w ad ya) (hb : U32 N9 w bn xb) (kb : U32 N9 w bd yb) (hbd : Bd M w) (l0 : xa.length ≤ 137438953400) (l1 : ya.length ≤ 137438953400) (l2 : xb.length ≤ 137438953400) (l3 : yb.length ≤ 137438953400) : Ret Try.prog 33 #[.agg #[.bool sa, an, ad], .agg #[.bool sb, bn, bd]] w (fun r w' => ∃ v, r = .tuple #[v, .bool (decide (qb ≠ 0))] ∧ RN M w' v (qa / qb) ∧ Mod [] w w') := by
  by_cases h0 : qb = 0
  · exact (c_rat_Div0 hqa hqb ha ka hb kb hbd l0 l1 l2 l3 h0).mono fun r w' ⟨v, h1, h2, h3⟩ => ⟨v, by rw [h1, decide_eq_false (fun h => h h0)], by rw [h0, Rat.div_def, Rat.inv_zero, Rat.mul_zero]; exact h2, h3⟩
  · exact (c_rat_Div1 hqa hqb ha ka hb kb hbd l0 l1 l2 l3 h0).mono fun r w' ⟨v, h1, h2, h3⟩ => ⟨v, by rw [h1, decide_eq_true h0], h2, h3⟩


theorem c_ref2_Div {M N8 N9 : List Nat} {w : World} {sa sb : Bool} {an ad bn bd : Value} {xa ya xb yb : List Nat} {qa qb : Rat} (hqa : rv sa (val xa) (val ya) = qa) (hqb : rv sb (val xb) (val yb) = qb) (ha : U32 N8 w an xa) (ka : U32 N8 w ad ya) (hb : U32 N9 w bn xb) (kb : U32 N9 w bd yb) (hbd : Bd M w) (l0 : xa.length ≤ 137438953472) (l1 : ya.length ≤ 137438953472) (l2 : xb.length ≤ 137438953472) (l3 : yb.length ≤ 137438953472) : Ret Try.prog 53 #[.agg #[.bool sa, an, ad], .agg #[.bool sb, bn, bd]] w (fun r w' => ∃ v, r = .tuple #[v, .bool (decide (qb ≠ 0))] ∧ RN M w' v (qa / qb) ∧ Mod [] w w') := by
  by_cases h0 : qb = 0
  · exact (c_ref2_Div0 hqa hqb ha ka hb kb hbd l0 l1 l2 l3 h0).mono fun r w' ⟨v, h1, h2, h3⟩ => ⟨v, by rw [h1, decide_eq_false (fun h => h h0)], by rw [h0, Rat.div_def, Rat.inv_zero, Rat.mul_zero]; exact h2, h3⟩
  · exact (c_ref2_Div1 hqa hqb ha ka hb kb hbd l0 l1 l2 l3 h0).mono fun r w' ⟨v, h1, h2, h3⟩ => ⟨v, by rw [h1, decide_eq_true h0], h2, h3⟩

end Go.Proofs.Ytjeodekhamdcmaa
