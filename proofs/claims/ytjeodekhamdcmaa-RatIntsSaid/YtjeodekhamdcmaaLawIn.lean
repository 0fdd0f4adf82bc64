/- Walks: what the functions compute. -/
import Derived.Test.YtjeodekhamdcmaaLawB
import Derived.Test.YtjeodekhamdcmaaRatI
namespace Go.Proofs.Ytjeodekhamdcmaa
open Go.RowKit
set_option linter.unusedVariables false
set_option linter.unusedSimpArgs false
set_option maxRecDepth 10000

theorem mul_small {a b : Int} (h1 : -1073741824 ≤ a) (h2 : a ≤ 1073741824) (h3 : -1073741824 ≤ b) (h4 : b ≤ 1073741824) : -1152921504606846976 ≤ a * b ∧ a * b ≤ 1152921504606846976 := by
  have h : (a * b).natAbs ≤ 1073741824 * 1073741824 := by
    rw [Int.natAbs_mul]; exact Nat.mul_le_mul (by omega) (by omega)
  generalize a * b = z at *
  omega

theorem c_RatInts {M : List Nat} {w : World} {a b : Int} (hbd : Bd M w) :
    Ret Try.prog 10 #[.int .i64 a, .int .i64 b] w (fun r w' => r = .bool true ∧ Mod [] w w') := by
  refine Ret.of (vs := [.int .i64 a, .int .i64 b]) (n := 71) Try.func10 rfl rfl rfl rfl ?_
  have hm0 : Mod [] w w := Mod.refl _ _
  refine W.seq ?_
  refine W.region ?_
  refine L.v (R1.assign rfl) rfl ?_
  refine L.nil ?_
  refine X.seq ?_
  refine W.seq ?_
  refine W.seq ?_
  refine W.region ?_
  refine L.v (R1.move rfl) rfl ?_
  refine L.v ((R1.lt rfl rfl).asB (c := decide (a < -1073741824)) (rfl)) rfl ?_
  refine L.v (R1.move rfl) rfl ?_
  cases hgd10 : decide (a < -1073741824)
  ·
    try simp only [decide_eq_true_eq, decide_eq_false_iff_not, Bool.not_eq_true', Bool.not_eq_false', Int.not_lt, Int.not_le, ne_eq, Decidable.not_not] at hgd10
    refine L.on rfl rfl rfl (R1.move rfl) rfl ?_
    refine L.on rfl rfl rfl ((R1.gt rfl rfl).asB (c := decide (1073741824 < a)) (rfl)) rfl ?_
    refine L.v (R1.pickF rfl rfl) rfl ?_
    refine L.v (R1.move rfl) rfl ?_
    cases hgd14 : decide (1073741824 < a)
    ·
      try simp only [decide_eq_true_eq, decide_eq_false_iff_not, Bool.not_eq_true', Bool.not_eq_false', Int.not_lt, Int.not_le, ne_eq, Decidable.not_not] at hgd14
      refine L.on rfl rfl rfl (R1.move rfl) rfl ?_
      refine L.on rfl rfl rfl ((R1.lt rfl rfl).asB (c := decide (b < -1073741824)) (rfl)) rfl ?_
      refine L.v (R1.pickF rfl rfl) rfl ?_
      refine L.v (R1.move rfl) rfl ?_
      cases hgd18 : decide (b < -1073741824)
      ·
        try simp only [decide_eq_true_eq, decide_eq_false_iff_not, Bool.not_eq_true', Bool.not_eq_false', Int.not_lt, Int.not_le, ne_eq, Decidable.not_not] at hgd18
        refine L.on rfl rfl rfl (R1.move rfl) rfl ?_
        refine L.on rfl rfl rfl (R1.gt rfl rfl) rfl ?_
        refine L.v (R1.pickF rfl rfl) rfl ?_
        refine L.nil ?_
        refine X.seq ?_
        refine W.cond rfl ?_ ?_
        ·
          intro hc21
          try simp only [decide_eq_true_eq, decide_eq_false_iff_not, Bool.not_eq_true', Bool.not_eq_false', Int.not_lt, Int.not_le, ne_eq, Decidable.not_not] at hc21
          refine W.seq ?_
          refine W.region ?_
          refine L.call rfl (c_known2) rfl ?_
          rintro _ w1 ⟨rfl, hm1⟩
          replace hbd := hbd.gr hm1
          replace hm0 := hm0.trans hm1
          clear hm1
          refine L.v (R1.assign rfl) rfl ?_
          refine L.nil ?_
          refine X.seq ?_
          refine W.ret ?_
          refine X.thenRet ?_
          refine X.result1 rfl (.tmp rfl .nil) ?_
          exact ⟨rfl, hm0⟩
        ·
          intro hc21
          try simp only [decide_eq_true_eq, decide_eq_false_iff_not, Bool.not_eq_true', Bool.not_eq_false', Int.not_lt, Int.not_le, ne_eq, Decidable.not_not] at hc21
          have h1 : -1073741824 ≤ a := by omega
          have h2 : a ≤ 1073741824 := by omega
          have h3 : -1073741824 ≤ b := by omega
          have h4 : b ≤ 1073741824 := by omega
          have hab := mul_small h1 h2 h3 h4
          refine W.skip ?_
          refine X.seq ?_
          refine W.seq ?_
          refine W.region ?_
          refine L.v (R1.move rfl) rfl ?_
          refine L.call rfl (c_rat_Int (n := a) (by omega) (by omega) hbd) rfl ?_
          rintro _ w2 ⟨⟨A24, c24, B24, e24, rfl, hn24, hd24⟩, hm2⟩
          replace hbd := hbd.gr hm2
          replace hm0 := hm0.trans hm2
          clear hm2
          have F24 := Fit.int (n := a) (by omega) (by omega)
          refine L.v (R1.move rfl) rfl ?_
          refine L.call rfl (c_rat_Int (n := b) (by omega) (by omega) hbd) rfl ?_
          rintro _ w3 ⟨⟨A26, c26, B26, e26, rfl, hn26, hd26⟩, hm3⟩
          replace hbd := hbd.gr hm3
          replace hm0 := hm0.trans hm3
          replace hn24 := hn24.gr hm3
          replace hd24 := hd24.gr hm3
          clear hm3
          have F26 := Fit.int (n := b) (by omega) (by omega)
          refine L.alloc tyZ27 rfl ?_
          intro g5 w4 hN5
          replace hbd := hbd.new hN5
          have hge_g5 := New.ge hN5 hm0.size
          replace hm0 := hm0.trans (hN5.mod.mono (by simp))
          replace hn24 := hn24.new hN5
          replace hd24 := hd24.new hN5
          replace hn26 := hn26.new hN5
          replace hd26 := hd26.new hN5
          have hb5 := hN5.blk
          clear hN5
          refine L.alloc tyZ27 rfl ?_
          intro g6 w5 hN6
          replace hbd := hbd.new hN6
          have hge_g6 := New.ge hN6 hm0.size
          replace hm0 := hm0.trans (hN6.mod.mono (by simp))
          replace hn24 := hn24.new hN6
          replace hd24 := hd24.new hN6
          replace hn26 := hn26.new hN6
          replace hd26 := hd26.new hN6
          have hne_g5_g6 := hb5.ne_ hN6
          replace hb5 := Blk.gr hb5 hN6.mod
          have hb6 := hN6.blk
          clear hN6
          refine L.storeBox rfl rfl hb5 rfl rfl tyG27 ?_
          intro w6 hb5' hm6
          replace hbd := hbd.gr hm6
          replace hm0 := hm0.old1 hm6 hge_g5
          replace hn24 := hn24.mod hm6 (by simp)
          replace hd24 := hd24.mod hm6 (by simp)
          replace hn26 := hn26.mod hm6 (by simp)
          replace hd26 := hd26.mod hm6 (by simp)
          replace hb6 := Blk.far hb6 hm6 (by first | exact hne_g6_g5 | exact (hne_g5_g6).symm)
          clear hm6
          replace hb5 := hb5'; clear hb5'
          refine L.storeBox rfl rfl hb6 rfl rfl tyG27 ?_
          intro w7 hb6' hm7
          replace hbd := hbd.gr hm7
          replace hm0 := hm0.old1 hm7 hge_g6
          replace hn24 := hn24.mod hm7 (by simp)
          replace hd24 := hd24.mod hm7 (by simp)
          replace hn26 := hn26.mod hm7 (by simp)
          replace hd26 := hd26.mod hm7 (by simp)
          replace hb5 := Blk.far hb5 hm7 (by first | exact hne_g5_g6 | exact (hne_g6_g5).symm)
          clear hm7
          replace hb6 := hb6'; clear hb6'
          refine L.nil ?_
          refine X.seq ?_
          refine W.seq ?_
          refine W.region ?_
          refine L.v (R1.assign rfl) rfl ?_
          refine L.nil ?_
          refine X.seq ?_
          refine W.seq ?_
          refine W.seq ?_
          refine W.region ?_
          refine L.v (R1.move rfl) rfl ?_
          refine L.v (R1.move rfl) rfl ?_
          refine L.v (R1.lt rfl rfl) rfl ?_
          refine L.nil ?_
          refine X.seq ?_
          refine W.cut (ι := Unit) (fun _ => [(0, .int .i64 a), (1, .int .i64 b), (5, .pointer (some ⟨g5, 0, none⟩)), (6, .pointer (some ⟨g6, 0, none⟩)), (7, .int .i64 (if a < b then -1 else 0))]) (fun _ w_ => Blk w_ g5 27 #[.bool (decide (((a : Int) : Rat).num < 0)), .slice A24 (toL ((a : Int) : Rat).num.natAbs).length c24, .slice B24 (toL ((a : Int) : Rat).den).length e24] ∧ Blk w_ g6 27 #[.bool (decide (((b : Int) : Rat).num < 0)), .slice A26 (toL ((b : Int) : Rat).num.natAbs).length c26, .slice B26 (toL ((b : Int) : Rat).den).length e26] ∧ U32 (g6 :: g5 :: M) w_ (.slice A24 (toL ((a : Int) : Rat).num.natAbs).length c24) (toL ((a : Int) : Rat).num.natAbs) ∧ U32 (g6 :: g5 :: M) w_ (.slice B24 (toL ((a : Int) : Rat).den).length e24) (toL ((a : Int) : Rat).den) ∧ U32 (g6 :: g5 :: M) w_ (.slice A26 (toL ((b : Int) : Rat).num.natAbs).length c26) (toL ((b : Int) : Rat).num.natAbs) ∧ U32 (g6 :: g5 :: M) w_ (.slice B26 (toL ((b : Int) : Rat).den).length e26) (toL ((b : Int) : Rat).den) ∧ Bd (g6 :: g5 :: M) w_ ∧ Mod [] w w_) ?_ ?_
          ·
            refine W.cond rfl ?_ ?_
            ·
              intro hc29
              try simp only [decide_eq_true_eq, decide_eq_false_iff_not, Bool.not_eq_true', Bool.not_eq_false', Int.not_lt, Int.not_le, ne_eq, Decidable.not_not] at hc29
              refine W.region ?_
              refine L.v (R1.assign rfl) rfl ?_
              refine L.nil ?_
              refine X.join () ?_ ?_
              · exact ⟨rfl, rfl, rfl, rfl, congrArg (fun i => some (Value.int .i64 i)) (by split <;> first | rfl | omega), trivial⟩
              ·
                exact ⟨hb5, hb6, hn24, hd24, hn26, hd26, hbd, hm0⟩
            ·
              intro hc29
              try simp only [decide_eq_true_eq, decide_eq_false_iff_not, Bool.not_eq_true', Bool.not_eq_false', Int.not_lt, Int.not_le, ne_eq, Decidable.not_not] at hc29
              refine W.skip ?_
              refine X.join () ?_ ?_
              · exact ⟨rfl, rfl, rfl, rfl, congrArg (fun i => some (Value.int .i64 i)) (by split <;> first | rfl | omega), trivial⟩
              ·
                exact ⟨hb5, hb6, hn24, hd24, hn26, hd26, hbd, hm0⟩
          ·
            rintro _ wj ⟨hb5, hb6, hn24, hd24, hn26, hd26, hbd, hm0⟩
            refine X.seq ?_
            refine W.seq ?_
            refine W.seq ?_
            refine W.region ?_
            refine L.v (R1.move rfl) rfl ?_
            refine L.v (R1.move rfl) rfl ?_
            refine L.v (R1.gt rfl rfl) rfl ?_
            refine L.nil ?_
            refine X.seq ?_
            refine W.cut (ι := Unit) (fun _ => [(0, .int .i64 a), (1, .int .i64 b), (5, .pointer (some ⟨g5, 0, none⟩)), (6, .pointer (some ⟨g6, 0, none⟩)), (7, .int .i64 (if a < b then -1 else if a = b then 0 else 1))]) (fun _ w_ => Blk w_ g5 27 #[.bool (decide (((a : Int) : Rat).num < 0)), .slice A24 (toL ((a : Int) : Rat).num.natAbs).length c24, .slice B24 (toL ((a : Int) : Rat).den).length e24] ∧ Blk w_ g6 27 #[.bool (decide (((b : Int) : Rat).num < 0)), .slice A26 (toL ((b : Int) : Rat).num.natAbs).length c26, .slice B26 (toL ((b : Int) : Rat).den).length e26] ∧ U32 (g6 :: g5 :: M) w_ (.slice A24 (toL ((a : Int) : Rat).num.natAbs).length c24) (toL ((a : Int) : Rat).num.natAbs) ∧ U32 (g6 :: g5 :: M) w_ (.slice B24 (toL ((a : Int) : Rat).den).length e24) (toL ((a : Int) : Rat).den) ∧ U32 (g6 :: g5 :: M) w_ (.slice A26 (toL ((b : Int) : Rat).num.natAbs).length c26) (toL ((b : Int) : Rat).num.natAbs) ∧ U32 (g6 :: g5 :: M) w_ (.slice B26 (toL ((b : Int) : Rat).den).length e26) (toL ((b : Int) : Rat).den) ∧ Bd (g6 :: g5 :: M) w_ ∧ Mod [] w w_) ?_ ?_
            ·
              refine W.cond rfl ?_ ?_
              ·
                intro hc32
                try simp only [decide_eq_true_eq, decide_eq_false_iff_not, Bool.not_eq_true', Bool.not_eq_false', Int.not_lt, Int.not_le, ne_eq, Decidable.not_not] at hc32
                refine W.region ?_
                refine L.v (R1.assign rfl) rfl ?_
                refine L.nil ?_
                refine X.join () ?_ ?_
                · exact ⟨rfl, rfl, rfl, rfl, congrArg (fun i => some (Value.int .i64 i)) (by split <;> (try split) <;> first | rfl | omega), trivial⟩
                ·
                  exact ⟨hb5, hb6, hn24, hd24, hn26, hd26, hbd, hm0⟩
              ·
                intro hc32
                try simp only [decide_eq_true_eq, decide_eq_false_iff_not, Bool.not_eq_true', Bool.not_eq_false', Int.not_lt, Int.not_le, ne_eq, Decidable.not_not] at hc32
                refine W.skip ?_
                refine X.join () ?_ ?_
                · exact ⟨rfl, rfl, rfl, rfl, congrArg (fun i => some (Value.int .i64 i)) (by split <;> (try split) <;> first | rfl | omega), trivial⟩
                ·
                  exact ⟨hb5, hb6, hn24, hd24, hn26, hd26, hbd, hm0⟩
            ·
              rintro _ wk ⟨hb5, hb6, hn24, hd24, hn26, hd26, hbd, hm0⟩
              refine X.seq ?_
              refine W.seq ?_
              refine W.region ?_
              refine L.v (R1.loadBox rfl hb5 tyG27) rfl ?_
              refine L.v (R1.loadBox rfl hb6 tyG27) rfl ?_
              refine L.call rfl (c_rat_Add (qa := ((a : Int) : Rat)) (qb := ((b : Int) : Rat)) (rv_toL _) (rv_toL _) hn24 hd24 hn26 hd26 hbd (Nat.le_trans F24.1 (by decide)) (Nat.le_trans F24.2 (by decide)) (Nat.le_trans F26.1 (by decide)) (Nat.le_trans F26.2 (by decide))) rfl ?_
              rintro _ w8 ⟨⟨A35, c35, B35, e35, rfl, hn35, hd35⟩, hm8⟩
              replace hb5 := Blk.gr hb5 hm8
              replace hb6 := Blk.gr hb6 hm8
              replace hn24 := hn24.gr hm8
              replace hd24 := hd24.gr hm8
              replace hn26 := hn26.gr hm8
              replace hd26 := hd26.gr hm8
              replace hbd := hbd.gr hm8
              replace hm0 := hm0.trans hm8
              clear hm8
              have F35 := Fit.add F24 F26
              refine L.v (R1.move rfl) rfl ?_
              refine L.v (R1.move rfl) rfl ?_
              refine L.v ((R1.add rfl rfl).as (wrap_i64 (by omega) (by omega))) rfl ?_
              refine L.call rfl (c_rat_Int (n := (a + b)) (by omega) (by omega) hbd) rfl ?_
              rintro _ w9 ⟨⟨A39, c39, B39, e39, rfl, hn39, hd39⟩, hm9⟩
              replace hb5 := Blk.gr hb5 hm9
              replace hb6 := Blk.gr hb6 hm9
              replace hn24 := hn24.gr hm9
              replace hd24 := hd24.gr hm9
              replace hn26 := hn26.gr hm9
              replace hd26 := hd26.gr hm9
              replace hbd := hbd.gr hm9
              replace hm0 := hm0.trans hm9
              replace hn35 := hn35.gr hm9
              replace hd35 := hd35.gr hm9
              clear hm9
              have F39 := Fit.int (n := (a + b)) (by omega) (by omega)
              refine L.call rfl (c_oneQ (RN.mk rfl hn35 hd35) ((RN.mk rfl hn39 hd39).eq ((Rat.intCast_add _ _)))) rfl ?_
              rintro _ w10 ⟨rfl, hm10⟩
              replace hb5 := Blk.gr hb5 hm10
              replace hb6 := Blk.gr hb6 hm10
              replace hn24 := hn24.gr hm10
              replace hd24 := hd24.gr hm10
              replace hn26 := hn26.gr hm10
              replace hd26 := hd26.gr hm10
              replace hbd := hbd.gr hm10
              replace hm0 := hm0.trans hm10
              replace hn35 := hn35.gr hm10
              replace hd35 := hd35.gr hm10
              replace hn39 := hn39.gr hm10
              replace hd39 := hd39.gr hm10
              clear hm10
              refine L.v (R1.move rfl) rfl ?_
              refine L.on rfl rfl rfl (R1.loadBox rfl hb5 tyG27) rfl ?_
              refine L.on rfl rfl rfl (R1.loadBox rfl hb6 tyG27) rfl ?_
              refine L.callOn rfl rfl rfl rfl (c_rat_Sub (qa := ((a : Int) : Rat)) (qb := ((b : Int) : Rat)) (rv_toL _) (rv_toL _) hn24 hd24 hn26 hd26 hbd (Nat.le_trans F24.1 (by decide)) (Nat.le_trans F24.2 (by decide)) (Nat.le_trans F26.1 (by decide)) (Nat.le_trans F26.2 (by decide))) rfl ?_
              rintro _ w11 ⟨⟨A44, c44, B44, e44, rfl, hn44, hd44⟩, hm11⟩
              replace hb5 := Blk.gr hb5 hm11
              replace hb6 := Blk.gr hb6 hm11
              replace hn24 := hn24.gr hm11
              replace hd24 := hd24.gr hm11
              replace hn26 := hn26.gr hm11
              replace hd26 := hd26.gr hm11
              replace hbd := hbd.gr hm11
              replace hm0 := hm0.trans hm11
              replace hn35 := hn35.gr hm11
              replace hd35 := hd35.gr hm11
              replace hn39 := hn39.gr hm11
              replace hd39 := hd39.gr hm11
              clear hm11
              have F44 := Fit.sub F24 F26
              refine L.on rfl rfl rfl (R1.move rfl) rfl ?_
              refine L.on rfl rfl rfl (R1.move rfl) rfl ?_
              refine L.on rfl rfl rfl ((R1.sub rfl rfl).as (wrap_i64 (by omega) (by omega))) rfl ?_
              refine L.callOn rfl rfl rfl rfl (c_rat_Int (n := (a - b)) (by omega) (by omega) hbd) rfl ?_
              rintro _ w12 ⟨⟨A48, c48, B48, e48, rfl, hn48, hd48⟩, hm12⟩
              replace hb5 := Blk.gr hb5 hm12
              replace hb6 := Blk.gr hb6 hm12
              replace hn24 := hn24.gr hm12
              replace hd24 := hd24.gr hm12
              replace hn26 := hn26.gr hm12
              replace hd26 := hd26.gr hm12
              replace hbd := hbd.gr hm12
              replace hm0 := hm0.trans hm12
              replace hn35 := hn35.gr hm12
              replace hd35 := hd35.gr hm12
              replace hn39 := hn39.gr hm12
              replace hd39 := hd39.gr hm12
              replace hn44 := hn44.gr hm12
              replace hd44 := hd44.gr hm12
              clear hm12
              have F48 := Fit.int (n := (a - b)) (by omega) (by omega)
              refine L.callOn rfl rfl rfl rfl (c_oneQ (RN.mk rfl hn44 hd44) ((RN.mk rfl hn48 hd48).eq ((Rat.intCast_sub _ _)))) rfl ?_
              rintro _ w13 ⟨rfl, hm13⟩
              replace hb5 := Blk.gr hb5 hm13
              replace hb6 := Blk.gr hb6 hm13
              replace hn24 := hn24.gr hm13
              replace hd24 := hd24.gr hm13
              replace hn26 := hn26.gr hm13
              replace hd26 := hd26.gr hm13
              replace hbd := hbd.gr hm13
              replace hm0 := hm0.trans hm13
              replace hn35 := hn35.gr hm13
              replace hd35 := hd35.gr hm13
              replace hn39 := hn39.gr hm13
              replace hd39 := hd39.gr hm13
              replace hn44 := hn44.gr hm13
              replace hd44 := hd44.gr hm13
              replace hn48 := hn48.gr hm13
              replace hd48 := hd48.gr hm13
              clear hm13
              refine L.v (R1.pickT rfl rfl) rfl ?_
              refine L.v (R1.move rfl) rfl ?_
              refine L.on rfl rfl rfl (R1.loadBox rfl hb5 tyG27) rfl ?_
              refine L.on rfl rfl rfl (R1.loadBox rfl hb6 tyG27) rfl ?_
              refine L.callOn rfl rfl rfl rfl (c_rat_Mul (qa := ((a : Int) : Rat)) (qb := ((b : Int) : Rat)) (rv_toL _) (rv_toL _) hn24 hd24 hn26 hd26 hbd (Nat.le_trans F24.1 (by decide)) (Nat.le_trans F24.2 (by decide)) (Nat.le_trans F26.1 (by decide)) (Nat.le_trans F26.2 (by decide))) rfl ?_
              rintro _ w14 ⟨⟨A54, c54, B54, e54, rfl, hn54, hd54⟩, hm14⟩
              replace hb5 := Blk.gr hb5 hm14
              replace hb6 := Blk.gr hb6 hm14
              replace hn24 := hn24.gr hm14
              replace hd24 := hd24.gr hm14
              replace hn26 := hn26.gr hm14
              replace hd26 := hd26.gr hm14
              replace hbd := hbd.gr hm14
              replace hm0 := hm0.trans hm14
              replace hn35 := hn35.gr hm14
              replace hd35 := hd35.gr hm14
              replace hn39 := hn39.gr hm14
              replace hd39 := hd39.gr hm14
              replace hn44 := hn44.gr hm14
              replace hd44 := hd44.gr hm14
              replace hn48 := hn48.gr hm14
              replace hd48 := hd48.gr hm14
              clear hm14
              have F54 := Fit.mul F24 F26
              refine L.on rfl rfl rfl (R1.move rfl) rfl ?_
              refine L.on rfl rfl rfl (R1.move rfl) rfl ?_
              refine L.on rfl rfl rfl ((R1.mul rfl rfl).as (wrap_i64 (by omega) (by omega))) rfl ?_
              refine L.callOn rfl rfl rfl rfl (c_rat_Int (n := (a * b)) (by omega) (by omega) hbd) rfl ?_
              rintro _ w15 ⟨⟨A58, c58, B58, e58, rfl, hn58, hd58⟩, hm15⟩
              replace hb5 := Blk.gr hb5 hm15
              replace hb6 := Blk.gr hb6 hm15
              replace hn24 := hn24.gr hm15
              replace hd24 := hd24.gr hm15
              replace hn26 := hn26.gr hm15
              replace hd26 := hd26.gr hm15
              replace hbd := hbd.gr hm15
              replace hm0 := hm0.trans hm15
              replace hn35 := hn35.gr hm15
              replace hd35 := hd35.gr hm15
              replace hn39 := hn39.gr hm15
              replace hd39 := hd39.gr hm15
              replace hn44 := hn44.gr hm15
              replace hd44 := hd44.gr hm15
              replace hn48 := hn48.gr hm15
              replace hd48 := hd48.gr hm15
              replace hn54 := hn54.gr hm15
              replace hd54 := hd54.gr hm15
              clear hm15
              have F58 := Fit.int (n := (a * b)) (by omega) (by omega)
              refine L.callOn rfl rfl rfl rfl (c_oneQ (RN.mk rfl hn54 hd54) ((RN.mk rfl hn58 hd58).eq ((Rat.intCast_mul _ _)))) rfl ?_
              rintro _ w16 ⟨rfl, hm16⟩
              replace hb5 := Blk.gr hb5 hm16
              replace hb6 := Blk.gr hb6 hm16
              replace hn24 := hn24.gr hm16
              replace hd24 := hd24.gr hm16
              replace hn26 := hn26.gr hm16
              replace hd26 := hd26.gr hm16
              replace hbd := hbd.gr hm16
              replace hm0 := hm0.trans hm16
              replace hn35 := hn35.gr hm16
              replace hd35 := hd35.gr hm16
              replace hn39 := hn39.gr hm16
              replace hd39 := hd39.gr hm16
              replace hn44 := hn44.gr hm16
              replace hd44 := hd44.gr hm16
              replace hn48 := hn48.gr hm16
              replace hd48 := hd48.gr hm16
              replace hn54 := hn54.gr hm16
              replace hd54 := hd54.gr hm16
              replace hn58 := hn58.gr hm16
              replace hd58 := hd58.gr hm16
              clear hm16
              refine L.v (R1.pickT rfl rfl) rfl ?_
              refine L.v (R1.move rfl) rfl ?_
              refine L.on rfl rfl rfl (R1.loadBox rfl hb5 tyG27) rfl ?_
              refine L.on rfl rfl rfl (R1.loadBox rfl hb6 tyG27) rfl ?_
              refine L.callOn rfl rfl rfl rfl (c_rat_Cmp (qa := ((a : Int) : Rat)) (qb := ((b : Int) : Rat)) (rv_toL _) (rv_toL _) hn24 hd24 hn26 hd26 hbd (Nat.le_trans F24.1 (by decide)) (Nat.le_trans F24.2 (by decide)) (Nat.le_trans F26.1 (by decide)) (Nat.le_trans F26.2 (by decide))) rfl ?_
              rintro _ w17 ⟨rfl, hm17⟩
              replace hb5 := Blk.gr hb5 hm17
              replace hb6 := Blk.gr hb6 hm17
              replace hn24 := hn24.gr hm17
              replace hd24 := hd24.gr hm17
              replace hn26 := hn26.gr hm17
              replace hd26 := hd26.gr hm17
              replace hbd := hbd.gr hm17
              replace hm0 := hm0.trans hm17
              replace hn35 := hn35.gr hm17
              replace hd35 := hd35.gr hm17
              replace hn39 := hn39.gr hm17
              replace hd39 := hd39.gr hm17
              replace hn44 := hn44.gr hm17
              replace hd44 := hd44.gr hm17
              replace hn48 := hn48.gr hm17
              replace hd48 := hd48.gr hm17
              replace hn54 := hn54.gr hm17
              replace hd54 := hd54.gr hm17
              replace hn58 := hn58.gr hm17
              replace hd58 := hd58.gr hm17
              clear hm17
              refine L.on rfl rfl rfl (R1.move rfl) rfl ?_
              refine L.on rfl rfl rfl ((R1.eq rfl rfl).asB (c := true) (decide_eq_true (cmpQ_int a b))) rfl ?_
              refine L.v (R1.pickT rfl rfl) rfl ?_
              refine L.v (R1.move rfl) rfl ?_
              refine L.callOn rfl rfl rfl rfl (c_known2) rfl ?_
              rintro _ w18 ⟨rfl, hm18⟩
              replace hb5 := Blk.gr hb5 hm18
              replace hb6 := Blk.gr hb6 hm18
              replace hn24 := hn24.gr hm18
              replace hd24 := hd24.gr hm18
              replace hn26 := hn26.gr hm18
              replace hd26 := hd26.gr hm18
              replace hbd := hbd.gr hm18
              replace hm0 := hm0.trans hm18
              replace hn35 := hn35.gr hm18
              replace hd35 := hd35.gr hm18
              replace hn39 := hn39.gr hm18
              replace hd39 := hd39.gr hm18
              replace hn44 := hn44.gr hm18
              replace hd44 := hd44.gr hm18
              replace hn48 := hn48.gr hm18
              replace hd48 := hd48.gr hm18
              replace hn54 := hn54.gr hm18
              replace hd54 := hd54.gr hm18
              replace hn58 := hn58.gr hm18
              replace hd58 := hd58.gr hm18
              clear hm18
              refine L.v (R1.pickT rfl rfl) rfl ?_
              refine L.v (R1.assign rfl) rfl ?_
              refine L.nil ?_
              refine X.seq ?_
              refine W.ret ?_
              refine X.result1 rfl (.tmp rfl .nil) ?_
              exact ⟨rfl, hm0⟩
      ·
        try simp only [decide_eq_true_eq, decide_eq_false_iff_not, Bool.not_eq_true', Bool.not_eq_false', Int.not_lt, Int.not_le, ne_eq, Decidable.not_not] at hgd18
        refine L.off rfl rfl rfl rfl rfl ?_
        refine L.off rfl rfl rfl rfl rfl ?_
        refine L.v (R1.pickT rfl rfl) rfl ?_
        refine L.nil ?_
        refine X.seq ?_
        refine W.condT rfl ?_
        refine W.seq ?_
        refine W.region ?_
        refine L.call rfl (c_known2) rfl ?_
        rintro _ w19 ⟨rfl, hm19⟩
        replace hbd := hbd.gr hm19
        replace hm0 := hm0.trans hm19
        clear hm19
        refine L.v (R1.assign rfl) rfl ?_
        refine L.nil ?_
        refine X.seq ?_
        refine W.ret ?_
        refine X.thenRet ?_
        refine X.result1 rfl (.tmp rfl .nil) ?_
        exact ⟨rfl, hm0⟩
    ·
      try simp only [decide_eq_true_eq, decide_eq_false_iff_not, Bool.not_eq_true', Bool.not_eq_false', Int.not_lt, Int.not_le, ne_eq, Decidable.not_not] at hgd14
      refine L.off rfl rfl rfl rfl rfl ?_
      refine L.off rfl rfl rfl rfl rfl ?_
      refine L.v (R1.pickT rfl rfl) rfl ?_
      refine L.v (R1.move rfl) rfl ?_
      refine L.off rfl rfl rfl rfl rfl ?_
      refine L.off rfl rfl rfl rfl rfl ?_
      refine L.v (R1.pickT rfl rfl) rfl ?_
      refine L.nil ?_
      refine X.seq ?_
      refine W.condT rfl ?_
      refine W.seq ?_
      refine W.region ?_
      refine L.call rfl (c_known2) rfl ?_
      rintro _ w20 ⟨rfl, hm20⟩
      replace hbd := hbd.gr hm20
      replace hm0 := hm0.trans hm20
      clear hm20
      refine L.v (R1.assign rfl) rfl ?_
      refine L.nil ?_
      refine X.seq ?_
      refine W.ret ?_
      refine X.thenRet ?_
      refine X.result1 rfl (.tmp rfl .nil) ?_
      exact ⟨rfl, hm0⟩
  ·
    try simp only [decide_eq_true_eq, decide_eq_false_iff_not, Bool.not_eq_true', Bool.not_eq_false', Int.not_lt, Int.not_le, ne_eq, Decidable.not_not] at hgd10
    refine L.off rfl rfl rfl rfl rfl ?_
    refine L.off rfl rfl rfl rfl rfl ?_
    refine L.v (R1.pickT rfl rfl) rfl ?_
    refine L.v (R1.move rfl) rfl ?_
    refine L.off rfl rfl rfl rfl rfl ?_
    refine L.off rfl rfl rfl rfl rfl ?_
    refine L.v (R1.pickT rfl rfl) rfl ?_
    refine L.v (R1.move rfl) rfl ?_
    refine L.off rfl rfl rfl rfl rfl ?_
    refine L.off rfl rfl rfl rfl rfl ?_
    refine L.v (R1.pickT rfl rfl) rfl ?_
    refine L.nil ?_
    refine X.seq ?_
    refine W.condT rfl ?_
    refine W.seq ?_
    refine W.region ?_
    refine L.call rfl (c_known2) rfl ?_
    rintro _ w21 ⟨rfl, hm21⟩
    replace hbd := hbd.gr hm21
    replace hm0 := hm0.trans hm21
    clear hm21
    refine L.v (R1.assign rfl) rfl ?_
    refine L.nil ?_
    refine X.seq ?_
    refine W.ret ?_
    refine X.thenRet ?_
    refine X.result1 rfl (.tmp rfl .nil) ?_
    exact ⟨rfl, hm0⟩

end Go.Proofs.Ytjeodekhamdcmaa
