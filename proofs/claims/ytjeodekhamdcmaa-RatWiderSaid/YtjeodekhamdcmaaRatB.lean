/- Walks: what the functions compute. -/
import Derived.Test.YtjeodekhamdcmaaRatA
namespace Go.Proofs.Ytjeodekhamdcmaa
open Go.RowKit
set_option linter.unusedVariables false
set_option linter.unusedSimpArgs false
set_option maxRecDepth 10000

theorem eq_step {xs ys : List Nat} {k : Nat} (h1 : k < xs.length) (h2 : k < ys.length) (h : xs.take k = ys.take k) (he : xs[k] = ys[k]) : xs.take (k + 1) = ys.take (k + 1) := by
  rw [List.take_succ_eq_append_getElem h1, List.take_succ_eq_append_getElem h2, h, he]

theorem c_EqualU {M N9 : List Nat} {w : World} {va vb : Value} {xs ys : List Nat} (h : U32 M w va xs) (k0 : U32 N9 w vb ys) :
    Ret Try.prog 76 #[va, vb] w (fun r w' => r = .bool (decide (xs = ys)) ∧ Mod [] w w') := by
  have hmax := h.1.max; unfold maxLen at hmax
  refine Ret.of (vs := [va, vb]) (n := 26) Try.func76 rfl rfl rfl rfl ?_
  have hm0 : Mod [] w w := Mod.refl _ _
  refine W.seq ?_
  refine W.region ?_
  refine L.v (R1.assign rfl) rfl ?_
  refine L.nil ?_
  refine X.seq ?_
  refine W.seq ?_
  refine W.seq ?_
  refine W.region ?_
  refine L.v (R1.move rfl) rfl ?_
  refine L.v (R1.lenU rfl h tyS25) rfl ?_
  refine L.v (R1.move rfl) rfl ?_
  refine L.v (R1.lenU rfl k0 tyS25) rfl ?_
  refine L.v (R1.ne rfl rfl) rfl ?_
  refine L.nil ?_
  refine X.seq ?_
  refine W.cond rfl ?_ ?_
  ·
    intro hc10
    try simp only [decide_eq_true_eq, decide_eq_false_iff_not, Bool.not_eq_true', Bool.not_eq_false', Int.not_lt, Int.not_le, ne_eq, Decidable.not_not] at hc10
    refine W.seq ?_
    refine W.region ?_
    refine L.v (R1.assign rfl) rfl ?_
    refine L.nil ?_
    refine X.seq ?_
    refine W.ret ?_
    refine X.thenRet ?_
    refine X.result1 rfl (.tmp rfl .nil) ?_
    refine ⟨?_, hm0⟩
    rw [decide_eq_false (fun e => by subst e; omega)]
  ·
    intro hc10
    try simp only [decide_eq_true_eq, decide_eq_false_iff_not, Bool.not_eq_true', Bool.not_eq_false', Int.not_lt, Int.not_le, ne_eq, Decidable.not_not] at hc10
    have hlen : xs.length = ys.length := by omega
    refine W.skip ?_
    refine X.seq ?_
    refine W.seq ?_
    refine W.seq ?_
    refine W.region ?_
    refine L.v (R1.move rfl) rfl ?_
    refine L.v (R1.lenU rfl h tyS25) rfl ?_
    refine L.v (R1.move rfl) rfl ?_
    refine L.nil ?_
    refine X.seq ?_
    refine W.block ?_
    refine W.loop (ι := Nat) (fun k => [(0, va), (1, vb), (12, .int .i64 (xs.length : Int)), (13, .int .i64 (k : Int))]) (fun k w_ => k ≤ xs.length ∧ xs.take k = ys.take k ∧ U32 M w_ va xs ∧ U32 N9 w_ vb ys ∧ Mod [] w w_) (fun k => xs.length - k) 0 ?_ ?_ ?_
    · exact ⟨rfl, rfl, rfl, rfl, trivial⟩
    ·
      exact ⟨Nat.zero_le _, rfl, h, k0, hm0⟩
    ·
      rintro k w1 ⟨hk, he, h, k0, hm0⟩
      refine W.seq ?_
      refine W.region ?_
      refine L.v (R1.lt rfl rfl) rfl ?_
      refine L.nil ?_
      refine X.seq ?_
      refine W.seq ?_
      refine W.cond rfl ?_ ?_
      ·
        intro hc14
        try simp only [decide_eq_true_eq, decide_eq_false_iff_not, Bool.not_eq_true', Bool.not_eq_false', Int.not_lt, Int.not_le, ne_eq, Decidable.not_not] at hc14
        have hk1 : k < xs.length := by omega
        refine W.skip ?_
        refine X.seq ?_
        refine W.seq ?_
        refine W.block ?_
        refine W.seq ?_
        refine W.region ?_
        refine L.v (R1.move rfl) rfl ?_
        refine L.v (R1.assign rfl) rfl ?_
        refine L.nil ?_
        refine X.seq ?_
        refine W.seq ?_
        refine W.drawW (T := []) rfl (by decide +kernel) (NoHang.then (NoHang.block (NoHang.then (NoHang.next (NoHang.block (NoHang.then NoHang.post)))))) (fun w2 hm2 => ?_)
        replace h := h.gr hm2
        replace k0 := k0.gr hm2
        replace hm0 := hm0.trans hm2
        have hS1 : Mod [] w2 w2 := Mod.refl _ _
        clear hm2
        refine D.take 0 rfl (by decide +kernel) (fun w_ hS => (R1.move rfl)) hS1 rfl ?_
        refine D.take 1 rfl (by decide +kernel) (fun w_ hS => (R1.move rfl)) hS1 rfl ?_
        refine D.take 2 rfl (by decide +kernel) (fun w_ hS => (R1.atU (j := k) rfl rfl (U32.gr (by assumption) hS) tyS25 rfl (by omega))) hS1 rfl ?_
        refine D.take 3 rfl (by decide +kernel) (fun w_ hS => (R1.ldU rfl (U32.gr (by assumption) hS) tyP51 (by omega) rfl)) hS1 rfl ?_
        refine D.take 4 rfl (by decide +kernel) (fun w_ hS => (R1.move rfl)) hS1 rfl ?_
        refine D.take 5 rfl (by decide +kernel) (fun w_ hS => (R1.move rfl)) hS1 rfl ?_
        refine D.take 6 rfl (by decide +kernel) (fun w_ hS => (R1.atU (j := k) rfl rfl (U32.gr (by assumption) hS) tyS25 rfl (by omega))) hS1 rfl ?_
        refine D.take 7 rfl (by decide +kernel) (fun w_ hS => (R1.ldU rfl (U32.gr (by assumption) hS) tyP51 (by omega) rfl)) hS1 rfl ?_
        refine D.take 8 rfl (by decide +kernel) (fun w_ hS => (R1.ne rfl rfl)) hS1 rfl ?_
        refine D.done (by decide +kernel) ?_ _
        refine X.seq ?_
        refine W.cond rfl ?_ ?_
        ·
          intro hc24
          try simp only [decide_eq_true_eq, decide_eq_false_iff_not, Bool.not_eq_true', Bool.not_eq_false', Int.not_lt, Int.not_le, ne_eq, Decidable.not_not] at hc24
          refine W.seq ?_
          refine W.region ?_
          refine L.v (R1.assign rfl) rfl ?_
          refine L.nil ?_
          refine X.seq ?_
          refine W.ret ?_
          refine X.blockRet ?_
          refine X.thenRet ?_
          refine X.nextRet ?_
          refine X.blockRet ?_
          refine X.thenRet ?_
          refine X.result1 rfl (.tmp rfl .nil) ?_
          refine ⟨?_, hm0⟩
          rw [decide_eq_false (fun e => by subst e; omega)]
        ·
          intro hc24
          try simp only [decide_eq_true_eq, decide_eq_false_iff_not, Bool.not_eq_true', Bool.not_eq_false', Int.not_lt, Int.not_le, ne_eq, Decidable.not_not] at hc24
          refine W.skip ?_
          refine X.blockEnd ?_
          refine X.seq ?_
          refine W.region ?_
          refine L.v (R1.addI (b := 1) rfl rfl (by omega)) rfl ?_
          refine L.v (R1.move rfl) rfl ?_
          refine L.nil ?_
          refine X.next (k + 1) ?_ ?_ ?_
          · exact ⟨rfl, rfl, rfl, rfl, trivial⟩
          ·
            exact ⟨by omega, eq_step hk1 (by omega) he (by omega), h, k0, hm0⟩
          · first | omega | (dsimp only; omega)
      ·
        intro hc14
        try simp only [decide_eq_true_eq, decide_eq_false_iff_not, Bool.not_eq_true', Bool.not_eq_false', Int.not_lt, Int.not_le, ne_eq, Decidable.not_not] at hc14
        have hk1 : k = xs.length := by omega
        refine W.exit ?_
        refine X.thenExit ?_
        refine X.nextExit ?_
        refine X.here ?_
        refine X.seq ?_
        refine W.seq ?_
        refine W.region ?_
        refine L.v (R1.assign rfl) rfl ?_
        refine L.nil ?_
        refine X.seq ?_
        refine W.ret ?_
        refine X.result1 rfl (.tmp rfl .nil) ?_
        refine ⟨?_, hm0⟩
        rw [hk1, List.take_length, hlen, List.take_length] at he
        rw [decide_eq_true he]

theorem c_rat_Sub {M N8 N9 : List Nat} {w : World} {sa sb : Bool} {an ad bn bd : Value} {xa ya xb yb : List Nat} {qa qb : Rat} (hqa : rv sa (val xa) (val ya) = qa) (hqb : rv sb (val xb) (val yb) = qb) (ha : U32 N8 w an xa) (ka : U32 N8 w ad ya) (hb : U32 N9 w bn xb) (kb : U32 N9 w bd yb) (hbd : Bd M w) (l0 : xa.length ≤ 137438953400) (l1 : ya.length ≤ 137438953400) (l2 : xb.length ≤ 137438953400) (l3 : yb.length ≤ 137438953400) :
    Ret Try.prog 34 #[.agg #[.bool sa, an, ad], .agg #[.bool sb, bn, bd]] w (fun r w' => RN M w' r (qa - qb) ∧ Mod [] w w') := by
  have la1 := rv_len1 hqa ha.2
  have la2 := rv_len2 hqa ka.2
  have lb1 := rv_len1 hqb hb.2
  have lb2 := rv_len2 hqb kb.2
  refine Ret.of (vs := [.agg #[.bool sa, an, ad], .agg #[.bool sb, bn, bd]]) (n := 9) Try.func34 rfl rfl rfl rfl ?_
  have hm0 : Mod [] w w := Mod.refl _ _
  refine W.seq ?_
  refine W.region ?_
  refine L.box rfl rfl ?_
  intro g2 w1 hN2
  replace ha := ha.new hN2
  replace ka := ka.new hN2
  replace hb := hb.new hN2
  replace kb := kb.new hN2
  replace hbd := hbd.new hN2
  have hge_g2 := New.ge hN2 hm0.size
  replace hm0 := hm0.trans (hN2.mod.mono (by simp))
  have hb2 := hN2.blk
  clear hN2
  refine L.box rfl rfl ?_
  intro g3 w2 hN3
  replace ha := ha.new hN3
  replace ka := ka.new hN3
  replace hb := hb.new hN3
  replace kb := kb.new hN3
  replace hbd := hbd.new hN3
  have hge_g3 := New.ge hN3 hm0.size
  replace hm0 := hm0.trans (hN3.mod.mono (by simp))
  have hne_g2_g3 := hb2.ne_ hN3
  replace hb2 := Blk.gr hb2 hN3.mod
  have hb3 := hN3.blk
  clear hN3
  refine L.alloc tyZ27 rfl ?_
  intro g4 w3 hN4
  replace ha := ha.new hN4
  replace ka := ka.new hN4
  replace hb := hb.new hN4
  replace kb := kb.new hN4
  replace hbd := hbd.new hN4
  have hge_g4 := New.ge hN4 hm0.size
  replace hm0 := hm0.trans (hN4.mod.mono (by simp))
  have hne_g2_g4 := hb2.ne_ hN4
  replace hb2 := Blk.gr hb2 hN4.mod
  have hne_g3_g4 := hb3.ne_ hN4
  replace hb3 := Blk.gr hb3 hN4.mod
  have hb4 := hN4.blk
  clear hN4
  refine L.nil ?_
  refine X.seq ?_
  refine W.seq ?_
  refine W.drawW (T := [4]) rfl (by decide +kernel) (NoHang.then NoHang.post) (fun w4 hm4 => ?_)
  replace ha := ha.gr hm4
  replace ka := ka.gr hm4
  replace hb := hb.gr hm4
  replace kb := kb.gr hm4
  replace hbd := hbd.gr hm4
  replace hm0 := hm0.trans hm4
  replace hb2 := Blk.gr hb2 hm4
  replace hb3 := Blk.gr hb3 hm4
  replace hb4 := Blk.gr hb4 hm4
  have hS1 : Mod [] w4 w4 := Mod.refl _ _
  clear hm4
  have hb2_s := hb2
  have hb3_s := hb3
  have hb4_s := hb4
  refine D.take 0 rfl (by decide +kernel) (fun w_ hS => (R1.loadBox rfl (Blk.gr hb2_s hS) tyG27)) hS1 rfl ?_
  refine D.take 1 rfl (by decide +kernel) (fun w_ hS => (R1.loadBox rfl (Blk.gr hb3_s hS) tyG27)) hS1 rfl ?_
  refine D.one 2 rfl (by decide +kernel) (fun hX => ?_)
  refine L.call rfl (c_rat_Neg hqb hb kb hbd (by omega) (by omega)) rfl ?_
  rintro _ w5 ⟨⟨A7, c7, B7, e7, rfl, hn7, hd7⟩, hm5⟩
  replace ha := ha.gr hm5
  replace ka := ka.gr hm5
  replace hb := hb.gr hm5
  replace kb := kb.gr hm5
  replace hbd := hbd.gr hm5
  replace hm0 := hm0.trans hm5
  replace hb2 := Blk.gr hb2 hm5
  replace hb3 := Blk.gr hb3 hm5
  replace hb4 := Blk.gr hb4 hm5
  replace hS1 := hS1.trans hm5
  clear hm5
  have ln1 : (toL (-qb).num.natAbs).length ≤ xb.length := by rw [Rat.neg_num, Int.natAbs_neg]; exact lb1
  have ln2 : (toL (-qb).den).length ≤ yb.length + 1 := by rw [Rat.neg_den]; exact lb2
  refine L.nil (hX _ _ ⟨.inr hS1, ?_⟩)
  refine D.one 3 rfl (by decide +kernel) (fun hX => ?_)
  refine L.call rfl (c_rat_Add (qb := -qb) hqa (rv_toL _) ha ka hn7 hd7 hbd (by omega) (by omega) (by omega) (by omega)) rfl ?_
  rintro _ w6 ⟨⟨A8, c8, B8, e8, rfl, hn8, hd8⟩, hm6⟩
  replace ha := ha.gr hm6
  replace ka := ka.gr hm6
  replace hb := hb.gr hm6
  replace kb := kb.gr hm6
  replace hbd := hbd.gr hm6
  replace hm0 := hm0.trans hm6
  replace hb2 := Blk.gr hb2 hm6
  replace hb3 := Blk.gr hb3 hm6
  replace hb4 := Blk.gr hb4 hm6
  replace hn7 := hn7.gr hm6
  replace hd7 := hd7.gr hm6
  replace hS1 := hS1.trans hm6
  clear hm6
  refine L.nil (hX _ _ ⟨.inr hS1, ?_⟩)
  refine D.one 4 rfl (by decide +kernel) (fun hX => ?_)
  refine L.storeBox rfl rfl hb4 rfl rfl tyG27 ?_
  intro w7 hb4' hm7
  replace ha := ha.mod hm7 (by simp)
  replace ka := ka.mod hm7 (by simp)
  replace hb := hb.mod hm7 (by simp)
  replace kb := kb.mod hm7 (by simp)
  replace hbd := hbd.gr hm7
  replace hm0 := hm0.old1 hm7 hge_g4
  replace hb2 := Blk.far hb2 hm7 (by first | exact hne_g2_g4 | exact (hne_g4_g2).symm)
  replace hb3 := Blk.far hb3 hm7 (by first | exact hne_g3_g4 | exact (hne_g4_g3).symm)
  replace hn7 := hn7.mod hm7 (by simp)
  replace hd7 := hd7.mod hm7 (by simp)
  replace hn8 := hn8.mod hm7 (by simp)
  replace hd8 := hd8.mod hm7 (by simp)
  clear hm7
  replace hb4 := hb4'; clear hb4'
  refine L.nil (hX _ _ ⟨.inl rfl, ?_⟩)
  refine D.done (by decide +kernel) ?_ _
  refine X.seq ?_
  refine W.ret ?_
  refine X.result1 rfl (.cell rfl (loadVar_blk hb4 tyG27) .nil) ?_
  exact ⟨by rw [Rat.sub_eq_add_neg]; exact RN.mk rfl (hn8.sub (by intro b hb; simp [hb])) (hd8.sub (by intro b hb; simp [hb])), hm0⟩

theorem c_rat_Mul {M N8 N9 : List Nat} {w : World} {sa sb : Bool} {an ad bn bd : Value} {xa ya xb yb : List Nat} {qa qb : Rat} (hqa : rv sa (val xa) (val ya) = qa) (hqb : rv sb (val xb) (val yb) = qb) (ha : U32 N8 w an xa) (ka : U32 N8 w ad ya) (hb : U32 N9 w bn xb) (kb : U32 N9 w bd yb) (hbd : Bd M w) (l0 : xa.length ≤ 137438953472) (l1 : ya.length ≤ 137438953472) (l2 : xb.length ≤ 137438953472) (l3 : yb.length ≤ 137438953472) :
    Ret Try.prog 30 #[.agg #[.bool sa, an, ad], .agg #[.bool sb, bn, bd]] w (fun r w' => RN M w' r (qa * qb) ∧ Mod [] w w') := by
  have la1 := rv_len1 hqa ha.2
  have la2 := rv_len2 hqa ka.2
  have lb1 := rv_len1 hqb hb.2
  have lb2 := rv_len2 hqb kb.2
  have m1 := toL_len_mul la1 lb1
  have m3 := toL_len_mul la2 lb2
  refine Ret.of (vs := [.agg #[.bool sa, an, ad], .agg #[.bool sb, bn, bd]]) (n := 25) Try.func30 rfl rfl rfl rfl ?_
  have hm0 : Mod [] w w := Mod.refl _ _
  refine W.seq ?_
  refine W.region ?_
  refine L.box rfl rfl ?_
  intro g2 w1 hN2
  replace ha := ha.new hN2
  replace ka := ka.new hN2
  replace hb := hb.new hN2
  replace kb := kb.new hN2
  replace hbd := hbd.new hN2
  have hge_g2 := New.ge hN2 hm0.size
  replace hm0 := hm0.trans (hN2.mod.mono (by simp))
  have hb2 := hN2.blk
  clear hN2
  refine L.box rfl rfl ?_
  intro g3 w2 hN3
  replace ha := ha.new hN3
  replace ka := ka.new hN3
  replace hb := hb.new hN3
  replace kb := kb.new hN3
  replace hbd := hbd.new hN3
  have hge_g3 := New.ge hN3 hm0.size
  replace hm0 := hm0.trans (hN3.mod.mono (by simp))
  have hne_g2_g3 := hb2.ne_ hN3
  replace hb2 := Blk.gr hb2 hN3.mod
  have hb3 := hN3.blk
  clear hN3
  refine L.alloc tyZ27 rfl ?_
  intro g4 w3 hN4
  replace ha := ha.new hN4
  replace ka := ka.new hN4
  replace hb := hb.new hN4
  replace kb := kb.new hN4
  replace hbd := hbd.new hN4
  have hge_g4 := New.ge hN4 hm0.size
  replace hm0 := hm0.trans (hN4.mod.mono (by simp))
  have hne_g2_g4 := hb2.ne_ hN4
  replace hb2 := Blk.gr hb2 hN4.mod
  have hne_g3_g4 := hb3.ne_ hN4
  replace hb3 := Blk.gr hb3 hN4.mod
  have hb4 := hN4.blk
  clear hN4
  refine L.nil ?_
  refine X.seq ?_
  refine W.seq ?_
  refine W.drawW (T := [4, 5]) rfl (by decide +kernel) (NoHang.then NoHang.post) (fun w4 hm4 => ?_)
  replace ha := ha.gr hm4
  replace ka := ka.gr hm4
  replace hb := hb.gr hm4
  replace kb := kb.gr hm4
  replace hbd := hbd.gr hm4
  replace hm0 := hm0.trans hm4
  replace hb2 := Blk.gr hb2 hm4
  replace hb3 := Blk.gr hb3 hm4
  replace hb4 := Blk.gr hb4 hm4
  have hS1 : Mod [] w4 w4 := Mod.refl _ _
  clear hm4
  have hb2_s := hb2
  have hb3_s := hb3
  have hb4_s := hb4
  refine D.take 0 rfl (by decide +kernel) (fun w_ hS => (R1.loadBox rfl (Blk.gr hb2_s hS) tyG27)) hS1 rfl ?_
  refine D.take 2 rfl (by decide +kernel) (fun w_ hS => (R1.loadBox rfl (Blk.gr hb3_s hS) tyG27)) hS1 rfl ?_
  refine D.one 1 rfl (by decide +kernel) (fun hX => ?_)
  refine L.call rfl (c_rat_Norm hqa ha ka hbd (by omega) (by omega)) rfl ?_
  rintro _ w5 ⟨⟨A6, c6, B6, e6, rfl, hn6, hd6⟩, hm5⟩
  replace ha := ha.gr hm5
  replace ka := ka.gr hm5
  replace hb := hb.gr hm5
  replace kb := kb.gr hm5
  replace hbd := hbd.gr hm5
  replace hm0 := hm0.trans hm5
  replace hb2 := Blk.gr hb2 hm5
  replace hb3 := Blk.gr hb3 hm5
  replace hb4 := Blk.gr hb4 hm5
  replace hS1 := hS1.trans hm5
  clear hm5
  refine L.nil (hX _ _ ⟨.inr hS1, ?_⟩)
  refine D.one 3 rfl (by decide +kernel) (fun hX => ?_)
  refine L.call rfl (c_rat_Norm hqb hb kb hbd (by omega) (by omega)) rfl ?_
  rintro _ w6 ⟨⟨A8, c8, B8, e8, rfl, hn8, hd8⟩, hm6⟩
  replace ha := ha.gr hm6
  replace ka := ka.gr hm6
  replace hb := hb.gr hm6
  replace kb := kb.gr hm6
  replace hbd := hbd.gr hm6
  replace hm0 := hm0.trans hm6
  replace hb2 := Blk.gr hb2 hm6
  replace hb3 := Blk.gr hb3 hm6
  replace hb4 := Blk.gr hb4 hm6
  replace hn6 := hn6.gr hm6
  replace hd6 := hd6.gr hm6
  replace hS1 := hS1.trans hm6
  clear hm6
  refine L.nil (hX _ _ ⟨.inr hS1, ?_⟩)
  refine D.one 4 rfl (by decide +kernel) (fun hX => ?_)
  refine L.storeBox rfl rfl hb2 rfl rfl tyG27 ?_
  intro w7 hb2' hm7
  replace ha := ha.mod hm7 (by simp)
  replace ka := ka.mod hm7 (by simp)
  replace hb := hb.mod hm7 (by simp)
  replace kb := kb.mod hm7 (by simp)
  replace hbd := hbd.gr hm7
  replace hm0 := hm0.old1 hm7 hge_g2
  replace hb3 := Blk.far hb3 hm7 (by first | exact hne_g3_g2 | exact (hne_g2_g3).symm)
  replace hb4 := Blk.far hb4 hm7 (by first | exact hne_g4_g2 | exact (hne_g2_g4).symm)
  replace hn6 := hn6.mod hm7 (by simp)
  replace hd6 := hd6.mod hm7 (by simp)
  replace hn8 := hn8.mod hm7 (by simp)
  replace hd8 := hd8.mod hm7 (by simp)
  clear hm7
  replace hb2 := hb2'; clear hb2'
  refine L.nil (hX _ _ ⟨.inl rfl, ?_⟩)
  refine D.one 5 rfl (by decide +kernel) (fun hX => ?_)
  refine L.storeBox rfl rfl hb3 rfl rfl tyG27 ?_
  intro w8 hb3' hm8
  replace ha := ha.mod hm8 (by simp)
  replace ka := ka.mod hm8 (by simp)
  replace hb := hb.mod hm8 (by simp)
  replace kb := kb.mod hm8 (by simp)
  replace hbd := hbd.gr hm8
  replace hm0 := hm0.old1 hm8 hge_g3
  replace hb4 := Blk.far hb4 hm8 (by first | exact hne_g4_g3 | exact (hne_g3_g4).symm)
  replace hn6 := hn6.mod hm8 (by simp)
  replace hd6 := hd6.mod hm8 (by simp)
  replace hn8 := hn8.mod hm8 (by simp)
  replace hd8 := hd8.mod hm8 (by simp)
  replace hb2 := Blk.far hb2 hm8 (by first | exact hne_g2_g3 | exact (hne_g3_g2).symm)
  clear hm8
  replace hb3 := hb3'; clear hb3'
  refine L.nil (hX _ _ ⟨.inl rfl, ?_⟩)
  refine D.done (by decide +kernel) ?_ _
  refine X.seq ?_
  refine W.seq ?_
  refine W.drawW (T := [16]) rfl (by decide +kernel) (NoHang.then NoHang.post) (fun w9 hm9 => ?_)
  replace ha := ha.gr hm9
  replace ka := ka.gr hm9
  replace hb := hb.gr hm9
  replace kb := kb.gr hm9
  replace hbd := hbd.gr hm9
  replace hm0 := hm0.trans hm9
  replace hb4 := Blk.gr hb4 hm9
  replace hn6 := hn6.gr hm9
  replace hd6 := hd6.gr hm9
  replace hn8 := hn8.gr hm9
  replace hd8 := hd8.gr hm9
  replace hb2 := Blk.gr hb2 hm9
  replace hb3 := Blk.gr hb3 hm9
  have hS2 : Mod [] w9 w9 := Mod.refl _ _
  clear hm9
  have hb4_s := hb4
  have hb2_s := hb2
  have hb3_s := hb3
  refine D.take 0 rfl (by decide +kernel) (fun w_ hS => (R1.fieldAt rfl tyF27_0)) hS2 rfl ?_
  refine D.take 1 rfl (by decide +kernel) (fun w_ hS => (R1.loadFld rfl (Blk.gr hb2_s hS) rfl tyP4)) hS2 rfl ?_
  refine D.take 2 rfl (by decide +kernel) (fun w_ hS => (R1.fieldAt rfl tyF27_0)) hS2 rfl ?_
  refine D.take 3 rfl (by decide +kernel) (fun w_ hS => (R1.loadFld rfl (Blk.gr hb3_s hS) rfl tyP4)) hS2 rfl ?_
  refine D.take 4 rfl (by decide +kernel) (fun w_ hS => (R1.neB rfl rfl tyB4)) hS2 rfl ?_
  refine D.take 5 rfl (by decide +kernel) (fun w_ hS => (R1.fieldAt rfl tyF27_1)) hS2 rfl ?_
  refine D.take 6 rfl (by decide +kernel) (fun w_ hS => (R1.loadFld rfl (Blk.gr hb2_s hS) rfl tyP25)) hS2 rfl ?_
  refine D.take 7 rfl (by decide +kernel) (fun w_ hS => (R1.fieldAt rfl tyF27_1)) hS2 rfl ?_
  refine D.take 8 rfl (by decide +kernel) (fun w_ hS => (R1.loadFld rfl (Blk.gr hb3_s hS) rfl tyP25)) hS2 rfl ?_
  refine D.take 10 rfl (by decide +kernel) (fun w_ hS => (R1.fieldAt rfl tyF27_2)) hS2 rfl ?_
  refine D.take 11 rfl (by decide +kernel) (fun w_ hS => (R1.loadFld rfl (Blk.gr hb2_s hS) rfl tyP25)) hS2 rfl ?_
  refine D.take 12 rfl (by decide +kernel) (fun w_ hS => (R1.fieldAt rfl tyF27_2)) hS2 rfl ?_
  refine D.take 13 rfl (by decide +kernel) (fun w_ hS => (R1.loadFld rfl (Blk.gr hb3_s hS) rfl tyP25)) hS2 rfl ?_
  refine D.one 9 rfl (by decide +kernel) (fun hX => ?_)
  refine L.call rfl (c_nat_Mul hn6 hn8 hbd (by omega) (by omega)) rfl ?_
  rintro v18 w10 ⟨h18, hm10⟩
  replace ha := ha.gr hm10
  replace ka := ka.gr hm10
  replace hb := hb.gr hm10
  replace kb := kb.gr hm10
  replace hbd := hbd.gr hm10
  replace hm0 := hm0.trans hm10
  replace hb4 := Blk.gr hb4 hm10
  replace hn6 := hn6.gr hm10
  replace hd6 := hd6.gr hm10
  replace hn8 := hn8.gr hm10
  replace hd8 := hd8.gr hm10
  replace hb2 := Blk.gr hb2 hm10
  replace hb3 := Blk.gr hb3 hm10
  replace hS2 := hS2.trans hm10
  clear hm10
  rw [val_toL, val_toL] at h18
  refine L.nil (hX _ _ ⟨.inr hS2, ?_⟩)
  refine D.one 14 rfl (by decide +kernel) (fun hX => ?_)
  refine L.call rfl (c_nat_Mul hd6 hd8 hbd (by omega) (by omega)) rfl ?_
  rintro v23 w11 ⟨h23, hm11⟩
  replace ha := ha.gr hm11
  replace ka := ka.gr hm11
  replace hb := hb.gr hm11
  replace kb := kb.gr hm11
  replace hbd := hbd.gr hm11
  replace hm0 := hm0.trans hm11
  replace hb4 := Blk.gr hb4 hm11
  replace hn6 := hn6.gr hm11
  replace hd6 := hd6.gr hm11
  replace hn8 := hn8.gr hm11
  replace hd8 := hd8.gr hm11
  replace hb2 := Blk.gr hb2 hm11
  replace hb3 := Blk.gr hb3 hm11
  replace h18 := h18.gr hm11
  replace hS2 := hS2.trans hm11
  clear hm11
  rw [val_toL, val_toL] at h23
  refine L.nil (hX _ _ ⟨.inr hS2, ?_⟩)
  refine D.one 15 rfl (by decide +kernel) (fun hX => ?_)
  refine L.call rfl (c_rat_Of (q := qa * qb) (by rw [val_toL, val_toL]; exact mul_num qa qb) h18 h23 hbd (by omega) (by omega)) rfl ?_
  rintro _ w12 ⟨⟨A24, c24, B24, e24, rfl, hn24, hd24⟩, hm12⟩
  replace ha := ha.gr hm12
  replace ka := ka.gr hm12
  replace hb := hb.gr hm12
  replace kb := kb.gr hm12
  replace hbd := hbd.gr hm12
  replace hm0 := hm0.trans hm12
  replace hb4 := Blk.gr hb4 hm12
  replace hn6 := hn6.gr hm12
  replace hd6 := hd6.gr hm12
  replace hn8 := hn8.gr hm12
  replace hd8 := hd8.gr hm12
  replace hb2 := Blk.gr hb2 hm12
  replace hb3 := Blk.gr hb3 hm12
  replace h18 := h18.gr hm12
  replace h23 := h23.gr hm12
  replace hS2 := hS2.trans hm12
  clear hm12
  refine L.nil (hX _ _ ⟨.inr hS2, ?_⟩)
  refine D.one 16 rfl (by decide +kernel) (fun hX => ?_)
  refine L.storeBox rfl rfl hb4 rfl rfl tyG27 ?_
  intro w13 hb4' hm13
  replace ha := ha.mod hm13 (by simp)
  replace ka := ka.mod hm13 (by simp)
  replace hb := hb.mod hm13 (by simp)
  replace kb := kb.mod hm13 (by simp)
  replace hbd := hbd.gr hm13
  replace hm0 := hm0.old1 hm13 hge_g4
  replace hn6 := hn6.mod hm13 (by simp)
  replace hd6 := hd6.mod hm13 (by simp)
  replace hn8 := hn8.mod hm13 (by simp)
  replace hd8 := hd8.mod hm13 (by simp)
  replace hb2 := Blk.far hb2 hm13 (by first | exact hne_g2_g4 | exact (hne_g4_g2).symm)
  replace hb3 := Blk.far hb3 hm13 (by first | exact hne_g3_g4 | exact (hne_g4_g3).symm)
  replace h18 := h18.mod hm13 (by simp)
  replace h23 := h23.mod hm13 (by simp)
  replace hn24 := hn24.mod hm13 (by simp)
  replace hd24 := hd24.mod hm13 (by simp)
  clear hm13
  replace hb4 := hb4'; clear hb4'
  refine L.nil (hX _ _ ⟨.inl rfl, ?_⟩)
  refine D.done (by decide +kernel) ?_ _
  refine X.seq ?_
  refine W.ret ?_
  refine X.result1 rfl (.cell rfl (loadVar_blk hb4 tyG27) .nil) ?_
  exact ⟨RN.mk rfl (hn24.sub (by intro b hb; simp [hb])) (hd24.sub (by intro b hb; simp [hb])), hm0⟩

theorem c_rat_Div0 {M N8 N9 : List Nat} {w : World} {sa sb : Bool} {an ad bn bd : Value} {xa ya xb yb : List Nat} {qa qb : Rat} (hqa : rv sa (val xa) (val ya) = qa) (hqb : rv sb (val xb) (val yb) = qb) (ha : U32 N8 w an xa) (ka : U32 N8 w ad ya) (hb : U32 N9 w bn xb) (kb : U32 N9 w bd yb) (hbd : Bd M w) (l0 : xa.length ≤ 137438953400) (l1 : ya.length ≤ 137438953400) (l2 : xb.length ≤ 137438953400) (l3 : yb.length ≤ 137438953400) (h0 : qb = 0) :
    Ret Try.prog 33 #[.agg #[.bool sa, an, ad], .agg #[.bool sb, bn, bd]] w (fun r w' => ∃ v, r = .tuple #[v, .bool false] ∧ RN M w' v 0 ∧ Mod [] w w') := by
  have la1 := rv_len1 hqa ha.2
  have la2 := rv_len2 hqa ka.2
  have lb1 := rv_len1 hqb hb.2
  have lb2 := rv_len2 hqb kb.2
  refine Ret.of (vs := [.agg #[.bool sa, an, ad], .agg #[.bool sb, bn, bd]]) (n := 22) Try.func33 rfl rfl rfl rfl ?_
  have hm0 : Mod [] w w := Mod.refl _ _
  refine W.seq ?_
  refine W.region ?_
  refine L.box rfl rfl ?_
  intro g2 w1 hN2
  replace ha := ha.new hN2
  replace ka := ka.new hN2
  replace hb := hb.new hN2
  replace kb := kb.new hN2
  replace hbd := hbd.new hN2
  have hge_g2 := New.ge hN2 hm0.size
  replace hm0 := hm0.trans (hN2.mod.mono (by simp))
  have hb2 := hN2.blk
  clear hN2
  refine L.box rfl rfl ?_
  intro g3 w2 hN3
  replace ha := ha.new hN3
  replace ka := ka.new hN3
  replace hb := hb.new hN3
  replace kb := kb.new hN3
  replace hbd := hbd.new hN3
  have hge_g3 := New.ge hN3 hm0.size
  replace hm0 := hm0.trans (hN3.mod.mono (by simp))
  have hne_g2_g3 := hb2.ne_ hN3
  replace hb2 := Blk.gr hb2 hN3.mod
  have hb3 := hN3.blk
  clear hN3
  refine L.alloc tyZ27 rfl ?_
  intro g4 w3 hN4
  replace ha := ha.new hN4
  replace ka := ka.new hN4
  replace hb := hb.new hN4
  replace kb := kb.new hN4
  replace hbd := hbd.new hN4
  have hge_g4 := New.ge hN4 hm0.size
  replace hm0 := hm0.trans (hN4.mod.mono (by simp))
  have hne_g2_g4 := hb2.ne_ hN4
  replace hb2 := Blk.gr hb2 hN4.mod
  have hne_g3_g4 := hb3.ne_ hN4
  replace hb3 := Blk.gr hb3 hN4.mod
  have hb4 := hN4.blk
  clear hN4
  refine L.v (R1.assign rfl) rfl ?_
  refine L.nil ?_
  refine X.seq ?_
  refine W.seq ?_
  refine W.region ?_
  refine L.v (R1.loadBox rfl hb3 tyG27) rfl ?_
  refine L.call rfl (c_rat_Norm hqb hb kb hbd (by omega) (by omega)) rfl ?_
  rintro _ w4 ⟨⟨A7, c7, B7, e7, rfl, hn7, hd7⟩, hm4⟩
  replace ha := ha.gr hm4
  replace ka := ka.gr hm4
  replace hb := hb.gr hm4
  replace kb := kb.gr hm4
  replace hbd := hbd.gr hm4
  replace hm0 := hm0.trans hm4
  replace hb2 := Blk.gr hb2 hm4
  replace hb3 := Blk.gr hb3 hm4
  replace hb4 := Blk.gr hb4 hm4
  clear hm4
  refine L.storeBox rfl rfl hb3 rfl rfl tyG27 ?_
  intro w5 hb3' hm5
  replace ha := ha.mod hm5 (by simp)
  replace ka := ka.mod hm5 (by simp)
  replace hb := hb.mod hm5 (by simp)
  replace kb := kb.mod hm5 (by simp)
  replace hbd := hbd.gr hm5
  replace hm0 := hm0.old1 hm5 hge_g3
  replace hb2 := Blk.far hb2 hm5 (by first | exact hne_g2_g3 | exact (hne_g3_g2).symm)
  replace hb4 := Blk.far hb4 hm5 (by first | exact hne_g4_g3 | exact (hne_g3_g4).symm)
  replace hn7 := hn7.mod hm5 (by simp)
  replace hd7 := hd7.mod hm5 (by simp)
  clear hm5
  replace hb3 := hb3'; clear hb3'
  refine L.nil ?_
  refine X.seq ?_
  refine W.seq ?_
  refine W.seq ?_
  refine W.region ?_
  refine L.v (R1.fieldAt rfl tyF27_1) rfl ?_
  refine L.v (R1.loadFld rfl hb3 rfl tyP25) rfl ?_
  refine L.v (R1.lenU rfl (by assumption) tyS25) rfl ?_
  refine L.v ((R1.eq rfl rfl).asB (c := true) (by rw [len0, decide_eq_true_eq, num_zero_iff]; exact h0)) rfl ?_
  refine L.nil ?_
  refine X.seq ?_
  refine W.condT rfl ?_
  refine W.seq ?_
  refine W.region ?_
  refine L.call rfl (c_rat_Int (n := 0) (by decide) (by decide) hbd) rfl ?_
  rintro _ w6 ⟨⟨A12, c12, B12, e12, rfl, hn12, hd12⟩, hm6⟩
  replace ha := ha.gr hm6
  replace ka := ka.gr hm6
  replace hb := hb.gr hm6
  replace kb := kb.gr hm6
  replace hbd := hbd.gr hm6
  replace hm0 := hm0.trans hm6
  replace hb2 := Blk.gr hb2 hm6
  replace hb4 := Blk.gr hb4 hm6
  replace hn7 := hn7.gr hm6
  replace hd7 := hd7.gr hm6
  replace hb3 := Blk.gr hb3 hm6
  clear hm6
  refine L.storeBox rfl rfl hb4 rfl rfl tyG27 ?_
  intro w7 hb4' hm7
  replace ha := ha.mod hm7 (by simp)
  replace ka := ka.mod hm7 (by simp)
  replace hb := hb.mod hm7 (by simp)
  replace kb := kb.mod hm7 (by simp)
  replace hbd := hbd.gr hm7
  replace hm0 := hm0.old1 hm7 hge_g4
  replace hb2 := Blk.far hb2 hm7 (by first | exact hne_g2_g4 | exact (hne_g4_g2).symm)
  replace hn7 := hn7.mod hm7 (by simp)
  replace hd7 := hd7.mod hm7 (by simp)
  replace hb3 := Blk.far hb3 hm7 (by first | exact hne_g3_g4 | exact (hne_g4_g3).symm)
  replace hn12 := hn12.mod hm7 (by simp)
  replace hd12 := hd12.mod hm7 (by simp)
  clear hm7
  replace hb4 := hb4'; clear hb4'
  refine L.v (R1.assign rfl) rfl ?_
  refine L.nil ?_
  refine X.seq ?_
  refine W.ret ?_
  refine X.thenRet ?_
  refine X.result2 rfl (.cell rfl (loadVar_blk hb4 tyG27) (.tmp rfl .nil)) ?_
  exact ⟨_, rfl, RN.mk (q := 0) rfl (hn12.sub (by intro b hb; simp [hb])) (hd12.sub (by intro b hb; simp [hb])), hm0⟩

theorem c_rat_Div1 {M N8 N9 : List Nat} {w : World} {sa sb : Bool} {an ad bn bd : Value} {xa ya xb yb : List Nat} {qa qb : Rat} (hqa : rv sa (val xa) (val ya) = qa) (hqb : rv sb (val xb) (val yb) = qb) (ha : U32 N8 w an xa) (ka : U32 N8 w ad ya) (hb : U32 N9 w bn xb) (kb : U32 N9 w bd yb) (hbd : Bd M w) (l0 : xa.length ≤ 137438953400) (l1 : ya.length ≤ 137438953400) (l2 : xb.length ≤ 137438953400) (l3 : yb.length ≤ 137438953400) (h0 : qb ≠ 0) :
    Ret Try.prog 33 #[.agg #[.bool sa, an, ad], .agg #[.bool sb, bn, bd]] w (fun r w' => ∃ v, r = .tuple #[v, .bool true] ∧ RN M w' v (qa / qb) ∧ Mod [] w w') := by
  have la1 := rv_len1 hqa ha.2
  have la2 := rv_len2 hqa ka.2
  have lb1 := rv_len1 hqb hb.2
  have lb2 := rv_len2 hqb kb.2
  refine Ret.of (vs := [.agg #[.bool sa, an, ad], .agg #[.bool sb, bn, bd]]) (n := 22) Try.func33 rfl rfl rfl rfl ?_
  have hm0 : Mod [] w w := Mod.refl _ _
  refine W.seq ?_
  refine W.region ?_
  refine L.box rfl rfl ?_
  intro g2 w1 hN2
  replace ha := ha.new hN2
  replace ka := ka.new hN2
  replace hb := hb.new hN2
  replace kb := kb.new hN2
  replace hbd := hbd.new hN2
  have hge_g2 := New.ge hN2 hm0.size
  replace hm0 := hm0.trans (hN2.mod.mono (by simp))
  have hb2 := hN2.blk
  clear hN2
  refine L.box rfl rfl ?_
  intro g3 w2 hN3
  replace ha := ha.new hN3
  replace ka := ka.new hN3
  replace hb := hb.new hN3
  replace kb := kb.new hN3
  replace hbd := hbd.new hN3
  have hge_g3 := New.ge hN3 hm0.size
  replace hm0 := hm0.trans (hN3.mod.mono (by simp))
  have hne_g2_g3 := hb2.ne_ hN3
  replace hb2 := Blk.gr hb2 hN3.mod
  have hb3 := hN3.blk
  clear hN3
  refine L.alloc tyZ27 rfl ?_
  intro g4 w3 hN4
  replace ha := ha.new hN4
  replace ka := ka.new hN4
  replace hb := hb.new hN4
  replace kb := kb.new hN4
  replace hbd := hbd.new hN4
  have hge_g4 := New.ge hN4 hm0.size
  replace hm0 := hm0.trans (hN4.mod.mono (by simp))
  have hne_g2_g4 := hb2.ne_ hN4
  replace hb2 := Blk.gr hb2 hN4.mod
  have hne_g3_g4 := hb3.ne_ hN4
  replace hb3 := Blk.gr hb3 hN4.mod
  have hb4 := hN4.blk
  clear hN4
  refine L.v (R1.assign rfl) rfl ?_
  refine L.nil ?_
  refine X.seq ?_
  refine W.seq ?_
  refine W.region ?_
  refine L.v (R1.loadBox rfl hb3 tyG27) rfl ?_
  refine L.call rfl (c_rat_Norm hqb hb kb hbd (by omega) (by omega)) rfl ?_
  rintro _ w4 ⟨⟨A7, c7, B7, e7, rfl, hn7, hd7⟩, hm4⟩
  replace ha := ha.gr hm4
  replace ka := ka.gr hm4
  replace hb := hb.gr hm4
  replace kb := kb.gr hm4
  replace hbd := hbd.gr hm4
  replace hm0 := hm0.trans hm4
  replace hb2 := Blk.gr hb2 hm4
  replace hb3 := Blk.gr hb3 hm4
  replace hb4 := Blk.gr hb4 hm4
  clear hm4
  refine L.storeBox rfl rfl hb3 rfl rfl tyG27 ?_
  intro w5 hb3' hm5
  replace ha := ha.mod hm5 (by simp)
  replace ka := ka.mod hm5 (by simp)
  replace hb := hb.mod hm5 (by simp)
  replace kb := kb.mod hm5 (by simp)
  replace hbd := hbd.gr hm5
  replace hm0 := hm0.old1 hm5 hge_g3
  replace hb2 := Blk.far hb2 hm5 (by first | exact hne_g2_g3 | exact (hne_g3_g2).symm)
  replace hb4 := Blk.far hb4 hm5 (by first | exact hne_g4_g3 | exact (hne_g3_g4).symm)
  replace hn7 := hn7.mod hm5 (by simp)
  replace hd7 := hd7.mod hm5 (by simp)
  clear hm5
  replace hb3 := hb3'; clear hb3'
  refine L.nil ?_
  refine X.seq ?_
  refine W.seq ?_
  refine W.seq ?_
  refine W.region ?_
  refine L.v (R1.fieldAt rfl tyF27_1) rfl ?_
  refine L.v (R1.loadFld rfl hb3 rfl tyP25) rfl ?_
  refine L.v (R1.lenU rfl (by assumption) tyS25) rfl ?_
  refine L.v ((R1.eq rfl rfl).asB (c := false) (by rw [len0, decide_eq_false_iff_not, num_zero_iff]; exact h0)) rfl ?_
  refine L.nil ?_
  refine X.seq ?_
  refine W.condF rfl ?_
  refine W.skip ?_
  refine X.seq ?_
  refine W.seq ?_
  refine W.region ?_
  refine L.v (R1.loadBox rfl hb2 tyG27) rfl ?_
  refine L.v (R1.fieldAt rfl tyF27_0) rfl ?_
  refine L.v (R1.loadFld rfl hb3 rfl tyP4) rfl ?_
  refine L.v (R1.fieldAt rfl tyF27_2) rfl ?_
  refine L.v (R1.loadFld rfl hb3 rfl tyP25) rfl ?_
  refine L.v (R1.fieldAt rfl tyF27_1) rfl ?_
  refine L.v (R1.loadFld rfl hb3 rfl tyP25) rfl ?_
  refine L.v (R1.build rfl (built_Q012 _ _ _ _ _ _ _)) rfl ?_
  refine L.call rfl (c_rat_Mul (qb := qb⁻¹) hqa (by rw [val_toL, val_toL]; exact inv_num h0) ha ka hd7 hn7 hbd (by omega) (by omega) (by omega) (by omega)) rfl ?_
  rintro _ w6 ⟨⟨A21, c21, B21, e21, rfl, hn21, hd21⟩, hm6⟩
  replace ha := ha.gr hm6
  replace ka := ka.gr hm6
  replace hb := hb.gr hm6
  replace kb := kb.gr hm6
  replace hbd := hbd.gr hm6
  replace hm0 := hm0.trans hm6
  replace hb2 := Blk.gr hb2 hm6
  replace hb4 := Blk.gr hb4 hm6
  replace hn7 := hn7.gr hm6
  replace hd7 := hd7.gr hm6
  replace hb3 := Blk.gr hb3 hm6
  clear hm6
  refine L.storeBox rfl rfl hb4 rfl rfl tyG27 ?_
  intro w7 hb4' hm7
  replace ha := ha.mod hm7 (by simp)
  replace ka := ka.mod hm7 (by simp)
  replace hb := hb.mod hm7 (by simp)
  replace kb := kb.mod hm7 (by simp)
  replace hbd := hbd.gr hm7
  replace hm0 := hm0.old1 hm7 hge_g4
  replace hb2 := Blk.far hb2 hm7 (by first | exact hne_g2_g4 | exact (hne_g4_g2).symm)
  replace hn7 := hn7.mod hm7 (by simp)
  replace hd7 := hd7.mod hm7 (by simp)
  replace hb3 := Blk.far hb3 hm7 (by first | exact hne_g3_g4 | exact (hne_g4_g3).symm)
  replace hn21 := hn21.mod hm7 (by simp)
  replace hd21 := hd21.mod hm7 (by simp)
  clear hm7
  replace hb4 := hb4'; clear hb4'
  refine L.v (R1.assign rfl) rfl ?_
  refine L.nil ?_
  refine X.seq ?_
  refine W.ret ?_
  refine X.result2 rfl (.cell rfl (loadVar_blk hb4 tyG27) (.tmp rfl .nil)) ?_
  exact ⟨_, rfl, by rw [Rat.div_def]; exact RN.mk rfl (hn21.sub (by intro b hb; simp [hb])) (hd21.sub (by intro b hb; simp [hb])), hm0⟩

theorem c_rat_Cmp {M N8 N9 : List Nat} {w : World} {sa sb : Bool} {an ad bn bd : Value} {xa ya xb yb : List Nat} {qa qb : Rat} (hqa : rv sa (val xa) (val ya) = qa) (hqb : rv sb (val xb) (val yb) = qb) (ha : U32 N8 w an xa) (ka : U32 N8 w ad ya) (hb : U32 N9 w bn xb) (kb : U32 N9 w bd yb) (hbd : Bd M w) (l0 : xa.length ≤ 137438953000) (l1 : ya.length ≤ 137438953000) (l2 : xb.length ≤ 137438953000) (l3 : yb.length ≤ 137438953000) :
    Ret Try.prog 38 #[.agg #[.bool sa, an, ad], .agg #[.bool sb, bn, bd]] w (fun r w' => r = .int .i64 (cmpQ qa qb) ∧ Mod [] w w') := by
  refine Ret.of (vs := [.agg #[.bool sa, an, ad], .agg #[.bool sb, bn, bd]]) (n := 17) Try.func38 rfl rfl rfl rfl ?_
  have hm0 : Mod [] w w := Mod.refl _ _
  refine W.seq ?_
  refine W.region ?_
  refine L.box rfl rfl ?_
  intro g2 w1 hN2
  replace ha := ha.new hN2
  replace ka := ka.new hN2
  replace hb := hb.new hN2
  replace kb := kb.new hN2
  replace hbd := hbd.new hN2
  have hge_g2 := New.ge hN2 hm0.size
  replace hm0 := hm0.trans (hN2.mod.mono (by simp))
  have hb2 := hN2.blk
  clear hN2
  refine L.box rfl rfl ?_
  intro g3 w2 hN3
  replace ha := ha.new hN3
  replace ka := ka.new hN3
  replace hb := hb.new hN3
  replace kb := kb.new hN3
  replace hbd := hbd.new hN3
  have hge_g3 := New.ge hN3 hm0.size
  replace hm0 := hm0.trans (hN3.mod.mono (by simp))
  have hne_g2_g3 := hb2.ne_ hN3
  replace hb2 := Blk.gr hb2 hN3.mod
  have hb3 := hN3.blk
  clear hN3
  refine L.v (R1.assign rfl) rfl ?_
  refine L.nil ?_
  refine X.seq ?_
  refine W.seq ?_
  refine W.seq ?_
  refine W.region ?_
  refine L.v (R1.loadBox rfl hb2 tyG27) rfl ?_
  refine L.v (R1.loadBox rfl hb3 tyG27) rfl ?_
  refine L.call rfl (c_rat_Sub hqa hqb ha ka hb kb hbd (by omega) (by omega) (by omega) (by omega)) rfl ?_
  rintro _ w3 ⟨⟨A8, c8, B8, e8, rfl, hn8, hd8⟩, hm3⟩
  replace ha := ha.gr hm3
  replace ka := ka.gr hm3
  replace hb := hb.gr hm3
  replace kb := kb.gr hm3
  replace hbd := hbd.gr hm3
  replace hm0 := hm0.trans hm3
  replace hb2 := Blk.gr hb2 hm3
  replace hb3 := Blk.gr hb3 hm3
  clear hm3
  refine L.alloc tyZ27 rfl ?_
  intro g5 w4 hN5
  replace ha := ha.new hN5
  replace ka := ka.new hN5
  replace hb := hb.new hN5
  replace kb := kb.new hN5
  replace hbd := hbd.new hN5
  have hge_g5 := New.ge hN5 hm0.size
  replace hm0 := hm0.trans (hN5.mod.mono (by simp))
  have hne_g2_g5 := hb2.ne_ hN5
  replace hb2 := Blk.gr hb2 hN5.mod
  have hne_g3_g5 := hb3.ne_ hN5
  replace hb3 := Blk.gr hb3 hN5.mod
  replace hn8 := hn8.new hN5
  replace hd8 := hd8.new hN5
  have hb5 := hN5.blk
  clear hN5
  refine L.storeBox rfl rfl hb5 rfl rfl tyG27 ?_
  intro w5 hb5' hm5
  replace ha := ha.mod hm5 (by simp)
  replace ka := ka.mod hm5 (by simp)
  replace hb := hb.mod hm5 (by simp)
  replace kb := kb.mod hm5 (by simp)
  replace hbd := hbd.gr hm5
  replace hm0 := hm0.old1 hm5 hge_g5
  replace hb2 := Blk.far hb2 hm5 (by first | exact hne_g2_g5 | exact (hne_g5_g2).symm)
  replace hb3 := Blk.far hb3 hm5 (by first | exact hne_g3_g5 | exact (hne_g5_g3).symm)
  replace hn8 := hn8.mod hm5 (by simp)
  replace hd8 := hd8.mod hm5 (by simp)
  clear hm5
  replace hb5 := hb5'; clear hb5'
  refine L.nil ?_
  refine X.seq ?_
  refine W.block ?_
  refine W.seq ?_
  refine W.region ?_
  refine L.v (R1.fieldAt rfl tyF27_0) rfl ?_
  refine L.v (R1.loadFld rfl hb5 rfl tyP4) rfl ?_
  refine L.v (R1.assign rfl) rfl ?_
  refine L.nil ?_
  refine X.seq ?_
  refine W.cond rfl ?_ ?_
  ·
    intro hc9
    have hcc_ := hc9
    refine W.seq ?_
    refine W.region ?_
    refine L.v (R1.assign rfl) rfl ?_
    refine L.nil ?_
    refine X.seq ?_
    refine W.ret ?_
    refine X.blockRet ?_
    refine X.thenRet ?_
    refine X.result1 rfl (.tmp rfl .nil) ?_
    exact ⟨by rw [cmpQ_1 hc9], hm0⟩
  ·
    intro hc9
    have hcc_ := hc9
    refine W.seq ?_
    refine W.region ?_
    refine L.v (R1.fieldAt rfl tyF27_1) rfl ?_
    refine L.v (R1.loadFld rfl hb5 rfl tyP25) rfl ?_
    refine L.v (R1.lenU rfl (by assumption) tyS25) rfl ?_
    refine L.v ((R1.gt rfl rfl).asB (c := decide ((qa - qb).num.natAbs ≠ 0)) (lenpos _)) rfl ?_
    refine L.v (R1.assign rfl) rfl ?_
    refine L.nil ?_
    refine X.seq ?_
    refine W.cond rfl ?_ ?_
    ·
      intro hc12
      try simp only [decide_eq_true_eq, decide_eq_false_iff_not, Bool.not_eq_true', Bool.not_eq_false', Int.not_lt, Int.not_le, ne_eq, Decidable.not_not] at hc12
      refine W.seq ?_
      refine W.region ?_
      refine L.v (R1.assign rfl) rfl ?_
      refine L.nil ?_
      refine X.seq ?_
      refine W.ret ?_
      refine X.blockRet ?_
      refine X.thenRet ?_
      refine X.result1 rfl (.tmp rfl .nil) ?_
      exact ⟨by rw [cmpQ_2 hc9 hc12], hm0⟩
    ·
      intro hc12
      try simp only [decide_eq_true_eq, decide_eq_false_iff_not, Bool.not_eq_true', Bool.not_eq_false', Int.not_lt, Int.not_le, ne_eq, Decidable.not_not] at hc12
      refine W.skip ?_
      refine X.blockEnd ?_
      refine X.seq ?_
      refine W.seq ?_
      refine W.region ?_
      refine L.v (R1.assign rfl) rfl ?_
      refine L.nil ?_
      refine X.seq ?_
      refine W.ret ?_
      refine X.result1 rfl (.tmp rfl .nil) ?_
      exact ⟨by rw [cmpQ_3 hc12], hm0⟩

theorem c_rat_Zero {M N9 : List Nat} {w : World} {s : Bool} {vn vd : Value} {xs ys : List Nat} {q : Rat} (hq : rv s (val xs) (val ys) = q) (h : U32 N9 w vn xs) (k : U32 N9 w vd ys) (hbd : Bd M w) (hl1 : xs.length ≤ 1099511627776) (hl2 : ys.length ≤ 1099511627776) :
    Ret Try.prog 46 #[.agg #[.bool s, vn, vd]] w (fun r w' => r = .bool (decide (q = 0)) ∧ Mod [] w w') := by
  refine Ret.of (vs := [.agg #[.bool s, vn, vd]]) (n := 8) Try.func46 rfl rfl rfl rfl ?_
  have hm0 : Mod [] w w := Mod.refl _ _
  refine W.seq ?_
  refine W.region ?_
  refine L.box rfl rfl ?_
  intro g1 w1 hN1
  replace h := h.new hN1
  replace k := k.new hN1
  replace hbd := hbd.new hN1
  have hge_g1 := New.ge hN1 hm0.size
  replace hm0 := hm0.trans (hN1.mod.mono (by simp))
  have hb1 := hN1.blk
  clear hN1
  refine L.v (R1.assign rfl) rfl ?_
  refine L.nil ?_
  refine X.seq ?_
  refine W.seq ?_
  refine W.region ?_
  refine L.v (R1.loadBox rfl hb1 tyG27) rfl ?_
  refine L.call rfl (c_rat_Norm hq h k hbd (by omega) (by omega)) rfl ?_
  rintro _ w2 ⟨⟨A4, c4, B4, e4, rfl, hn4, hd4⟩, hm2⟩
  replace h := h.gr hm2
  replace k := k.gr hm2
  replace hbd := hbd.gr hm2
  replace hm0 := hm0.trans hm2
  replace hb1 := Blk.gr hb1 hm2
  clear hm2
  refine L.v (R1.fieldV rfl tyFP27_1 rfl) rfl ?_
  refine L.v (R1.lenU rfl (by assumption) tyS25) rfl ?_
  refine L.v ((R1.eq rfl rfl).asB (c := decide (q = 0)) (by rw [len0]; congr 1; exact propext (num_zero_iff q))) rfl ?_
  refine L.v (R1.assign rfl) rfl ?_
  refine L.nil ?_
  refine X.seq ?_
  refine W.ret ?_
  refine X.result1 rfl (.tmp rfl .nil) ?_
  exact ⟨rfl, hm0⟩

theorem c_rat_Same {M N8 N9 : List Nat} {w : World} {sa sb : Bool} {an ad bn bd : Value} {xa ya xb yb : List Nat} {qa qb : Rat} (hqa : rv sa (val xa) (val ya) = qa) (hqb : rv sb (val xb) (val yb) = qb) (ha : U32 N8 w an xa) (ka : U32 N8 w ad ya) (hb : U32 N9 w bn xb) (kb : U32 N9 w bd yb) (hbd : Bd M w) (l0 : xa.length ≤ 137438953472) (l1 : ya.length ≤ 137438953472) (l2 : xb.length ≤ 137438953472) (l3 : yb.length ≤ 137438953472) :
    Ret Try.prog 42 #[.agg #[.bool sa, an, ad], .agg #[.bool sb, bn, bd]] w (fun r w' => r = .bool (decide (qa = qb)) ∧ Mod [] w w') := by
  refine Ret.of (vs := [.agg #[.bool sa, an, ad], .agg #[.bool sb, bn, bd]]) (n := 28) Try.func42 rfl rfl rfl rfl ?_
  have hm0 : Mod [] w w := Mod.refl _ _
  refine W.seq ?_
  refine W.region ?_
  refine L.box rfl rfl ?_
  intro g2 w1 hN2
  replace ha := ha.new hN2
  replace ka := ka.new hN2
  replace hb := hb.new hN2
  replace kb := kb.new hN2
  replace hbd := hbd.new hN2
  have hge_g2 := New.ge hN2 hm0.size
  replace hm0 := hm0.trans (hN2.mod.mono (by simp))
  have hb2 := hN2.blk
  clear hN2
  refine L.box rfl rfl ?_
  intro g3 w2 hN3
  replace ha := ha.new hN3
  replace ka := ka.new hN3
  replace hb := hb.new hN3
  replace kb := kb.new hN3
  replace hbd := hbd.new hN3
  have hge_g3 := New.ge hN3 hm0.size
  replace hm0 := hm0.trans (hN3.mod.mono (by simp))
  have hne_g2_g3 := hb2.ne_ hN3
  replace hb2 := Blk.gr hb2 hN3.mod
  have hb3 := hN3.blk
  clear hN3
  refine L.v (R1.assign rfl) rfl ?_
  refine L.nil ?_
  refine X.seq ?_
  refine W.seq ?_
  refine W.drawW (T := [4, 5]) rfl (by decide +kernel) (NoHang.then NoHang.post) (fun w3 hm3 => ?_)
  replace ha := ha.gr hm3
  replace ka := ka.gr hm3
  replace hb := hb.gr hm3
  replace kb := kb.gr hm3
  replace hbd := hbd.gr hm3
  replace hm0 := hm0.trans hm3
  replace hb2 := Blk.gr hb2 hm3
  replace hb3 := Blk.gr hb3 hm3
  have hS1 : Mod [] w3 w3 := Mod.refl _ _
  clear hm3
  have hb2_s := hb2
  have hb3_s := hb3
  refine D.take 0 rfl (by decide +kernel) (fun w_ hS => (R1.loadBox rfl (Blk.gr hb2_s hS) tyG27)) hS1 rfl ?_
  refine D.take 2 rfl (by decide +kernel) (fun w_ hS => (R1.loadBox rfl (Blk.gr hb3_s hS) tyG27)) hS1 rfl ?_
  refine D.one 1 rfl (by decide +kernel) (fun hX => ?_)
  refine L.call rfl (c_rat_Norm hqa ha ka hbd (by omega) (by omega)) rfl ?_
  rintro _ w4 ⟨⟨A6, c6, B6, e6, rfl, hn6, hd6⟩, hm4⟩
  replace ha := ha.gr hm4
  replace ka := ka.gr hm4
  replace hb := hb.gr hm4
  replace kb := kb.gr hm4
  replace hbd := hbd.gr hm4
  replace hm0 := hm0.trans hm4
  replace hb2 := Blk.gr hb2 hm4
  replace hb3 := Blk.gr hb3 hm4
  replace hS1 := hS1.trans hm4
  clear hm4
  refine L.nil (hX _ _ ⟨.inr hS1, ?_⟩)
  refine D.one 3 rfl (by decide +kernel) (fun hX => ?_)
  refine L.call rfl (c_rat_Norm hqb hb kb hbd (by omega) (by omega)) rfl ?_
  rintro _ w5 ⟨⟨A8, c8, B8, e8, rfl, hn8, hd8⟩, hm5⟩
  replace ha := ha.gr hm5
  replace ka := ka.gr hm5
  replace hb := hb.gr hm5
  replace kb := kb.gr hm5
  replace hbd := hbd.gr hm5
  replace hm0 := hm0.trans hm5
  replace hb2 := Blk.gr hb2 hm5
  replace hb3 := Blk.gr hb3 hm5
  replace hn6 := hn6.gr hm5
  replace hd6 := hd6.gr hm5
  replace hS1 := hS1.trans hm5
  clear hm5
  refine L.nil (hX _ _ ⟨.inr hS1, ?_⟩)
  refine D.one 4 rfl (by decide +kernel) (fun hX => ?_)
  refine L.storeBox rfl rfl hb2 rfl rfl tyG27 ?_
  intro w6 hb2' hm6
  replace ha := ha.mod hm6 (by simp)
  replace ka := ka.mod hm6 (by simp)
  replace hb := hb.mod hm6 (by simp)
  replace kb := kb.mod hm6 (by simp)
  replace hbd := hbd.gr hm6
  replace hm0 := hm0.old1 hm6 hge_g2
  replace hb3 := Blk.far hb3 hm6 (by first | exact hne_g3_g2 | exact (hne_g2_g3).symm)
  replace hn6 := hn6.mod hm6 (by simp)
  replace hd6 := hd6.mod hm6 (by simp)
  replace hn8 := hn8.mod hm6 (by simp)
  replace hd8 := hd8.mod hm6 (by simp)
  clear hm6
  replace hb2 := hb2'; clear hb2'
  refine L.nil (hX _ _ ⟨.inl rfl, ?_⟩)
  refine D.one 5 rfl (by decide +kernel) (fun hX => ?_)
  refine L.storeBox rfl rfl hb3 rfl rfl tyG27 ?_
  intro w7 hb3' hm7
  replace ha := ha.mod hm7 (by simp)
  replace ka := ka.mod hm7 (by simp)
  replace hb := hb.mod hm7 (by simp)
  replace kb := kb.mod hm7 (by simp)
  replace hbd := hbd.gr hm7
  replace hm0 := hm0.old1 hm7 hge_g3
  replace hn6 := hn6.mod hm7 (by simp)
  replace hd6 := hd6.mod hm7 (by simp)
  replace hn8 := hn8.mod hm7 (by simp)
  replace hd8 := hd8.mod hm7 (by simp)
  replace hb2 := Blk.far hb2 hm7 (by first | exact hne_g2_g3 | exact (hne_g3_g2).symm)
  clear hm7
  replace hb3 := hb3'; clear hb3'
  refine L.nil (hX _ _ ⟨.inl rfl, ?_⟩)
  refine D.done (by decide +kernel) ?_ _
  refine X.seq ?_
  refine W.seq ?_
  refine W.region ?_
  refine L.v (R1.fieldAt rfl tyF27_0) rfl ?_
  refine L.v (R1.loadFld rfl hb2 rfl tyP4) rfl ?_
  refine L.v (R1.fieldAt rfl tyF27_0) rfl ?_
  refine L.v (R1.loadFld rfl hb3 rfl tyP4) rfl ?_
  refine L.v ((R1.eqB rfl rfl tyB4).asB (c := (decide (qa.num < 0) == decide (qb.num < 0))) (rfl)) rfl ?_
  refine L.v (R1.move rfl) rfl ?_
  cases hgd14 : (decide (qa.num < 0) == decide (qb.num < 0))
  ·
    have hcc_ := hgd14
    refine L.off rfl rfl rfl rfl rfl ?_
    refine L.off rfl rfl rfl rfl rfl ?_
    refine L.off rfl rfl rfl rfl rfl ?_
    refine L.off rfl rfl rfl rfl rfl ?_
    refine L.off rfl rfl rfl rfl rfl ?_
    refine L.v (R1.pickF rfl rfl) rfl ?_
    refine L.v (R1.move rfl) rfl ?_
    refine L.off rfl rfl rfl rfl rfl ?_
    refine L.off rfl rfl rfl rfl rfl ?_
    refine L.off rfl rfl rfl rfl rfl ?_
    refine L.off rfl rfl rfl rfl rfl ?_
    refine L.off rfl rfl rfl rfl rfl ?_
    refine L.v (R1.pickF rfl rfl) rfl ?_
    refine L.v (R1.assign rfl) rfl ?_
    refine L.nil ?_
    refine X.seq ?_
    refine W.ret ?_
    refine X.result1 rfl (.tmp rfl .nil) ?_
    refine ⟨?_, hm0⟩
    first | rw [same_dec, hgd14, hgd21]; rfl | rw [same_dec, hgd14]; rfl
  ·
    have hcc_ := hgd14
    refine L.on rfl rfl rfl (R1.fieldAt rfl tyF27_1) rfl ?_
    refine L.on rfl rfl rfl (R1.loadFld rfl hb2 rfl tyP25) rfl ?_
    refine L.on rfl rfl rfl (R1.fieldAt rfl tyF27_1) rfl ?_
    refine L.on rfl rfl rfl (R1.loadFld rfl hb3 rfl tyP25) rfl ?_
    refine L.callOn rfl rfl rfl rfl (c_EqualU hn6 hn8) rfl ?_
    rintro _ w8 ⟨rfl, hm8⟩
    replace ha := ha.gr hm8
    replace ka := ka.gr hm8
    replace hb := hb.gr hm8
    replace kb := kb.gr hm8
    replace hbd := hbd.gr hm8
    replace hm0 := hm0.trans hm8
    replace hn6 := hn6.gr hm8
    replace hd6 := hd6.gr hm8
    replace hn8 := hn8.gr hm8
    replace hd8 := hd8.gr hm8
    replace hb2 := Blk.gr hb2 hm8
    replace hb3 := Blk.gr hb3 hm8
    clear hm8
    refine L.v (R1.pickT rfl rfl) rfl ?_
    refine L.v (R1.move rfl) rfl ?_
    cases hgd21 : decide (toL qa.num.natAbs = toL qb.num.natAbs)
    ·
      have hcd_ := hgd21
      refine L.off rfl rfl rfl rfl rfl ?_
      refine L.off rfl rfl rfl rfl rfl ?_
      refine L.off rfl rfl rfl rfl rfl ?_
      refine L.off rfl rfl rfl rfl rfl ?_
      refine L.off rfl rfl rfl rfl rfl ?_
      refine L.v (R1.pickF rfl rfl) rfl ?_
      refine L.v (R1.assign rfl) rfl ?_
      refine L.nil ?_
      refine X.seq ?_
      refine W.ret ?_
      refine X.result1 rfl (.tmp rfl .nil) ?_
      refine ⟨?_, hm0⟩
      first | rw [same_dec, hgd14, hgd21]; rfl | rw [same_dec, hgd14]; rfl
    ·
      have hcd_ := hgd21
      refine L.on rfl rfl rfl (R1.fieldAt rfl tyF27_2) rfl ?_
      refine L.on rfl rfl rfl (R1.loadFld rfl hb2 rfl tyP25) rfl ?_
      refine L.on rfl rfl rfl (R1.fieldAt rfl tyF27_2) rfl ?_
      refine L.on rfl rfl rfl (R1.loadFld rfl hb3 rfl tyP25) rfl ?_
      refine L.callOn rfl rfl rfl rfl (c_EqualU hd6 hd8) rfl ?_
      rintro _ w9 ⟨rfl, hm9⟩
      replace ha := ha.gr hm9
      replace ka := ka.gr hm9
      replace hb := hb.gr hm9
      replace kb := kb.gr hm9
      replace hbd := hbd.gr hm9
      replace hm0 := hm0.trans hm9
      replace hn6 := hn6.gr hm9
      replace hd6 := hd6.gr hm9
      replace hn8 := hn8.gr hm9
      replace hd8 := hd8.gr hm9
      replace hb2 := Blk.gr hb2 hm9
      replace hb3 := Blk.gr hb3 hm9
      clear hm9
      refine L.v (R1.pickT rfl rfl) rfl ?_
      refine L.v (R1.assign rfl) rfl ?_
      refine L.nil ?_
      refine X.seq ?_
      refine W.ret ?_
      refine X.result1 rfl (.tmp rfl .nil) ?_
      refine ⟨?_, hm0⟩
      first | rw [same_dec, hgd14, hgd21]; rfl | rw [same_dec, hgd14]; rfl

theorem c_rat_Large {M N9 : List Nat} {w : World} {s : Bool} {vn vd : Value} {xs ys : List Nat} {q : Rat} (hq : rv s (val xs) (val ys) = q) (h : U32 N9 w vn xs) (k : U32 N9 w vd ys) (hbd : Bd M w) (hl1 : xs.length ≤ 1099511627776) (hl2 : ys.length ≤ 1099511627776) :
    Ret Try.prog 47 #[.agg #[.bool s, vn, vd]] w (fun r w' => r = .bool (largeB q) ∧ Mod [] w w') := by
  refine Ret.of (vs := [.agg #[.bool s, vn, vd]]) (n := 15) Try.func47 rfl rfl rfl rfl ?_
  have hm0 : Mod [] w w := Mod.refl _ _
  refine W.seq ?_
  refine W.region ?_
  refine L.box rfl rfl ?_
  intro g1 w1 hN1
  replace h := h.new hN1
  replace k := k.new hN1
  replace hbd := hbd.new hN1
  have hge_g1 := New.ge hN1 hm0.size
  replace hm0 := hm0.trans (hN1.mod.mono (by simp))
  have hb1 := hN1.blk
  clear hN1
  refine L.v (R1.assign rfl) rfl ?_
  refine L.nil ?_
  refine X.seq ?_
  refine W.seq ?_
  refine W.region ?_
  refine L.v (R1.loadBox rfl hb1 tyG27) rfl ?_
  refine L.call rfl (c_rat_Norm hq h k hbd (by omega) (by omega)) rfl ?_
  rintro _ w2 ⟨⟨A4, c4, B4, e4, rfl, hn4, hd4⟩, hm2⟩
  replace h := h.gr hm2
  replace k := k.gr hm2
  replace hbd := hbd.gr hm2
  replace hm0 := hm0.trans hm2
  replace hb1 := Blk.gr hb1 hm2
  clear hm2
  refine L.storeBox rfl rfl hb1 rfl rfl tyG27 ?_
  intro w3 hb1' hm3
  replace h := h.mod hm3 (by simp)
  replace k := k.mod hm3 (by simp)
  replace hbd := hbd.gr hm3
  replace hm0 := hm0.old1 hm3 hge_g1
  replace hn4 := hn4.mod hm3 (by simp)
  replace hd4 := hd4.mod hm3 (by simp)
  clear hm3
  replace hb1 := hb1'; clear hb1'
  refine L.nil ?_
  refine X.seq ?_
  refine W.seq ?_
  refine W.region ?_
  refine L.v (R1.fieldAt rfl tyF27_1) rfl ?_
  refine L.v (R1.loadFld rfl hb1 rfl tyP25) rfl ?_
  refine L.v (R1.lenU rfl (by assumption) tyS25) rfl ?_
  refine L.v ((R1.gt rfl rfl).asB (c := decide (16 < (toL q.num.natAbs).length)) (by congr 1; apply propext; omega)) rfl ?_
  refine L.v (R1.move rfl) rfl ?_
  cases hgd9 : decide (16 < (toL q.num.natAbs).length)
  ·
    have hcc_ := hgd9
    refine L.on rfl rfl rfl (R1.fieldAt rfl tyF27_2) rfl ?_
    refine L.on rfl rfl rfl (R1.loadFld rfl hb1 rfl tyP25) rfl ?_
    refine L.on rfl rfl rfl (R1.lenU rfl (by assumption) tyS25) rfl ?_
    refine L.on rfl rfl rfl ((R1.gt rfl rfl).asB (c := decide (16 < (toL q.den).length)) (by congr 1; apply propext; omega)) rfl ?_
    refine L.v (R1.pickF rfl rfl) rfl ?_
    refine L.v (R1.assign rfl) rfl ?_
    refine L.nil ?_
    refine X.seq ?_
    refine W.ret ?_
    refine X.result1 rfl (.tmp rfl .nil) ?_
    exact ⟨by unfold largeB; rw [hgd9]; rfl, hm0⟩
  ·
    have hcc_ := hgd9
    refine L.off rfl rfl rfl rfl rfl ?_
    refine L.off rfl rfl rfl rfl rfl ?_
    refine L.off rfl rfl rfl rfl rfl ?_
    refine L.off rfl rfl rfl rfl rfl ?_
    refine L.v (R1.pickT rfl rfl) rfl ?_
    refine L.v (R1.assign rfl) rfl ?_
    refine L.nil ?_
    refine X.seq ?_
    refine W.ret ?_
    refine X.result1 rfl (.tmp rfl .nil) ?_
    exact ⟨by unfold largeB; rw [hgd9]; rfl, hm0⟩

theorem c_rat_Floor {M N9 : List Nat} {w : World} {s : Bool} {vn vd : Value} {xs ys : List Nat} {q : Rat} (hq : rv s (val xs) (val ys) = q) (h : U32 N9 w vn xs) (k : U32 N9 w vd ys) (hbd : Bd M w) (hl1 : xs.length ≤ 137438953400) (hl2 : ys.length ≤ 137438953400) :
    Ret Try.prog 40 #[.agg #[.bool s, vn, vd]] w (fun r w' => RN M w' r ((q.floor : Int) : Rat) ∧ Mod [] w w') := by
  have la1 := rv_len1 hq h.2
  have la2 := rv_len2 hq k.2
  have ldv := Nat.le_trans (toL_len_mono (Nat.div_le_self q.num.natAbs q.den)) la1
  refine Ret.of (vs := [.agg #[.bool s, vn, vd]]) (n := 33) Try.func40 rfl rfl rfl rfl ?_
  have hm0 : Mod [] w w := Mod.refl _ _
  refine W.seq ?_
  refine W.region ?_
  refine L.box rfl rfl ?_
  intro g1 w1 hN1
  replace h := h.new hN1
  replace k := k.new hN1
  replace hbd := hbd.new hN1
  have hge_g1 := New.ge hN1 hm0.size
  replace hm0 := hm0.trans (hN1.mod.mono (by simp))
  have hb1 := hN1.blk
  clear hN1
  refine L.alloc tyZ27 rfl ?_
  intro g2 w2 hN2
  replace h := h.new hN2
  replace k := k.new hN2
  replace hbd := hbd.new hN2
  have hge_g2 := New.ge hN2 hm0.size
  replace hm0 := hm0.trans (hN2.mod.mono (by simp))
  have hne_g1_g2 := hb1.ne_ hN2
  replace hb1 := Blk.gr hb1 hN2.mod
  have hb2 := hN2.blk
  clear hN2
  refine L.nil ?_
  refine X.seq ?_
  refine W.seq ?_
  refine W.region ?_
  refine L.v (R1.loadBox rfl hb1 tyG27) rfl ?_
  refine L.call rfl (c_rat_Norm hq h k hbd (by omega) (by omega)) rfl ?_
  rintro _ w3 ⟨⟨A7, c7, B7, e7, rfl, hn7, hd7⟩, hm3⟩
  replace h := h.gr hm3
  replace k := k.gr hm3
  replace hbd := hbd.gr hm3
  replace hm0 := hm0.trans hm3
  replace hb1 := Blk.gr hb1 hm3
  replace hb2 := Blk.gr hb2 hm3
  clear hm3
  refine L.storeBox rfl rfl hb1 rfl rfl tyG27 ?_
  intro w4 hb1' hm4
  replace h := h.mod hm4 (by simp)
  replace k := k.mod hm4 (by simp)
  replace hbd := hbd.gr hm4
  replace hm0 := hm0.old1 hm4 hge_g1
  replace hb2 := Blk.far hb2 hm4 (by first | exact hne_g2_g1 | exact (hne_g1_g2).symm)
  replace hn7 := hn7.mod hm4 (by simp)
  replace hd7 := hd7.mod hm4 (by simp)
  clear hm4
  replace hb1 := hb1'; clear hb1'
  refine L.nil ?_
  refine X.seq ?_
  refine W.seq ?_
  refine W.region ?_
  refine L.v (R1.fieldAt rfl tyF27_1) rfl ?_
  refine L.v (R1.loadFld rfl hb1 rfl tyP25) rfl ?_
  refine L.v (R1.fieldAt rfl tyF27_2) rfl ?_
  refine L.v (R1.loadFld rfl hb1 rfl tyP25) rfl ?_
  refine L.call rfl (c_nat_DivMod hn7 hd7 hbd (by omega) (by omega) (by rw [val_toL]; exact q.den_nz)) rfl ?_
  rintro _ w5 ⟨v13, u13, rfl, h13, k13, hm5⟩
  replace h := h.gr hm5
  replace k := k.gr hm5
  replace hbd := hbd.gr hm5
  replace hm0 := hm0.trans hm5
  replace hb2 := Blk.gr hb2 hm5
  replace hn7 := hn7.gr hm5
  replace hd7 := hd7.gr hm5
  replace hb1 := Blk.gr hb1 hm5
  clear hm5
  rw [val_toL, val_toL] at h13 k13
  obtain ⟨A13, c13, rfl⟩ := h13.form
  refine L.v (R1.move rfl) rfl ?_
  refine L.v (R1.extract rfl rfl) rfl ?_
  refine L.v (R1.extract rfl rfl) rfl ?_
  refine L.v (R1.extract rfl rfl) rfl ?_
  refine L.v (R1.assign rfl) rfl ?_
  refine L.v (R1.assign rfl) rfl ?_
  refine L.v (R1.assign rfl) rfl ?_
  refine L.nil ?_
  refine X.seq ?_
  refine W.seq ?_
  refine W.seq ?_
  refine W.region ?_
  refine L.v (R1.fieldAt rfl tyF27_0) rfl ?_
  refine L.v (R1.loadFld rfl hb1 rfl tyP4) rfl ?_
  refine L.v (R1.move rfl) rfl ?_
  cases hgd19 : decide (q.num < 0)
  ·
    have hcc_ := hgd19
    refine L.off rfl rfl rfl rfl rfl ?_
    refine L.off rfl rfl rfl rfl rfl ?_
    refine L.off rfl rfl rfl rfl rfl ?_
    refine L.v (R1.pickF rfl rfl) rfl ?_
    refine L.nil ?_
    refine X.seq ?_
    refine W.cut (ι := Nat × Option Addr × Nat × Nat) (fun (m, A, l, c) => [(1, .pointer (some ⟨g1, 0, none⟩)), (2, .pointer (some ⟨g2, 0, none⟩)), (3, .slice A l c)]) (fun (m, A, l, c) w_ => q.floor = sg (decide (q.num < 0)) m ∧ U32 (g2 :: g1 :: M) w_ (.slice A l c) (toL m) ∧ Blk w_ g1 27 #[.bool (decide (q.num < 0)), .slice A7 (toL q.num.natAbs).length c7, .slice B7 (toL q.den).length e7] ∧ Blk w_ g2 27 #[.bool false, .slice none 0 0, .slice none 0 0] ∧ True ∧ Bd (g2 :: g1 :: M) w_ ∧ Mod [] w w_) ?_ ?_
    ·
      refine W.condF rfl ?_
      refine W.skip ?_
      refine X.join (q.num.natAbs / q.den, A13, (toL (q.num.natAbs / q.den)).length, c13) ?_ ?_
      · exact ⟨rfl, rfl, rfl, trivial⟩
      ·
        exact ⟨by rw [floor_pos hgd19, hgd19]; rfl, h13, hb1, hb2, trivial, hbd, hm0⟩
    ·
      rintro ⟨m, A, l, c⟩ wj ⟨hfl, hz, hb1, hb2, h7, hbd, hm0⟩
      refine X.seq ?_
      refine W.seq ?_
      refine W.drawW (T := [6]) rfl (by decide +kernel) (NoHang.then NoHang.post) (fun w6 hm6 => ?_)
      replace hz := hz.gr hm6
      replace hb1 := Blk.gr hb1 hm6
      replace hb2 := Blk.gr hb2 hm6
      replace hbd := hbd.gr hm6
      replace hm0 := hm0.trans hm6
      have hS1 : Mod [] w6 w6 := Mod.refl _ _
      clear hm6
      have hb1_s := hb1
      have hb2_s := hb2
      refine D.take 0 rfl (by decide +kernel) (fun w_ hS => (R1.fieldAt rfl tyF27_0)) hS1 rfl ?_
      refine D.take 1 rfl (by decide +kernel) (fun w_ hS => (R1.loadFld rfl (Blk.gr hb1_s hS) rfl tyP4)) hS1 rfl ?_
      refine D.take 2 rfl (by decide +kernel) (fun w_ hS => (R1.move rfl)) hS1 rfl ?_
      refine D.one 3 rfl (by decide +kernel) (fun hX => ?_)
      refine L.call rfl (c_nat_Of (n := 1) (by decide) hbd) rfl ?_
      rintro v30 w7 ⟨h30, hm7⟩
      replace hz := hz.gr hm7
      replace hb1 := Blk.gr hb1 hm7
      replace hb2 := Blk.gr hb2 hm7
      replace hbd := hbd.gr hm7
      replace hm0 := hm0.trans hm7
      replace hS1 := hS1.trans hm7
      clear hm7
      obtain ⟨A30, c30, rfl⟩ := h30.form
      refine L.nil (hX _ _ ⟨.inr hS1, ?_⟩)
      refine D.take 4 rfl (by decide +kernel) (fun w_ hS => (R1.build rfl (built_Q12 _ _ _ _ _ _))) hS1 rfl ?_
      refine D.one 5 rfl (by decide +kernel) (fun hX => ?_)
      refine L.call rfl (c_rat_signed hz) rfl ?_
      rintro _ w8 ⟨rfl, hm8⟩
      replace hz := hz.gr hm8
      replace hb1 := Blk.gr hb1 hm8
      replace hb2 := Blk.gr hb2 hm8
      replace hbd := hbd.gr hm8
      replace hm0 := hm0.trans hm8
      replace h30 := h30.gr hm8
      replace hS1 := hS1.trans hm8
      clear hm8
      refine L.nil (hX _ _ ⟨.inr hS1, ?_⟩)
      refine D.one 6 rfl (by decide +kernel) (fun hX => ?_)
      refine L.storeBox rfl rfl hb2 rfl rfl tyG27 ?_
      intro w9 hb2' hm9
      replace hz := hz.mod hm9 (by simp)
      replace hb1 := Blk.far hb1 hm9 (by first | exact hne_g1_g2 | exact (hne_g2_g1).symm)
      replace hbd := hbd.gr hm9
      replace hm0 := hm0.old1 hm9 hge_g2
      replace h30 := h30.mod hm9 (by simp)
      clear hm9
      replace hb2 := hb2'; clear hb2'
      refine L.nil (hX _ _ ⟨.inl rfl, ?_⟩)
      refine D.done (by decide +kernel) ?_ _
      refine X.seq ?_
      refine W.ret ?_
      refine X.result1 rfl (.cell rfl (loadVar_blk hb2 tyG27) .nil) ?_
      exact ⟨RN.floor hfl (hz.sub (by intro b hb; simp [hb])) (h30.sub (by intro b hb; simp [hb])), hm0⟩
  ·
    have hcc_ := hgd19
    refine L.on rfl rfl rfl (R1.move rfl) rfl ?_
    refine L.on rfl rfl rfl (R1.lenU rfl (by assumption) tyS25) rfl ?_
    refine L.on rfl rfl rfl ((R1.gt rfl rfl).asB (c := decide (q.num.natAbs % q.den ≠ 0)) (lenpos _)) rfl ?_
    refine L.v (R1.pickT rfl rfl) rfl ?_
    refine L.nil ?_
    refine X.seq ?_
    refine W.cut (ι := Nat × Option Addr × Nat × Nat) (fun (m, A, l, c) => [(1, .pointer (some ⟨g1, 0, none⟩)), (2, .pointer (some ⟨g2, 0, none⟩)), (3, .slice A l c)]) (fun (m, A, l, c) w_ => q.floor = sg (decide (q.num < 0)) m ∧ U32 (g2 :: g1 :: M) w_ (.slice A l c) (toL m) ∧ Blk w_ g1 27 #[.bool (decide (q.num < 0)), .slice A7 (toL q.num.natAbs).length c7, .slice B7 (toL q.den).length e7] ∧ Blk w_ g2 27 #[.bool false, .slice none 0 0, .slice none 0 0] ∧ True ∧ Bd (g2 :: g1 :: M) w_ ∧ Mod [] w w_) ?_ ?_
    ·
      refine W.cond rfl ?_ ?_
      ·
        intro hc23
        try simp only [decide_eq_true_eq, decide_eq_false_iff_not, Bool.not_eq_true', Bool.not_eq_false', Int.not_lt, Int.not_le, ne_eq, Decidable.not_not] at hc23
        refine W.region ?_
        refine L.v (R1.move rfl) rfl ?_
        refine L.call rfl (c_nat_Of (n := 1) (by decide) hbd) rfl ?_
        rintro v25 w10 ⟨h25, hm10⟩
        replace h := h.gr hm10
        replace k := k.gr hm10
        replace hbd := hbd.gr hm10
        replace hm0 := hm0.trans hm10
        replace hb2 := Blk.gr hb2 hm10
        replace hn7 := hn7.gr hm10
        replace hd7 := hd7.gr hm10
        replace hb1 := Blk.gr hb1 hm10
        replace h13 := h13.gr hm10
        replace k13 := k13.gr hm10
        clear hm10
        obtain ⟨A25, c25, rfl⟩ := h25.form
        refine L.call rfl (c_nat_Add h13 h25 hbd (by omega) (by rw [toL_1]; omega)) rfl ?_
        rintro v26 w11 ⟨h26, hm11⟩
        replace h := h.gr hm11
        replace k := k.gr hm11
        replace hbd := hbd.gr hm11
        replace hm0 := hm0.trans hm11
        replace hb2 := Blk.gr hb2 hm11
        replace hn7 := hn7.gr hm11
        replace hd7 := hd7.gr hm11
        replace hb1 := Blk.gr hb1 hm11
        replace h13 := h13.gr hm11
        replace k13 := k13.gr hm11
        replace h25 := h25.gr hm11
        clear hm11
        rw [val_toL, val_toL] at h26
        obtain ⟨A26, c26, rfl⟩ := h26.form
        refine L.v (R1.assign rfl) rfl ?_
        refine L.nil ?_
        refine X.join (q.num.natAbs / q.den + 1, A26, (toL (q.num.natAbs / q.den + 1)).length, c26) ?_ ?_
        · exact ⟨rfl, rfl, rfl, trivial⟩
        ·
          exact ⟨by rw [floor_neg1 hgd19 hc23, hgd19]; rfl, h26, hb1, hb2, trivial, hbd, hm0⟩
      ·
        intro hc23
        try simp only [decide_eq_true_eq, decide_eq_false_iff_not, Bool.not_eq_true', Bool.not_eq_false', Int.not_lt, Int.not_le, ne_eq, Decidable.not_not] at hc23
        refine W.skip ?_
        refine X.join (q.num.natAbs / q.den, A13, (toL (q.num.natAbs / q.den)).length, c13) ?_ ?_
        · exact ⟨rfl, rfl, rfl, trivial⟩
        ·
          exact ⟨by rw [floor_neg0 hgd19 hc23, hgd19]; rfl, h13, hb1, hb2, trivial, hbd, hm0⟩
    ·
      rintro ⟨m, A, l, c⟩ wj ⟨hfl, hz, hb1, hb2, h7, hbd, hm0⟩
      refine X.seq ?_
      refine W.seq ?_
      refine W.drawW (T := [6]) rfl (by decide +kernel) (NoHang.then NoHang.post) (fun w12 hm12 => ?_)
      replace hz := hz.gr hm12
      replace hb1 := Blk.gr hb1 hm12
      replace hb2 := Blk.gr hb2 hm12
      replace hbd := hbd.gr hm12
      replace hm0 := hm0.trans hm12
      have hS2 : Mod [] w12 w12 := Mod.refl _ _
      clear hm12
      have hb1_s := hb1
      have hb2_s := hb2
      refine D.take 0 rfl (by decide +kernel) (fun w_ hS => (R1.fieldAt rfl tyF27_0)) hS2 rfl ?_
      refine D.take 1 rfl (by decide +kernel) (fun w_ hS => (R1.loadFld rfl (Blk.gr hb1_s hS) rfl tyP4)) hS2 rfl ?_
      refine D.take 2 rfl (by decide +kernel) (fun w_ hS => (R1.move rfl)) hS2 rfl ?_
      refine D.one 3 rfl (by decide +kernel) (fun hX => ?_)
      refine L.call rfl (c_nat_Of (n := 1) (by decide) hbd) rfl ?_
      rintro v30 w13 ⟨h30, hm13⟩
      replace hz := hz.gr hm13
      replace hb1 := Blk.gr hb1 hm13
      replace hb2 := Blk.gr hb2 hm13
      replace hbd := hbd.gr hm13
      replace hm0 := hm0.trans hm13
      replace hS2 := hS2.trans hm13
      clear hm13
      obtain ⟨A30, c30, rfl⟩ := h30.form
      refine L.nil (hX _ _ ⟨.inr hS2, ?_⟩)
      refine D.take 4 rfl (by decide +kernel) (fun w_ hS => (R1.build rfl (built_Q12 _ _ _ _ _ _))) hS2 rfl ?_
      refine D.one 5 rfl (by decide +kernel) (fun hX => ?_)
      refine L.call rfl (c_rat_signed hz) rfl ?_
      rintro _ w14 ⟨rfl, hm14⟩
      replace hz := hz.gr hm14
      replace hb1 := Blk.gr hb1 hm14
      replace hb2 := Blk.gr hb2 hm14
      replace hbd := hbd.gr hm14
      replace hm0 := hm0.trans hm14
      replace h30 := h30.gr hm14
      replace hS2 := hS2.trans hm14
      clear hm14
      refine L.nil (hX _ _ ⟨.inr hS2, ?_⟩)
      refine D.one 6 rfl (by decide +kernel) (fun hX => ?_)
      refine L.storeBox rfl rfl hb2 rfl rfl tyG27 ?_
      intro w15 hb2' hm15
      replace hz := hz.mod hm15 (by simp)
      replace hb1 := Blk.far hb1 hm15 (by first | exact hne_g1_g2 | exact (hne_g2_g1).symm)
      replace hbd := hbd.gr hm15
      replace hm0 := hm0.old1 hm15 hge_g2
      replace h30 := h30.mod hm15 (by simp)
      clear hm15
      replace hb2 := hb2'; clear hb2'
      refine L.nil (hX _ _ ⟨.inl rfl, ?_⟩)
      refine D.done (by decide +kernel) ?_ _
      refine X.seq ?_
      refine W.ret ?_
      refine X.result1 rfl (.cell rfl (loadVar_blk hb2 tyG27) .nil) ?_
      exact ⟨RN.floor hfl (hz.sub (by intro b hb; simp [hb])) (h30.sub (by intro b hb; simp [hb])), hm0⟩

end Go.Proofs.Ytjeodekhamdcmaa
