/- Walks: what the functions compute. -/
import Derived.Test.YtjeodekhamdcmaaSzA
namespace Go.Proofs.Ytjeodekhamdcmaa
open Go.RowKit
set_option linter.unusedVariables false
set_option linter.unusedSimpArgs false
set_option maxRecDepth 10000
theorem c_heavy_pantographlaw11 {N9 : List Nat} {w : World} {vl : Value} {cs : List CR} (hL : Lay rdC N9 w vl cs) (hb : szCs cs ≤ 4194304) :
    Ret Try.prog 21 #[vl] w (fun x w' => x = .bool (decide (150 < szCs cs)) ∧ Mod [] w w') := by
  obtain ⟨TL, tL, rfl⟩ := hL.form
  have hcl := cs_len cs
  refine Ret.of (vs := [.slice TL cs.length tL]) (n := 68) Try.func21 rfl rfl rfl rfl ?_
  have hm0 : Mod [] w w := Mod.refl _ _
  refine W.seq ?_
  refine W.region ?_
  refine L.v (R1.assign rfl) rfl ?_
  refine L.nil ?_
  refine X.seq ?_
  refine W.seq ?_
  refine W.region ?_
  refine L.v (R1.assign rfl) rfl ?_
  refine L.nil ?_
  refine X.seq ?_
  refine W.seq ?_
  refine W.seq ?_
  refine W.region ?_
  refine L.v (R1.assign rfl) rfl ?_
  refine L.nil ?_
  refine X.seq ?_
  refine W.block ?_
  refine W.loop (ι := Nat) (fun i => [(0, .slice TL cs.length tL), (3, .int .i64 (((szCs (cs.take i)) : Nat) : Int)), (4, .int .i64 ((i : Nat) : Int))]) (fun i w_ => i ≤ cs.length ∧ (szCs (cs.take i)) ≤ 150 ∧ Lay rdC N9 w_ (.slice TL cs.length tL) cs ∧ Mod [] w w_) (fun i => cs.length - i) 0 ?_ ?_ ?_
  · exact ⟨rfl, rfl, rfl, trivial⟩
  ·
    exact ⟨Nat.zero_le _, by simp [szCs], hL, hm0⟩
  ·
    rintro i w1 ⟨hi, hs, hL, hm0⟩
    refine W.seq ?_
    refine W.seq ?_
    refine W.region ?_
    refine L.v (R1.move rfl) rfl ?_
    refine L.v (R1.move rfl) rfl ?_
    refine L.v (R1.lenLay rfl hL tyS23) rfl ?_
    refine L.v (R1.lt rfl rfl) rfl ?_
    refine L.nil ?_
    refine X.seq ?_
    refine W.cond rfl ?_ ?_
    ·
      intro hc9
      try simp only [decide_eq_true_eq, decide_eq_false_iff_not, Bool.not_eq_true', Bool.not_eq_false', Int.not_lt, Int.not_le, ne_eq, Decidable.not_not] at hc9
      refine W.skip ?_
      refine X.seq ?_
      refine W.seq ?_
      refine W.block ?_
      refine W.seq ?_
      refine W.drawW (T := []) rfl (by decide +kernel) (NoHang.then (NoHang.block (NoHang.then (NoHang.next (NoHang.block (NoHang.then NoHang.post)))))) (fun w2 hm2 => ?_)
      replace hL := hL.gr hm2
      replace hm0 := hm0.trans hm2
      have hS1 : Mod [] w2 w2 := Mod.refl _ _
      clear hm2
      refine D.take 0 rfl (by decide +kernel) (fun w_ hS => (R1.move rfl)) hS1 rfl ?_
      refine D.take 1 rfl (by decide +kernel) (fun w_ hS => (R1.addI (b := 2) rfl rfl (by omega))) hS1 rfl ?_
      refine D.take 2 rfl (by decide +kernel) (fun w_ hS => (R1.move rfl)) hS1 rfl ?_
      refine D.take 3 rfl (by decide +kernel) (fun w_ hS => (R1.move rfl)) hS1 rfl ?_
      refine D.take 4 rfl (by decide +kernel) (fun w_ hS => (R1.atLay (j := i) rfl rfl (Lay.gr hL hS) tyS23 rfl (by omega))) hS1 rfl ?_
      refine D.take 5 rfl (by decide +kernel) (fun w_ hS => (R1.fieldAddr rfl tyF29_2)) hS1 rfl ?_
      refine D.take 6 rfl (by decide +kernel) (fun w_ hS => (R1.fieldAddrE rfl tyF27_1)) hS1 rfl ?_
      obtain ⟨z19, cs19, hz19, hE19, vt19, ds19, rfl, ht19, vn19, vd19, rfl, hn19, hd19⟩ := Lay.elemQ hL (j := i) (by omega)
      obtain ⟨T19, t19, rfl⟩ := ht19.form
      obtain ⟨A19, c19, rfl⟩ := hn19.form
      obtain ⟨B19, e19, rfl⟩ := hd19.form
      refine D.take 7 rfl (by decide +kernel) (fun w_ hS => (R1.loadEF rfl (SlE.gr hE19 hS) rfl tyP25)) hS1 rfl ?_
      refine D.take 8 rfl (by decide +kernel) (fun w_ hS => (R1.len rfl tyS25)) hS1 rfl ?_
      have q19 := sum_elem_le szC hz19; have q19b : szC z19 = 2 + (z19.k.n.length + z19.k.d.length) + szTs z19.ts := rfl; change szCs (cs.take i) + szC z19 ≤ szCs cs at q19
      refine D.take 9 rfl (by decide +kernel) (fun w_ hS => (R1.addI rfl rfl (by omega))) hS1 rfl ?_
      refine D.take 10 rfl (by decide +kernel) (fun w_ hS => (R1.move rfl)) hS1 rfl ?_
      refine D.take 11 rfl (by decide +kernel) (fun w_ hS => (R1.move rfl)) hS1 rfl ?_
      refine D.take 12 rfl (by decide +kernel) (fun w_ hS => (R1.atLay (j := i) rfl rfl (Lay.gr hL hS) tyS23 rfl (by omega))) hS1 rfl ?_
      refine D.take 13 rfl (by decide +kernel) (fun w_ hS => (R1.fieldAddr rfl tyF29_2)) hS1 rfl ?_
      refine D.take 14 rfl (by decide +kernel) (fun w_ hS => (R1.fieldAddrE rfl tyF27_2)) hS1 rfl ?_
      obtain ⟨z27, cs27, hz27, hE27, vt27, ds27, rfl, ht27, vn27, vd27, rfl, hn27, hd27⟩ := Lay.elemQ hL (j := i) (by omega)
      obtain ⟨T27, t27, rfl⟩ := ht27.form
      obtain ⟨A27, c27, rfl⟩ := hn27.form
      obtain ⟨B27, e27, rfl⟩ := hd27.form
      obtain rfl : z19 = z27 := by have h9 := hz27; rw [hz19] at h9; injection h9
      refine D.take 15 rfl (by decide +kernel) (fun w_ hS => (R1.loadEF rfl (SlE.gr hE27 hS) rfl tyP25)) hS1 rfl ?_
      refine D.take 16 rfl (by decide +kernel) (fun w_ hS => (R1.len rfl tyS25)) hS1 rfl ?_
      refine D.take 17 rfl (by decide +kernel) (fun w_ hS => (R1.addI rfl rfl (by omega))) hS1 rfl ?_
      refine D.take 18 rfl (by decide +kernel) (fun w_ hS => (R1.assign rfl)) hS1 rfl ?_
      refine D.done (by decide +kernel) ?_ _
      refine X.seq ?_
      refine W.seq ?_
      refine W.seq ?_
      refine W.region ?_
      refine L.v (R1.assign rfl) rfl ?_
      refine L.nil ?_
      refine X.seq ?_
      refine W.block ?_
      have q19l := ts_len z19.ts
      have q19c : szTs (z19.ts.take 0) = 0 := rfl
      refine W.loop (ι := Nat) (fun k => [(0, .slice TL cs.length tL), (3, .int .i64 ((((szCs (cs.take i)) + (2 + szQ z19.k) + szTs (z19.ts.take k)) : Nat) : Int)), (4, .int .i64 ((i : Nat) : Int)), (5, .int .i64 ((k : Nat) : Int))]) (fun k w_ => k ≤ z19.ts.length ∧ Lay rdC N9 w_ (.slice TL cs.length tL) cs ∧ Mod [] w w_) (fun k => z19.ts.length - k) 0 ?_ ?_ ?_
      · exact ⟨rfl, congrArg (fun n : Nat => some (Value.int .i64 (n : Int))) (by rw [q19c]; unfold szQ; omega), rfl, rfl, trivial⟩
      ·
        exact ⟨Nat.zero_le _, hL, hm0⟩
      ·
        rintro k w3 ⟨hk, hL, hm0⟩
        have q20 : szTs (z19.ts.take k) ≤ szTs z19.ts := sum_take_le szT _ _
        have q21 : szQ z19.k = z19.k.n.length + z19.k.d.length := rfl
        refine W.seq ?_
        refine W.seq ?_
        refine W.region ?_
        refine L.v (R1.move rfl) rfl ?_
        refine L.v (R1.move rfl) rfl ?_
        refine L.v (R1.move rfl) rfl ?_
        refine L.v (R1.atLay (j := i) rfl rfl hL tyS23 rfl (by omega)) rfl ?_
        refine L.v (R1.fieldAddr rfl tyF29_1) rfl ?_
        obtain ⟨z35, cs35, hz35, hE35, vt35, ds35, rfl, ht35, vn35, vd35, rfl, hn35, hd35⟩ := Lay.elemQ hL (j := i) (by omega)
        obtain ⟨T35, t35, rfl⟩ := ht35.form
        obtain ⟨A35, c35, rfl⟩ := hn35.form
        obtain ⟨B35, e35, rfl⟩ := hd35.form
        obtain rfl : z19 = z35 := by have h9 := hz35; rw [hz19] at h9; injection h9
        refine L.v (R1.loadEF rfl hE35 rfl tyP24) rfl ?_
        refine L.v (R1.lenLay rfl ht35 tyS24) rfl ?_
        refine L.v (R1.lt rfl rfl) rfl ?_
        refine L.nil ?_
        refine X.seq ?_
        refine W.cond rfl ?_ ?_
        ·
          intro hc37
          try simp only [decide_eq_true_eq, decide_eq_false_iff_not, Bool.not_eq_true', Bool.not_eq_false', Int.not_lt, Int.not_le, ne_eq, Decidable.not_not] at hc37
          refine W.skip ?_
          refine X.seq ?_
          refine W.seq ?_
          refine W.block ?_
          refine W.drawW (T := []) rfl (by decide +kernel) (NoHang.block (NoHang.then (NoHang.next (NoHang.block (NoHang.then (NoHang.block (NoHang.then (NoHang.next (NoHang.block (NoHang.then NoHang.post)))))))))) (fun w4 hm4 => ?_)
          replace hL := hL.gr hm4
          replace hm0 := hm0.trans hm4
          replace ht35 := ht35.gr hm4
          replace hn35 := hn35.gr hm4
          replace hd35 := hd35.gr hm4
          have hS2 : Mod [] w4 w4 := Mod.refl _ _
          clear hm4
          refine D.take 0 rfl (by decide +kernel) (fun w_ hS => (R1.move rfl)) hS2 rfl ?_
          refine D.take 1 rfl (by decide +kernel) (fun w_ hS => (R1.addI (b := 1) rfl rfl (by omega))) hS2 rfl ?_
          refine D.take 2 rfl (by decide +kernel) (fun w_ hS => (R1.move rfl)) hS2 rfl ?_
          refine D.take 3 rfl (by decide +kernel) (fun w_ hS => (R1.move rfl)) hS2 rfl ?_
          refine D.take 4 rfl (by decide +kernel) (fun w_ hS => (R1.atLay (j := i) rfl rfl (Lay.gr hL hS) tyS23 rfl (by omega))) hS2 rfl ?_
          refine D.take 5 rfl (by decide +kernel) (fun w_ hS => (R1.fieldAddr rfl tyF29_1)) hS2 rfl ?_
          obtain ⟨z46, cs46, hz46, hE46, vt46, ds46, rfl, ht46, vn46, vd46, rfl, hn46, hd46⟩ := Lay.elemQ hL (j := i) (by omega)
          obtain ⟨T46, t46, rfl⟩ := ht46.form
          obtain ⟨A46, c46, rfl⟩ := hn46.form
          obtain ⟨B46, e46, rfl⟩ := hd46.form
          obtain rfl : z19 = z46 := by have h9 := hz46; rw [hz19] at h9; injection h9
          refine D.take 6 rfl (by decide +kernel) (fun w_ hS => (R1.loadEF rfl (SlE.gr hE46 hS) rfl tyP24)) hS2 rfl ?_
          refine D.take 7 rfl (by decide +kernel) (fun w_ hS => (R1.move rfl)) hS2 rfl ?_
          refine D.take 8 rfl (by decide +kernel) (fun w_ hS => (R1.atLay (j := k) rfl rfl (Lay.gr ht46 hS) tyS24 rfl (by omega))) hS2 rfl ?_
          refine D.take 9 rfl (by decide +kernel) (fun w_ hS => (R1.fieldAddr rfl tyF56_1)) hS2 rfl ?_
          refine D.take 10 rfl (by decide +kernel) (fun w_ hS => (R1.fieldAddrE rfl tyF27_1)) hS2 rfl ?_
          obtain ⟨z51, cs51, hz51, hE51, ds51, rfl, vn51, vd51, rfl, hn51, hd51⟩ := Lay.elemQ ht46 (j := k) (by omega)
          obtain ⟨A51, c51, rfl⟩ := hn51.form
          obtain ⟨B51, e51, rfl⟩ := hd51.form
          refine D.take 11 rfl (by decide +kernel) (fun w_ hS => (R1.loadEF rfl (SlE.gr hE51 hS) rfl tyP25)) hS2 rfl ?_
          refine D.take 12 rfl (by decide +kernel) (fun w_ hS => (R1.len rfl tyS25)) hS2 rfl ?_
          have q51 := sum_elem_le szT hz51; have q51b : szT z51 = 1 + (z51.c.n.length + z51.c.d.length) := rfl; change szTs (z19.ts.take k) + szT z51 ≤ szTs z19.ts at q51
          refine D.take 13 rfl (by decide +kernel) (fun w_ hS => (R1.addI rfl rfl (by omega))) hS2 rfl ?_
          refine D.take 14 rfl (by decide +kernel) (fun w_ hS => (R1.move rfl)) hS2 rfl ?_
          refine D.take 15 rfl (by decide +kernel) (fun w_ hS => (R1.move rfl)) hS2 rfl ?_
          refine D.take 16 rfl (by decide +kernel) (fun w_ hS => (R1.atLay (j := i) rfl rfl (Lay.gr hL hS) tyS23 rfl (by omega))) hS2 rfl ?_
          refine D.take 17 rfl (by decide +kernel) (fun w_ hS => (R1.fieldAddr rfl tyF29_1)) hS2 rfl ?_
          obtain ⟨z58, cs58, hz58, hE58, vt58, ds58, rfl, ht58, vn58, vd58, rfl, hn58, hd58⟩ := Lay.elemQ hL (j := i) (by omega)
          obtain ⟨T58, t58, rfl⟩ := ht58.form
          obtain ⟨A58, c58, rfl⟩ := hn58.form
          obtain ⟨B58, e58, rfl⟩ := hd58.form
          obtain rfl : z19 = z58 := by have h9 := hz58; rw [hz19] at h9; injection h9
          refine D.take 18 rfl (by decide +kernel) (fun w_ hS => (R1.loadEF rfl (SlE.gr hE58 hS) rfl tyP24)) hS2 rfl ?_
          refine D.take 19 rfl (by decide +kernel) (fun w_ hS => (R1.move rfl)) hS2 rfl ?_
          refine D.take 20 rfl (by decide +kernel) (fun w_ hS => (R1.atLay (j := k) rfl rfl (Lay.gr ht58 hS) tyS24 rfl (by omega))) hS2 rfl ?_
          refine D.take 21 rfl (by decide +kernel) (fun w_ hS => (R1.fieldAddr rfl tyF56_1)) hS2 rfl ?_
          refine D.take 22 rfl (by decide +kernel) (fun w_ hS => (R1.fieldAddrE rfl tyF27_2)) hS2 rfl ?_
          obtain ⟨z63, cs63, hz63, hE63, ds63, rfl, vn63, vd63, rfl, hn63, hd63⟩ := Lay.elemQ ht58 (j := k) (by omega)
          obtain ⟨A63, c63, rfl⟩ := hn63.form
          obtain ⟨B63, e63, rfl⟩ := hd63.form
          obtain rfl : z51 = z63 := by have h9 := hz63; rw [hz51] at h9; injection h9
          refine D.take 23 rfl (by decide +kernel) (fun w_ hS => (R1.loadEF rfl (SlE.gr hE63 hS) rfl tyP25)) hS2 rfl ?_
          refine D.take 24 rfl (by decide +kernel) (fun w_ hS => (R1.len rfl tyS25)) hS2 rfl ?_
          refine D.take 25 rfl (by decide +kernel) (fun w_ hS => (R1.addI rfl rfl (by omega))) hS2 rfl ?_
          refine D.take 26 rfl (by decide +kernel) (fun w_ hS => (R1.assign rfl)) hS2 rfl ?_
          refine D.done (by decide +kernel) ?_ _
          refine X.blockEnd ?_
          refine X.seq ?_
          refine W.region ?_
          refine L.v (R1.move rfl) rfl ?_
          refine L.v (R1.addI (b := 1) rfl rfl (by omega)) rfl ?_
          refine L.v (R1.assign rfl) rfl ?_
          refine L.nil ?_
          refine X.next (k + 1) ?_ ?_ ?_
          · refine ⟨rfl, ?_, rfl, rfl, trivial⟩; simp only [lk, Nat.beq, cond_true, cond_false]; exact congrArg (fun n : Nat => some (Value.int .i64 (n : Int))) (by have := sum_take_succ szT hz51; unfold szTs at *; rw [this]; omega)
          ·
            exact ⟨by omega, hL, hm0⟩
          · first | omega | (dsimp only; omega)
        ·
          intro hc37
          try simp only [decide_eq_true_eq, decide_eq_false_iff_not, Bool.not_eq_true', Bool.not_eq_false', Int.not_lt, Int.not_le, ne_eq, Decidable.not_not] at hc37
          obtain rfl : k = z19.ts.length := by omega
          refine W.exit ?_
          refine X.thenExit ?_
          refine X.nextExit ?_
          refine X.here ?_
          refine X.seq ?_
          refine W.seq ?_
          refine W.region ?_
          refine L.v (R1.move rfl) rfl ?_
          refine L.v (R1.gt rfl rfl) rfl ?_
          refine L.nil ?_
          refine X.seq ?_
          refine W.cond rfl ?_ ?_
          ·
            intro hc67
            try simp only [decide_eq_true_eq, decide_eq_false_iff_not, Bool.not_eq_true', Bool.not_eq_false', Int.not_lt, Int.not_le, ne_eq, Decidable.not_not] at hc67
            refine W.seq ?_
            refine W.region ?_
            refine L.v (R1.assign rfl) rfl ?_
            refine L.nil ?_
            refine X.seq ?_
            refine W.ret ?_
            refine X.blockRet ?_
            refine X.thenRet ?_
            refine X.nextRet ?_
            refine X.blockRet ?_
            refine X.thenRet ?_
            refine X.result1 rfl (.tmp rfl .nil) ?_
            refine ⟨?_, hm0⟩
            rw [decide_eq_true]
            have := sum_elem_le szC hz19
            rw [List.take_length] at hc67
            unfold szCs at *
            omega
          ·
            intro hc67
            try simp only [decide_eq_true_eq, decide_eq_false_iff_not, Bool.not_eq_true', Bool.not_eq_false', Int.not_lt, Int.not_le, ne_eq, Decidable.not_not] at hc67
            refine W.skip ?_
            refine X.blockEnd ?_
            refine X.seq ?_
            refine W.region ?_
            refine L.v (R1.move rfl) rfl ?_
            refine L.v (R1.addI (b := 1) rfl rfl (by omega)) rfl ?_
            refine L.v (R1.assign rfl) rfl ?_
            refine L.nil ?_
            have hsum : szCs (cs.take (i + 1)) = szCs (cs.take i) + (2 + szQ z19.k) + szTs (z19.ts.take z19.ts.length) := by
              rw [List.take_length]; have := sum_take_succ szC hz19; unfold szCs; rw [this]; unfold szC; omega
            refine X.next (i + 1) ?_ ?_ ?_
            · refine ⟨rfl, ?_, rfl, trivial⟩; simp only [lk, Nat.beq, cond_true, cond_false]; rw [hsum]
            ·
              refine ⟨by omega, by rw [hsum]; omega, hL, hm0⟩
            · first | omega | (dsimp only; omega)
    ·
      intro hc9
      try simp only [decide_eq_true_eq, decide_eq_false_iff_not, Bool.not_eq_true', Bool.not_eq_false', Int.not_lt, Int.not_le, ne_eq, Decidable.not_not] at hc9
      obtain rfl : i = cs.length := by omega
      refine W.exit ?_
      refine X.thenExit ?_
      refine X.nextExit ?_
      refine X.here ?_
      refine X.seq ?_
      refine W.seq ?_
      refine W.region ?_
      refine L.v (R1.assign rfl) rfl ?_
      refine L.nil ?_
      refine X.seq ?_
      refine W.ret ?_
      refine X.result1 rfl (.tmp rfl .nil) ?_
      refine ⟨?_, hm0⟩
      rw [List.take_length] at hs
      rw [decide_eq_false (by omega)]

theorem c_numbers_pantographlaw11 {M N9 : List Nat} {w : World} {va vb : Value} {xs ys : List Int} (h : Lay rdI M w va xs) (k0 : Lay rdI N9 w vb ys) :
    Ret Try.prog 23 #[va, vb] w (fun r w' => r = .bool (decide (xs = ys)) ∧ Mod [] w w') := by
  have hmax := h.max; unfold maxLen at hmax
  refine Ret.of (vs := [va, vb]) (n := 26) Try.func23 rfl rfl rfl rfl ?_
  have hm0 : Mod [] w w := Mod.refl _ _
  refine W.seq ?_
  refine W.region ?_
  refine L.v (R1.assign rfl) rfl ?_
  refine L.nil ?_
  refine X.seq ?_
  refine W.seq ?_
  refine W.seq ?_
  refine W.region ?_
  refine L.v (R1.move rfl) rfl ?_
  refine L.v (R1.lenLay rfl h tyS37) rfl ?_
  refine L.v (R1.move rfl) rfl ?_
  refine L.v (R1.lenLay rfl k0 tyS37) rfl ?_
  refine L.v (R1.ne rfl rfl) rfl ?_
  refine L.nil ?_
  refine X.seq ?_
  refine W.cond rfl ?_ ?_
  ·
    intro hc10
    try simp only [decide_eq_true_eq, decide_eq_false_iff_not, Bool.not_eq_true', Bool.not_eq_false', Int.not_lt, Int.not_le, ne_eq, Decidable.not_not] at hc10
    refine W.seq ?_
    refine W.region ?_
    refine L.v (R1.assign rfl) rfl ?_
    refine L.nil ?_
    refine X.seq ?_
    refine W.ret ?_
    refine X.thenRet ?_
    refine X.result1 rfl (.tmp rfl .nil) ?_
    refine ⟨?_, hm0⟩
    rw [decide_eq_false (fun e => by subst e; omega)]
  ·
    intro hc10
    try simp only [decide_eq_true_eq, decide_eq_false_iff_not, Bool.not_eq_true', Bool.not_eq_false', Int.not_lt, Int.not_le, ne_eq, Decidable.not_not] at hc10
    have hlen : xs.length = ys.length := by omega
    refine W.skip ?_
    refine X.seq ?_
    refine W.seq ?_
    refine W.seq ?_
    refine W.region ?_
    refine L.v (R1.assign rfl) rfl ?_
    refine L.nil ?_
    refine X.seq ?_
    refine W.block ?_
    refine W.loop (ι := Nat) (fun k => [(0, va), (1, vb), (5, .int .i64 (k : Int))]) (fun k w_ => k ≤ xs.length ∧ xs.take k = ys.take k ∧ Lay rdI M w_ va xs ∧ Lay rdI N9 w_ vb ys ∧ Mod [] w w_) (fun k => xs.length - k) 0 ?_ ?_ ?_
    · exact ⟨rfl, rfl, rfl, trivial⟩
    ·
      exact ⟨Nat.zero_le _, rfl, h, k0, hm0⟩
    ·
      rintro k w1 ⟨hk, he, h, k0, hm0⟩
      refine W.seq ?_
      refine W.seq ?_
      refine W.region ?_
      refine L.v (R1.move rfl) rfl ?_
      refine L.v (R1.move rfl) rfl ?_
      refine L.v (R1.lenLay rfl h tyS37) rfl ?_
      refine L.v (R1.lt rfl rfl) rfl ?_
      refine L.nil ?_
      refine X.seq ?_
      refine W.cond rfl ?_ ?_
      ·
        intro hc14
        try simp only [decide_eq_true_eq, decide_eq_false_iff_not, Bool.not_eq_true', Bool.not_eq_false', Int.not_lt, Int.not_le, ne_eq, Decidable.not_not] at hc14
        have hk1 : k < xs.length := by omega
        refine W.skip ?_
        refine X.seq ?_
        refine W.seq ?_
        refine W.block ?_
        refine W.seq ?_
        refine W.drawW (T := []) rfl (by decide +kernel) (NoHang.then (NoHang.block (NoHang.then (NoHang.next (NoHang.block (NoHang.then NoHang.post)))))) (fun w2 hm2 => ?_)
        replace h := h.gr hm2
        replace k0 := k0.gr hm2
        replace hm0 := hm0.trans hm2
        have hS1 : Mod [] w2 w2 := Mod.refl _ _
        clear hm2
        refine D.take 0 rfl (by decide +kernel) (fun w_ hS => (R1.move rfl)) hS1 rfl ?_
        refine D.take 1 rfl (by decide +kernel) (fun w_ hS => (R1.move rfl)) hS1 rfl ?_
        refine D.take 2 rfl (by decide +kernel) (fun w_ hS => (R1.atLay (j := k) rfl rfl (Lay.gr h hS) tyS37 rfl (by omega))) hS1 rfl ?_
        refine D.take 3 rfl (by decide +kernel) (fun w_ hS => (R1.loadLI rfl (Lay.gr h hS) tyP3 (by omega) rfl)) hS1 rfl ?_
        refine D.take 4 rfl (by decide +kernel) (fun w_ hS => (R1.move rfl)) hS1 rfl ?_
        refine D.take 5 rfl (by decide +kernel) (fun w_ hS => (R1.move rfl)) hS1 rfl ?_
        refine D.take 6 rfl (by decide +kernel) (fun w_ hS => (R1.atLay (j := k) rfl rfl (Lay.gr k0 hS) tyS37 rfl (by omega))) hS1 rfl ?_
        refine D.take 7 rfl (by decide +kernel) (fun w_ hS => (R1.loadLI rfl (Lay.gr k0 hS) tyP3 (by omega) rfl)) hS1 rfl ?_
        refine D.take 8 rfl (by decide +kernel) (fun w_ hS => (R1.ne rfl rfl)) hS1 rfl ?_
        refine D.done (by decide +kernel) ?_ _
        refine X.seq ?_
        refine W.cond rfl ?_ ?_
        ·
          intro hc25
          try simp only [decide_eq_true_eq, decide_eq_false_iff_not, Bool.not_eq_true', Bool.not_eq_false', Int.not_lt, Int.not_le, ne_eq, Decidable.not_not] at hc25
          refine W.seq ?_
          refine W.region ?_
          refine L.v (R1.assign rfl) rfl ?_
          refine L.nil ?_
          refine X.seq ?_
          refine W.ret ?_
          refine X.blockRet ?_
          refine X.thenRet ?_
          refine X.nextRet ?_
          refine X.blockRet ?_
          refine X.thenRet ?_
          refine X.result1 rfl (.tmp rfl .nil) ?_
          refine ⟨?_, hm0⟩
          rw [decide_eq_false (fun e => by subst e; omega)]
        ·
          intro hc25
          try simp only [decide_eq_true_eq, decide_eq_false_iff_not, Bool.not_eq_true', Bool.not_eq_false', Int.not_lt, Int.not_le, ne_eq, Decidable.not_not] at hc25
          refine W.skip ?_
          refine X.blockEnd ?_
          refine X.seq ?_
          refine W.region ?_
          refine L.v (R1.move rfl) rfl ?_
          refine L.v (R1.addI (b := 1) rfl rfl (by omega)) rfl ?_
          refine L.v (R1.assign rfl) rfl ?_
          refine L.nil ?_
          refine X.next (k + 1) ?_ ?_ ?_
          · exact ⟨rfl, rfl, rfl, trivial⟩
          ·
            exact ⟨by omega, eq_stepI hk1 (by omega) he (by omega), h, k0, hm0⟩
          · first | omega | (dsimp only; omega)
      ·
        intro hc14
        try simp only [decide_eq_true_eq, decide_eq_false_iff_not, Bool.not_eq_true', Bool.not_eq_false', Int.not_lt, Int.not_le, ne_eq, Decidable.not_not] at hc14
        have hk1 : k = xs.length := by omega
        refine W.exit ?_
        refine X.thenExit ?_
        refine X.nextExit ?_
        refine X.here ?_
        refine X.seq ?_
        refine W.seq ?_
        refine W.region ?_
        refine L.v (R1.assign rfl) rfl ?_
        refine L.nil ?_
        refine X.seq ?_
        refine W.ret ?_
        refine X.result1 rfl (.tmp rfl .nil) ?_
        refine ⟨?_, hm0⟩
        rw [hk1, List.take_length, hlen, List.take_length] at he
        rw [decide_eq_true he]


theorem c_numbersEq_pantographlaw11 {M N9 : List Nat} {w : World} {va vb : Value} {xs ys : List Int} (h : Lay rdI M w va xs) (k0 : Lay rdI N9 w vb ys) (e : xs = ys) : Ret Try.prog 23 #[va, vb] w (fun r w' => r = .bool true ∧ Mod [] w w') :=
  (c_numbers_pantographlaw11 h k0).mono fun r w' ⟨h1, h2⟩ => ⟨by rw [h1, decide_eq_true e], h2⟩

end Go.Proofs.Ytjeodekhamdcmaa
