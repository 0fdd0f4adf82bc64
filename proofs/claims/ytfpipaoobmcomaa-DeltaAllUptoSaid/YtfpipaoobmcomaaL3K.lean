/- Walks: what the functions compute. -/
import Derived.Test.YtfpipaoobmcomaaDeG
import Derived.Test.YtfpipaoobmcomaaGrD
import Derived.Test.YtfpipaoobmcomaaSzA
namespace Go.Proofs.Ytfpipaoobmcomaa
open Go.RowKit
set_option linter.unusedVariables false
set_option linter.unusedSimpArgs false
set_option maxRecDepth 10000

theorem sm150 {cs : List CR} (h : ¬ 150 < szCs cs) : ∀ c ∈ cs, SmC 1099511627776 c := fun c hc => (sm_of_all (L := 150) (by omega) c hc).mono (by decide)
theorem setZ_no {z : Int} {cs : List CR} {os : List Int} (h : ChB z cs os = false) : setZ z cs os = os := by unfold setZ; rw [h]; rfl
theorem walZ_no {z : Int} {cs : List CR} {os : List Int} (h : ChB z cs os = false) : walZ z cs os = [] := by unfold walZ; rw [h]; rfl
theorem blkZ_no {z : Int} {cs : List CR} {os : List Int} {i : Int} (h : ChB z cs os = false) : blkZ z cs os i = false := decide_eq_false (by rw [h]; rintro ⟨h1, _⟩; cases h1)
theorem nat_of {z : Int} {cs : List CR} {os : List Int} (h : ChB z cs os = true) : ∃ n : Nat, z = (n : Int) ∧ 1 ≤ n ∧ n ≤ 64 := by
  obtain ⟨h1, h2, _⟩ := ChB_true h
  exact ⟨z.toNat, by omega, by omega, by omega⟩
theorem setZ_yes {n : Nat} {cs : List CR} {os : List Int} (h : ChB (n : Int) cs os = true) : setZ (n : Int) cs os = setlZ n cs os := by unfold setZ; rw [if_pos h, Int.toNat_natCast]
theorem chb_set {z : Int} {cs : List CR} {os : List Int} (h : ChB z cs os = true) : ChB z cs (setZ z cs os) = true := by
  obtain ⟨n, rfl, _⟩ := nat_of h
  rw [setZ_yes h]
  exact ChoZ.back h (setlZ_cho (ChoZ.of h)).c
theorem setZ_again {z : Int} {cs : List CR} {os : List Int} (h : ChB z cs os = true) : setZ z cs (setZ z cs os) = setZ z cs os := by
  have h2 := chb_set h
  obtain ⟨n, rfl, _⟩ := nat_of h
  rw [setZ_yes h2, setZ_yes h]
  exact setl_again (ChoZ.of h).st (ChoZ.of h).c
theorem setZ_len {z : Int} {cs : List CR} {os : List Int} (h : ChB z cs os = true) : (setZ z cs os).length = cs.length := by
  obtain ⟨n, rfl, _⟩ := nat_of h
  rw [setZ_yes h]; exact (setlZ_cho (ChoZ.of h)).len
theorem blk_set {z : Int} {cs : List CR} {os : List Int} {i : Nat} (h : ChB z cs os = true) (hi : i < cs.length) (h0 : (setZ z cs os).getD i 0 < 0) : blkZ z cs (setZ z cs os) (i : Int) = true := by
  have h2 := chb_set h
  obtain ⟨n, rfl, _⟩ := nat_of h
  have hC := setlZ_cho (ChoZ.of h)
  rw [setZ_yes h] at h0 h2 ⊢
  have h3 : (setlZ n cs os).getD i 0 = -1 := by have := hC.low hi; omega
  refine decide_eq_true ⟨h2, by omega, by omega, by simpa using h3, ?_⟩
  rw [Int.toNat_natCast, Int.toNat_natCast]
  exact setl_idle (ChoZ.of h).st (ChoZ.of h).c (by rw [ws_len]; exact hi) ((hC.idle hi).1 h3)

theorem c_heavy_pantographlaw13 {N9 : List Nat} {w : World} {vl : Value} {cs : List CR} (hL : Lay rdC N9 w vl cs) (hb : szCs cs ≤ 4194304) :
    Ret Try.prog 11 #[vl] w (fun x w' => x = .bool (decide (150 < szCs cs)) ∧ Mod [] w w') := by
 obtain ⟨TL, tL, rfl⟩ := hL.form
 have hcl := cs_len cs
 refine Ret.of (vs := [.slice TL cs.length tL]) (n := 68) Try.func11 rfl rfl rfl rfl ?_
 have hm0 : Mod [] w w := Mod.refl _ _
 refine W.seq <| W.region <| L.v (R1.assign rfl) rfl <| L.nil <| X.seq <| W.seq <| W.region <| L.v (R1.assign rfl) rfl <| L.nil <| X.seq <| W.seq ?_
 refine W.seq <| W.region <| L.v (R1.assign rfl) rfl <| L.nil <| X.seq <| W.block <| W.loop (ι := Nat) (fun i => [(0, .slice TL cs.length tL), (3, .int .i64 (((szCs (cs.take i)) : Nat) : Int)), (4, .int .i64 ((i : Nat) : Int))]) (fun i w_ => i ≤ cs.length ∧ (szCs (cs.take i)) ≤ 150 ∧ Lay rdC N9 w_ (.slice TL cs.length tL) cs ∧ Mod [] w w_) (fun i => cs.length - i) 0 ?_ ?_ ?_
 · exact ⟨rfl, rfl, rfl, trivial⟩
 ·
  exact ⟨Nat.zero_le _, by simp [szCs], hL, hm0⟩
 ·
  rintro i w1 ⟨hi, hs, hL, hm0⟩
  refine W.seq <| W.seq <| W.region <| L.v (R1.move rfl) rfl <| L.v (R1.move rfl) rfl <| L.v (R1.lenLay rfl hL tyS22) rfl <| L.v (R1.lt rfl rfl) rfl <| L.nil <| X.seq <| W.cond rfl ?_ ?_
  ·
   intro hc9
   try simp only [bq, ne_eq] at hc9
   refine W.skip <| X.seq <| W.seq <| W.block <| W.seq <| W.drawW (T := []) rfl (by decide +kernel) (NoHang.then (NoHang.block (NoHang.then (NoHang.next (NoHang.block (NoHang.then NoHang.post)))))) (fun w2 hm2 => ?_)
   replace hL := hL.gr hm2
   replace hm0 := hm0.trans hm2
   have hS1 : Mod [] w2 w2 := Mod.refl _ _
   clear hm2
   refine D.take 0 rfl (by decide +kernel) (fun w_ hS => (R1.move rfl)) hS1 rfl <| D.take 1 rfl (by decide +kernel) (fun w_ hS => (R1.addI (b := 2) rfl rfl (by omega))) hS1 rfl <| D.take 2 rfl (by decide +kernel) (fun w_ hS => (R1.move rfl)) hS1 rfl <| D.take 3 rfl (by decide +kernel) (fun w_ hS => (R1.move rfl)) hS1 rfl <| D.take 4 rfl (by decide +kernel) (fun w_ hS => (R1.atLay (j := i) rfl rfl (Lay.gr hL hS) tyS22 rfl (by omega))) hS1 rfl <| D.take 5 rfl (by decide +kernel) (fun w_ hS => (R1.fieldAddr rfl tyF41_2)) hS1 rfl <| D.take 6 rfl (by decide +kernel) (fun w_ hS => (R1.fieldAddrE rfl tyF35_1)) hS1 rfl ?_
   obtain ⟨z19, cs19, hz19, hE19, vt19, ds19, rfl, ht19, vn19, vd19, rfl, hn19, hd19⟩ := Lay.elemQ hL (j := i) (by omega)
   obtain ⟨T19, t19, rfl⟩ := ht19.form
   obtain ⟨A19, c19, rfl⟩ := hn19.form
   obtain ⟨B19, e19, rfl⟩ := hd19.form
   refine D.take 7 rfl (by decide +kernel) (fun w_ hS => (R1.loadEF rfl (SlE.gr hE19 hS) rfl tyP33)) hS1 rfl <| D.take 8 rfl (by decide +kernel) (fun w_ hS => (R1.len rfl tyS33)) hS1 rfl ?_
   have q19 := sum_elem_le szC hz19; have q19b : szC z19 = 2 + (z19.k.n.length + z19.k.d.length) + szTs z19.ts := rfl; change szCs (cs.take i) + szC z19 ≤ szCs cs at q19
   refine D.take 9 rfl (by decide +kernel) (fun w_ hS => (R1.addI rfl rfl (by omega))) hS1 rfl <| D.take 10 rfl (by decide +kernel) (fun w_ hS => (R1.move rfl)) hS1 rfl <| D.take 11 rfl (by decide +kernel) (fun w_ hS => (R1.move rfl)) hS1 rfl <| D.take 12 rfl (by decide +kernel) (fun w_ hS => (R1.atLay (j := i) rfl rfl (Lay.gr hL hS) tyS22 rfl (by omega))) hS1 rfl <| D.take 13 rfl (by decide +kernel) (fun w_ hS => (R1.fieldAddr rfl tyF41_2)) hS1 rfl <| D.take 14 rfl (by decide +kernel) (fun w_ hS => (R1.fieldAddrE rfl tyF35_2)) hS1 rfl ?_
   obtain ⟨z27, cs27, hz27, hE27, vt27, ds27, rfl, ht27, vn27, vd27, rfl, hn27, hd27⟩ := Lay.elemQ hL (j := i) (by omega)
   obtain ⟨T27, t27, rfl⟩ := ht27.form
   obtain ⟨A27, c27, rfl⟩ := hn27.form
   obtain ⟨B27, e27, rfl⟩ := hd27.form
   obtain rfl : z19 = z27 := by have h9 := hz27; rw [hz19] at h9; injection h9
   refine D.take 15 rfl (by decide +kernel) (fun w_ hS => (R1.loadEF rfl (SlE.gr hE27 hS) rfl tyP33)) hS1 rfl <| D.take 16 rfl (by decide +kernel) (fun w_ hS => (R1.len rfl tyS33)) hS1 rfl <| D.take 17 rfl (by decide +kernel) (fun w_ hS => (R1.addI rfl rfl (by omega))) hS1 rfl <| D.take 18 rfl (by decide +kernel) (fun w_ hS => (R1.assign rfl)) hS1 rfl <| D.done (by decide +kernel) ?_ _
   refine X.seq <| W.seq <| W.seq <| W.region <| L.v (R1.assign rfl) rfl <| L.nil <| X.seq <| W.block ?_
   have q19l := ts_len z19.ts
   have q19c : szTs (z19.ts.take 0) = 0 := rfl
   refine W.loop (ι := Nat) (fun k => [(0, .slice TL cs.length tL), (3, .int .i64 ((((szCs (cs.take i)) + (2 + szQ z19.k) + szTs (z19.ts.take k)) : Nat) : Int)), (4, .int .i64 ((i : Nat) : Int)), (5, .int .i64 ((k : Nat) : Int))]) (fun k w_ => k ≤ z19.ts.length ∧ Lay rdC N9 w_ (.slice TL cs.length tL) cs ∧ Mod [] w w_) (fun k => z19.ts.length - k) 0 ?_ ?_ ?_
   · exact ⟨rfl, congrArg (fun n : Nat => some (Value.int .i64 (n : Int))) (by rw [q19c]; unfold szQ; omega), rfl, rfl, trivial⟩
   ·
    exact ⟨Nat.zero_le _, hL, hm0⟩
   ·
    rintro k w3 ⟨hk, hL, hm0⟩
    have q20 : szTs (z19.ts.take k) ≤ szTs z19.ts := sum_take_le szT _ _
    have q21 : szQ z19.k = z19.k.n.length + z19.k.d.length := rfl
    refine W.seq <| W.seq <| W.region <| L.v (R1.move rfl) rfl <| L.v (R1.move rfl) rfl <| L.v (R1.move rfl) rfl <| L.v (R1.atLay (j := i) rfl rfl hL tyS22 rfl (by omega)) rfl <| L.v (R1.fieldAddr rfl tyF41_1) rfl ?_
    obtain ⟨z35, cs35, hz35, hE35, vt35, ds35, rfl, ht35, vn35, vd35, rfl, hn35, hd35⟩ := Lay.elemQ hL (j := i) (by omega)
    obtain ⟨T35, t35, rfl⟩ := ht35.form
    obtain ⟨A35, c35, rfl⟩ := hn35.form
    obtain ⟨B35, e35, rfl⟩ := hd35.form
    obtain rfl : z19 = z35 := by have h9 := hz35; rw [hz19] at h9; injection h9
    refine L.v (R1.loadEF rfl hE35 rfl tyP39) rfl <| L.v (R1.lenLay rfl ht35 tyS39) rfl <| L.v (R1.lt rfl rfl) rfl <| L.nil <| X.seq <| W.cond rfl ?_ ?_
    ·
     intro hc37
     try simp only [bq, ne_eq] at hc37
     refine W.skip <| X.seq <| W.seq <| W.block <| W.drawW (T := []) rfl (by decide +kernel) (NoHang.block (NoHang.then (NoHang.next (NoHang.block (NoHang.then (NoHang.block (NoHang.then (NoHang.next (NoHang.block (NoHang.then NoHang.post)))))))))) (fun w4 hm4 => ?_)
     replace hL := hL.gr hm4
     replace hm0 := hm0.trans hm4
     have hS2 : Mod [] w4 w4 := Mod.refl _ _
     clear hm4
     refine D.take 0 rfl (by decide +kernel) (fun w_ hS => (R1.move rfl)) hS2 rfl <| D.take 1 rfl (by decide +kernel) (fun w_ hS => (R1.addI (b := 1) rfl rfl (by omega))) hS2 rfl <| D.take 2 rfl (by decide +kernel) (fun w_ hS => (R1.move rfl)) hS2 rfl <| D.take 3 rfl (by decide +kernel) (fun w_ hS => (R1.move rfl)) hS2 rfl <| D.take 4 rfl (by decide +kernel) (fun w_ hS => (R1.atLay (j := i) rfl rfl (Lay.gr hL hS) tyS22 rfl (by omega))) hS2 rfl <| D.take 5 rfl (by decide +kernel) (fun w_ hS => (R1.fieldAddr rfl tyF41_1)) hS2 rfl ?_
     obtain ⟨z46, cs46, hz46, hE46, vt46, ds46, rfl, ht46, vn46, vd46, rfl, hn46, hd46⟩ := Lay.elemQ hL (j := i) (by omega)
     obtain ⟨T46, t46, rfl⟩ := ht46.form
     obtain ⟨A46, c46, rfl⟩ := hn46.form
     obtain ⟨B46, e46, rfl⟩ := hd46.form
     obtain rfl : z19 = z46 := by have h9 := hz46; rw [hz19] at h9; injection h9
     refine D.take 6 rfl (by decide +kernel) (fun w_ hS => (R1.loadEF rfl (SlE.gr hE46 hS) rfl tyP39)) hS2 rfl <| D.take 7 rfl (by decide +kernel) (fun w_ hS => (R1.move rfl)) hS2 rfl <| D.take 8 rfl (by decide +kernel) (fun w_ hS => (R1.atLay (j := k) rfl rfl (Lay.gr ht46 hS) tyS39 rfl (by omega))) hS2 rfl <| D.take 9 rfl (by decide +kernel) (fun w_ hS => (R1.fieldAddr rfl tyF38_1)) hS2 rfl <| D.take 10 rfl (by decide +kernel) (fun w_ hS => (R1.fieldAddrE rfl tyF35_1)) hS2 rfl ?_
     obtain ⟨z51, cs51, hz51, hE51, ds51, rfl, vn51, vd51, rfl, hn51, hd51⟩ := Lay.elemQ ht46 (j := k) (by omega)
     obtain ⟨A51, c51, rfl⟩ := hn51.form
     obtain ⟨B51, e51, rfl⟩ := hd51.form
     refine D.take 11 rfl (by decide +kernel) (fun w_ hS => (R1.loadEF rfl (SlE.gr hE51 hS) rfl tyP33)) hS2 rfl <| D.take 12 rfl (by decide +kernel) (fun w_ hS => (R1.len rfl tyS33)) hS2 rfl ?_
     have q51 := sum_elem_le szT hz51; have q51b : szT z51 = 1 + (z51.c.n.length + z51.c.d.length) := rfl; change szTs (z19.ts.take k) + szT z51 ≤ szTs z19.ts at q51
     refine D.take 13 rfl (by decide +kernel) (fun w_ hS => (R1.addI rfl rfl (by omega))) hS2 rfl <| D.take 14 rfl (by decide +kernel) (fun w_ hS => (R1.move rfl)) hS2 rfl <| D.take 15 rfl (by decide +kernel) (fun w_ hS => (R1.move rfl)) hS2 rfl <| D.take 16 rfl (by decide +kernel) (fun w_ hS => (R1.atLay (j := i) rfl rfl (Lay.gr hL hS) tyS22 rfl (by omega))) hS2 rfl <| D.take 17 rfl (by decide +kernel) (fun w_ hS => (R1.fieldAddr rfl tyF41_1)) hS2 rfl ?_
     obtain ⟨z58, cs58, hz58, hE58, vt58, ds58, rfl, ht58, vn58, vd58, rfl, hn58, hd58⟩ := Lay.elemQ hL (j := i) (by omega)
     obtain ⟨T58, t58, rfl⟩ := ht58.form
     obtain ⟨A58, c58, rfl⟩ := hn58.form
     obtain ⟨B58, e58, rfl⟩ := hd58.form
     obtain rfl : z19 = z58 := by have h9 := hz58; rw [hz19] at h9; injection h9
     refine D.take 18 rfl (by decide +kernel) (fun w_ hS => (R1.loadEF rfl (SlE.gr hE58 hS) rfl tyP39)) hS2 rfl <| D.take 19 rfl (by decide +kernel) (fun w_ hS => (R1.move rfl)) hS2 rfl <| D.take 20 rfl (by decide +kernel) (fun w_ hS => (R1.atLay (j := k) rfl rfl (Lay.gr ht58 hS) tyS39 rfl (by omega))) hS2 rfl <| D.take 21 rfl (by decide +kernel) (fun w_ hS => (R1.fieldAddr rfl tyF38_1)) hS2 rfl <| D.take 22 rfl (by decide +kernel) (fun w_ hS => (R1.fieldAddrE rfl tyF35_2)) hS2 rfl ?_
     obtain ⟨z63, cs63, hz63, hE63, ds63, rfl, vn63, vd63, rfl, hn63, hd63⟩ := Lay.elemQ ht58 (j := k) (by omega)
     obtain ⟨A63, c63, rfl⟩ := hn63.form
     obtain ⟨B63, e63, rfl⟩ := hd63.form
     obtain rfl : z51 = z63 := by have h9 := hz63; rw [hz51] at h9; injection h9
     refine D.take 23 rfl (by decide +kernel) (fun w_ hS => (R1.loadEF rfl (SlE.gr hE63 hS) rfl tyP33)) hS2 rfl <| D.take 24 rfl (by decide +kernel) (fun w_ hS => (R1.len rfl tyS33)) hS2 rfl <| D.take 25 rfl (by decide +kernel) (fun w_ hS => (R1.addI rfl rfl (by omega))) hS2 rfl <| D.take 26 rfl (by decide +kernel) (fun w_ hS => (R1.assign rfl)) hS2 rfl <| D.done (by decide +kernel) ?_ _
     refine X.blockEnd <| X.seq <| W.region <| L.v (R1.move rfl) rfl <| L.v (R1.addI (b := 1) rfl rfl (by omega)) rfl <| L.v (R1.assign rfl) rfl <| L.nil <| X.next (k + 1) ?_ ?_ ?_
     · refine ⟨rfl, ?_, rfl, rfl, trivial⟩; simp only [lk, Nat.beq, cond_true, cond_false]; exact congrArg (fun n : Nat => some (Value.int .i64 (n : Int))) (by have := sum_take_succ szT hz51; unfold szTs at *; rw [this]; omega)
     ·
      exact ⟨by omega, hL, hm0⟩
     · first | omega | (dsimp only; omega)
    ·
     intro hc37
     try simp only [bq, ne_eq] at hc37
     obtain rfl : k = z19.ts.length := by omega
     refine W.exit <| X.thenExit <| X.nextExit <| X.here <| X.seq <| W.seq <| W.region <| L.v (R1.move rfl) rfl <| L.v (R1.gt rfl rfl) rfl <| L.nil <| X.seq ?_
     refine W.cond rfl ?_ ?_
     ·
      intro hc67
      try simp only [bq, ne_eq] at hc67
      refine W.seq <| W.region <| L.v (R1.assign rfl) rfl <| L.nil <| X.seq <| W.ret <| X.blockRet <| X.thenRet <| X.nextRet <| X.blockRet <| X.thenRet ?_
      refine X.result1 rfl (.tmp rfl .nil) <| ⟨?_, hm0⟩
      rw [decide_eq_true]
      have := sum_elem_le szC hz19
      rw [List.take_length] at hc67
      unfold szCs at *
      omega
     ·
      intro hc67
      try simp only [bq, ne_eq] at hc67
      refine W.skip <| X.blockEnd <| X.seq <| W.region <| L.v (R1.move rfl) rfl <| L.v (R1.addI (b := 1) rfl rfl (by omega)) rfl <| L.v (R1.assign rfl) rfl <| L.nil ?_
      have hsum : szCs (cs.take (i + 1)) = szCs (cs.take i) + (2 + szQ z19.k) + szTs (z19.ts.take z19.ts.length) := by
        rw [List.take_length]; have := sum_take_succ szC hz19; unfold szCs; rw [this]; unfold szC; omega
      refine X.next (i + 1) ?_ ?_ ?_
      · refine ⟨rfl, ?_, rfl, trivial⟩; simp only [lk, Nat.beq, cond_true, cond_false]; rw [hsum]
      ·
       refine ⟨by omega, by rw [hsum]; omega, hL, hm0⟩
      · first | omega | (dsimp only; omega)
  ·
   intro hc9
   try simp only [bq, ne_eq] at hc9
   obtain rfl : i = cs.length := by omega
   refine W.exit <| X.thenExit <| X.nextExit <| X.here <| X.seq <| W.seq <| W.region <| L.v (R1.assign rfl) rfl <| L.nil <| X.seq <| W.ret ?_
   refine X.result1 rfl (.tmp rfl .nil) <| ⟨?_, hm0⟩
   rw [List.take_length] at hs
   rw [decide_eq_false (by omega)]

theorem c_numbers_pantographlaw13 {M N9 : List Nat} {w : World} {va vb : Value} {xs ys : List Int} (h : Lay rdI M w va xs) (k0 : Lay rdI N9 w vb ys) :
    Ret Try.prog 15 #[va, vb] w (fun r w' => r = .bool (decide (xs = ys)) ∧ Mod [] w w') := by
 have hmax := h.max; unfold maxLen at hmax
 refine Ret.of (vs := [va, vb]) (n := 26) Try.func15 rfl rfl rfl rfl ?_
 have hm0 : Mod [] w w := Mod.refl _ _
 refine W.seq <| W.region <| L.v (R1.assign rfl) rfl <| L.nil <| X.seq <| W.seq <| W.seq <| W.region <| L.v (R1.move rfl) rfl <| L.v (R1.lenLay rfl h tyS24) rfl <| L.v (R1.move rfl) rfl ?_
 refine L.v (R1.lenLay rfl k0 tyS24) rfl <| L.v (R1.ne rfl rfl) rfl <| L.nil <| X.seq <| W.cond rfl ?_ ?_
 ·
  intro hc10
  try simp only [bq, ne_eq] at hc10
  refine W.seq <| W.region <| L.v (R1.assign rfl) rfl <| L.nil <| X.seq <| W.ret <| X.thenRet <| X.result1 rfl (.tmp rfl .nil) <| ⟨?_, hm0⟩
  rw [decide_eq_false (fun e => by subst e; omega)]
 ·
  intro hc10
  try simp only [bq, ne_eq] at hc10
  have hlen : xs.length = ys.length := by omega
  refine W.skip <| X.seq <| W.seq <| W.seq <| W.region <| L.v (R1.assign rfl) rfl <| L.nil <| X.seq <| W.block <| W.loop (ι := Nat) (fun k => [(0, va), (1, vb), (5, .int .i64 (k : Int))]) (fun k w_ => k ≤ xs.length ∧ xs.take k = ys.take k ∧ Lay rdI M w_ va xs ∧ Lay rdI N9 w_ vb ys ∧ Mod [] w w_) (fun k => xs.length - k) 0 ?_ ?_ ?_
  · exact ⟨rfl, rfl, rfl, trivial⟩
  ·
   exact ⟨Nat.zero_le _, rfl, h, k0, hm0⟩
  ·
   rintro k w1 ⟨hk, he, h, k0, hm0⟩
   refine W.seq <| W.seq <| W.region <| L.v (R1.move rfl) rfl <| L.v (R1.move rfl) rfl <| L.v (R1.lenLay rfl h tyS24) rfl <| L.v (R1.lt rfl rfl) rfl <| L.nil <| X.seq <| W.cond rfl ?_ ?_
   ·
    intro hc14
    try simp only [bq, ne_eq] at hc14
    have hk1 : k < xs.length := by omega
    refine W.skip <| X.seq <| W.seq <| W.block <| W.seq <| W.drawW (T := []) rfl (by decide +kernel) (NoHang.then (NoHang.block (NoHang.then (NoHang.next (NoHang.block (NoHang.then NoHang.post)))))) (fun w2 hm2 => ?_)
    replace h := h.gr hm2
    replace k0 := k0.gr hm2
    replace hm0 := hm0.trans hm2
    have hS1 : Mod [] w2 w2 := Mod.refl _ _
    clear hm2
    refine D.take 0 rfl (by decide +kernel) (fun w_ hS => (R1.move rfl)) hS1 rfl <| D.take 1 rfl (by decide +kernel) (fun w_ hS => (R1.move rfl)) hS1 rfl <| D.take 2 rfl (by decide +kernel) (fun w_ hS => (R1.atLay (j := k) rfl rfl (Lay.gr h hS) tyS24 rfl (by omega))) hS1 rfl <| D.take 3 rfl (by decide +kernel) (fun w_ hS => (R1.loadLI rfl (Lay.gr h hS) tyP3 (by omega) rfl)) hS1 rfl <| D.take 4 rfl (by decide +kernel) (fun w_ hS => (R1.move rfl)) hS1 rfl <| D.take 5 rfl (by decide +kernel) (fun w_ hS => (R1.move rfl)) hS1 rfl <| D.take 6 rfl (by decide +kernel) (fun w_ hS => (R1.atLay (j := k) rfl rfl (Lay.gr k0 hS) tyS24 rfl (by omega))) hS1 rfl <| D.take 7 rfl (by decide +kernel) (fun w_ hS => (R1.loadLI rfl (Lay.gr k0 hS) tyP3 (by omega) rfl)) hS1 rfl <| D.take 8 rfl (by decide +kernel) (fun w_ hS => (R1.ne rfl rfl)) hS1 rfl <| D.done (by decide +kernel) ?_ _
    refine X.seq <| W.cond rfl ?_ ?_
    ·
     intro hc25
     try simp only [bq, ne_eq] at hc25
     refine W.seq <| W.region <| L.v (R1.assign rfl) rfl <| L.nil <| X.seq <| W.ret <| X.blockRet <| X.thenRet <| X.nextRet <| X.blockRet <| X.thenRet ?_
     refine X.result1 rfl (.tmp rfl .nil) <| ⟨?_, hm0⟩
     rw [decide_eq_false (fun e => by subst e; omega)]
    ·
     intro hc25
     try simp only [bq, ne_eq] at hc25
     refine W.skip <| X.blockEnd <| X.seq <| W.region <| L.v (R1.move rfl) rfl <| L.v (R1.addI (b := 1) rfl rfl (by omega)) rfl <| L.v (R1.assign rfl) rfl <| L.nil <| X.next (k + 1) ?_ ?_ ?_
     · exact ⟨rfl, rfl, rfl, trivial⟩
     ·
      exact ⟨by omega, eq_stepI hk1 (by omega) he (by omega), h, k0, hm0⟩
     · first | omega | (dsimp only; omega)
   ·
    intro hc14
    try simp only [bq, ne_eq] at hc14
    have hk1 : k = xs.length := by omega
    refine W.exit <| X.thenExit <| X.nextExit <| X.here <| X.seq <| W.seq <| W.region <| L.v (R1.assign rfl) rfl <| L.nil <| X.seq <| W.ret ?_
    refine X.result1 rfl (.tmp rfl .nil) <| ⟨?_, hm0⟩
    rw [hk1, List.take_length, hlen, List.take_length] at he
    rw [decide_eq_true he]

theorem c_numbersEq {M N9 : List Nat} {w : World} {va vb : Value} {xs ys : List Int} (h : Lay rdI M w va xs) (k0 : Lay rdI N9 w vb ys) (e : xs = ys) : Ret Try.prog 15 #[va, vb] w (fun r w' => r = .bool true ∧ Mod [] w w') :=
  (c_numbers_pantographlaw13 h k0).mono fun r w' ⟨h1, h2⟩ => ⟨by rw [h1, decide_eq_true e], h2⟩

theorem c_SettleL {M : List Nat} {w : World} {vl vo : Value} {cs : List CR} {os : List Int} {z0 : Int} (hL : Lay rdC M w vl cs) (hO : Lay rdI M w vo os) (hbd : Bd M w) (hsm : ∀ c ∈ cs, SmC 1099511627776 c) (hol : os.length ≤ 1000000) (hcl : cs.length ≤ 20) : Ret Try.prog 12 #[vl, vo, .int .i64 z0] w (fun r w' => ∃ v, r = .tuple #[v, .bool (ChB z0 cs os)] ∧ Lay rdI [] w' v (setZ z0 cs os) ∧ Mod [] w w') := (c_Settle hL hO hbd hsm hol hcl).mono fun r w' ⟨v, h1, h2, h3⟩ => ⟨v, h1, Lay.of_Z h2 (by simp), h3⟩
theorem c_r13_SettleL {M : List Nat} {w : World} {vl vo : Value} {cs : List CR} {os : List Int} {z0 : Int} (hL : Lay rdC M w vl cs) (hO : Lay rdI M w vo os) (hbd : Bd M w) (hsm : ∀ c ∈ cs, SmC 1099511627776 c) (hol : os.length ≤ 1000000) : Ret Try.prog 23 #[vl, vo, .int .i64 z0] w (fun r w' => ∃ v, r = .tuple #[v, .bool (ChB z0 cs os)] ∧ Lay rdI [] w' v (setZ z0 cs os) ∧ Mod [] w w') := (c_r13_Settle hL hO hbd hsm hol).mono fun r w' ⟨v, h1, h2, h3⟩ => ⟨v, h1, Lay.of_Z h2 (by simp), h3⟩
theorem c_dWalkL {M : List Nat} {w : World} {vl vo : Value} {cs : List CR} {os : List Int} {z0 : Int} (hL : Lay rdC M w vl cs) (hO : Lay rdI M w vo os) (hbd : Bd M w) (hsm : ∀ c ∈ cs, SmC 1099511627776 c) : Ret Try.prog 22 #[vl, vo, .int .i64 z0] w (fun r w' => Lay rdI [] w' r (walZ z0 cs os) ∧ Mod [] w w') := (c_dWalk hL hO hbd hsm).mono fun r w' ⟨h1, h2⟩ => ⟨Lay.of_Z h1 (by simp), h2⟩
theorem c_r13_WalkL {M : List Nat} {w : World} {vl vo : Value} {cs : List CR} {os : List Int} {z0 : Int} (hL : Lay rdC M w vl cs) (hO : Lay rdI M w vo os) (hbd : Bd M w) (hsm : ∀ c ∈ cs, SmC 1099511627776 c) : Ret Try.prog 24 #[vl, vo, .int .i64 z0] w (fun r w' => Lay rdI [] w' r (walZ z0 cs os) ∧ Mod [] w w') := (c_r13_Walk hL hO hbd hsm).mono fun r w' ⟨h1, h2⟩ => ⟨Lay.of_Z h1 (by simp), h2⟩

theorem nf_is (q : Rat) : (QR.nf q).is = true := by
  unfold QR.is isN QR.nf
  simp only [rv_toL]
  simp
theorem nf_sm2 {z : Int} (h : z.natAbs < 4294967296) : SmQ 2 (QR.nf ((z : Int) : Rat)) := by
  constructor
  · show (toL ((z : Int) : Rat).num.natAbs).length ≤ 2
    rw [Rat.num_intCast]
    by_cases h0 : z.natAbs = 0
    · rw [h0, toL_zero]; decide
    · rw [toL_small h0 h]; simp
  · show (toL ((z : Int) : Rat).den).length ≤ 2
    rw [Rat.den_intCast, toL_1]; decide
theorem nf_len {z : Int} (h0 : z.natAbs ≠ 0) (h : z.natAbs < 4294967296) : (QR.nf ((z : Int) : Rat)).n.length = 1 := by
  show (toL ((z : Int) : Rat).num.natAbs).length = 1
  rw [Rat.num_intCast, toL_small h0 h]; rfl


def kA : CR := ⟨0, [⟨0, QR.nf ((1 : Int) : Rat)⟩, ⟨1, QR.nf ((-1 : Int) : Rat)⟩], QR.nf ((0 : Int) : Rat)⟩
def kW : CR := ⟨3, [⟨0, QR.nf ((1 : Int) : Rat)⟩], QR.nf ((-5 : Int) : Rat)⟩
theorem kA_is : isC kA 2 = true := by
  show (decide ((0 : Int) ≤ 0) && (decide ((0 : Int) ≤ 4) && ((QR.nf ((0 : Int) : Rat)).is && (decide ((0 : Int) ≤ 0) && (decide ((0 : Int) < 2) && ((QR.nf ((1 : Int) : Rat)).is && (decide ((QR.nf ((1 : Int) : Rat)).n.length ≠ 0) && (decide ((0 : Int) + 1 ≤ 1) && (decide ((1 : Int) < 2) && ((QR.nf ((-1 : Int) : Rat)).is && (decide ((QR.nf ((-1 : Int) : Rat)).n.length ≠ 0) && true))))))))))) = true
  rw [nf_is, nf_is, nf_is, nf_len (by decide) (by decide), nf_len (by decide) (by decide)]; decide
theorem kW_is : isC kW 2 = true := by
  show (decide ((0 : Int) ≤ 3) && (decide ((3 : Int) ≤ 4) && ((QR.nf ((-5 : Int) : Rat)).is && (decide ((0 : Int) ≤ 0) && (decide ((0 : Int) < 2) && ((QR.nf ((1 : Int) : Rat)).is && (decide ((QR.nf ((1 : Int) : Rat)).n.length ≠ 0) && true))))))) = true
  rw [nf_is, nf_is, nf_len (by decide) (by decide)]; decide
theorem k_ws : wsOf 2 [kA, kW] = [[0, 1], [0]] := by
  show [wOf 2 kA, wOf 2 kW] = _
  unfold wOf
  rw [if_pos (show isC kA ((2 : Nat) : Int) = true from kA_is), if_pos (show isC kW ((2 : Nat) : Int) = true from kW_is)]; rfl
theorem k_ch : ChB ((2 : Nat) : Int) [kA, kW] [-1, -1] = true := by
  refine decide_eq_true ⟨by decide, by decide, by decide, by decide, fun j hj => ?_, ?_⟩
  · have hj2 : j < 2 := hj
    rcases (show j = 0 ∨ j = 1 by omega) with rfl | rfl
    · exact ⟨kA_is, .inl (by decide)⟩
    · exact ⟨kW_is, .inl (by decide)⟩
  · show firstW (List.range 2) (wsOf 2 [kA, kW]) 0 = none
    rw [k_ws]; decide
theorem k_st : stS [kA, kW] = [0, 3] := rfl
theorem k_p1 : passF 2 [[0, 1], [0]] [0, 3] [-1, -1] = [1, 0] := by decide +kernel
theorem k_p2 : passF 2 [[0, 1], [0]] [0, 3] [1, 0] = [1, 0] := by decide +kernel
theorem k_set : setZ 2 [kA, kW] [-1, -1] = [1, 0] := by
  have hC := ChoZ.of k_ch
  have hc := hC.c
  have hs := hC.st
  show setZ ((2 : Nat) : Int) [kA, kW] [-1, -1] = [1, 0]
  rw [setZ_yes k_ch]
  unfold setlZ
  rw [k_st, k_ws] at hs ⊢
  rw [k_ws] at hc
  rw [← setl_step hs hc, k_p1]
  exact setl_same k_p2


theorem built_T : Try.prog.built 38 [] = some #[.int .i64 0, .bool false, .slice none 0 0, .slice none 0 0] := by kernel_rfl
theorem built_T01 (v : Int) (s : Bool) (A : Option Addr) (n c : Nat) (B : Option Addr) (m d : Nat) : Try.prog.built 38 [(0, .int .i64 v), (1, .agg #[.bool s, .slice A n c, .slice B m d])] = some #[.int .i64 v, .bool s, .slice A n c, .slice B m d] := by kernel_rfl
theorem built_C02 (v : Int) (s : Bool) (A : Option Addr) (n c : Nat) (B : Option Addr) (m d : Nat) : Try.prog.built 41 [(0, .int .i64 v), (2, .agg #[.bool s, .slice A n c, .slice B m d])] = some #[.int .i64 v, .slice none 0 0, .bool s, .slice A n c, .slice B m d] := by kernel_rfl
theorem fillN1 (v : Int) (s : Bool) (A : Option Addr) (n c : Nat) (B : Option Addr) (m d : Nat) : Instr.fill (fun i => some (i * 4, 4)) ((Array.range (1 * 4)).map ((Value.agg #[.int .i64 0, .bool false, .slice none 0 0, .slice none 0 0]).cells[· % (Value.agg #[.int .i64 0, .bool false, .slice none 0 0, .slice none 0 0]).cells.size]!)) [(0, .agg #[.int .i64 v, .bool s, .slice A n c, .slice B m d])] = some #[.int .i64 v, .bool s, .slice A n c, .slice B m d] := by kernel_rfl


theorem built_C12 (T : Option Addr) (l t : Nat) (s0 : Bool) (A0 : Option Addr) (n0 c0 : Nat) (B0 : Option Addr) (m0 d0 : Nat) : Try.prog.built 41 [(1, .slice T l t), (2, .agg #[.bool s0, .slice A0 n0 c0, .slice B0 m0 d0])] = some #[.int .i64 0, .slice T l t, .bool s0, .slice A0 n0 c0, .slice B0 m0 d0] := by kernel_rfl
theorem built_C012 (v : Int) (T : Option Addr) (l t : Nat) (s0 : Bool) (A0 : Option Addr) (n0 c0 : Nat) (B0 : Option Addr) (m0 d0 : Nat) : Try.prog.built 41 [(0, .int .i64 v), (1, .slice T l t), (2, .agg #[.bool s0, .slice A0 n0 c0, .slice B0 m0 d0])] = some #[.int .i64 v, .slice T l t, .bool s0, .slice A0 n0 c0, .slice B0 m0 d0] := by kernel_rfl
theorem fillK2 (v1 : Int) (T1 : Option Addr) (l1 t1 : Nat) (s1 : Bool) (A1 : Option Addr) (n1 c1 : Nat) (B1 : Option Addr) (m1 d1 : Nat) (v2 : Int) (T2 : Option Addr) (l2 t2 : Nat) (s2 : Bool) (A2 : Option Addr) (n2 c2 : Nat) (B2 : Option Addr) (m2 d2 : Nat) : Instr.fill (fun i => some (i * 5, 5)) ((Array.range (2 * 5)).map ((Value.agg #[.int .i64 0, .slice none 0 0, .bool false, .slice none 0 0, .slice none 0 0]).cells[· % (Value.agg #[.int .i64 0, .slice none 0 0, .bool false, .slice none 0 0, .slice none 0 0]).cells.size]!)) [(0, .agg #[.int .i64 v1, .slice T1 l1 t1, .bool s1, .slice A1 n1 c1, .slice B1 m1 d1]), (1, .agg #[.int .i64 v2, .slice T2 l2 t2, .bool s2, .slice A2 n2 c2, .slice B2 m2 d2])] = some #[.int .i64 v1, .slice T1 l1 t1, .bool s1, .slice A1 n1 c1, .slice B1 m1 d1, .int .i64 v2, .slice T2 l2 t2, .bool s2, .slice A2 n2 c2, .slice B2 m2 d2] := by kernel_rfl
theorem fillI2 (a b : Int) : Instr.fill (fun i => some (i * 1, 1)) ((Array.range (2 * 1)).map ((Value.int .i64 0).cells[· % (Value.int .i64 0).cells.size]!)) [(0, .int .i64 a), (1, .int .i64 b)] = some #[.int .i64 a, .int .i64 b] := by kernel_rfl
theorem k_sm : ∀ c ∈ [kA, kW], SmC 1099511627776 c := fun c hc => by
  have h1 : ∀ z : Int, z.natAbs < 4294967296 → SmQ 150 (QR.nf ((z : Int) : Rat)) := fun z hz => ⟨Nat.le_trans (nf_sm2 hz).1 (by decide), Nat.le_trans (nf_sm2 hz).2 (by decide)⟩
  have h2 : SmC 150 c := by
    rcases List.mem_cons.1 hc with rfl | hc
    · exact ⟨by show 2 ≤ 150; decide, h1 _ (by decide), fun t ht => by
        rcases List.mem_cons.1 ht with rfl | ht
        · exact h1 _ (by decide)
        · rw [List.mem_singleton.1 ht]; exact h1 _ (by decide)⟩
    · rw [List.mem_singleton.1 hc]
      exact ⟨by show 1 ≤ 150; decide, h1 _ (by decide), fun t ht => by rw [List.mem_singleton.1 ht]; exact h1 _ (by decide)⟩
  exact h2.mono (by decide)

set_option maxHeartbeats 4000000 in
theorem c_known13 {w : World} :
    Ret Try.prog 14 #[] w (fun r w' => r = .bool true ∧ Mod [] w w') := by
 have hbd : Bd [] w := fun m h9 => by cases h9
 refine Ret.of (vs := []) (n := 33) Try.func14 rfl rfl rfl rfl ?_
 have hm0 : Mod [] w w := Mod.refl _ _
 refine W.seq <| W.region <| L.v (R1.assign rfl) rfl <| L.nil <| X.seq <| W.seq <| W.region <| L.call rfl (c_ref2_Int (n := 1) (by decide) (by decide) hbd) rfl ?_
 rintro _ w1 ⟨⟨A6, c6, B6, e6, rfl, hn6, hd6⟩, hm1⟩
 replace hbd := hbd.gr hm1
 replace hm0 := hm0.trans hm1
 clear hm1
 have F6 := Fit.int (n := 1) (by decide) (by decide)
 refine L.alloc tyZ35 rfl ?_
 intro g1 w2 hN1
 replace hbd := hbd.new hN1
 have hge_g1 := New.ge hN1 hm0.size
 replace hm0 := hm0.trans (hN1.mod.mono (by simp))
 replace hn6 := hn6.new hN1
 replace hd6 := hd6.new hN1
 have hb1 := hN1.blk
 clear hN1
 refine L.storeBox rfl rfl hb1 rfl rfl tyG35 ?_
 intro w3 hb1' hm3
 replace hbd := hbd.gr hm3
 replace hm0 := hm0.old1 hm3 hge_g1
 replace hn6 := hn6.mod hm3 (by simp)
 replace hd6 := hd6.mod hm3 (by simp)
 clear hm3
 replace hb1 := hb1'; clear hb1'
 refine L.nil <| X.seq <| W.seq <| W.cut (ι := Nat × Nat × Nat × Option Addr × Nat × Option Addr × Nat × Option Addr × Nat × Option Addr × Nat) (fun (g1, g2, g11, A6, c6, B6, e6, A12, c12, B12, e12) => [(1, .pointer (some ⟨g1, 0, none⟩)), (2, .pointer (some ⟨g2, 0, none⟩))]) (fun (g1, g2, g11, A6, c6, B6, e6, A12, c12, B12, e12) w_ => U32 [] w_ (.slice A6 (toL (((1 : Int)) : Rat).num.natAbs).length c6) (toL (((1 : Int)) : Rat).num.natAbs) ∧ U32 [] w_ (.slice B6 (toL (((1 : Int)) : Rat).den).length e6) (toL (((1 : Int)) : Rat).den) ∧ Blk w_ g1 35 #[.bool (decide ((((1 : Int)) : Rat).num < 0)), .slice A6 (toL (((1 : Int)) : Rat).num.natAbs).length c6, .slice B6 (toL (((1 : Int)) : Rat).den).length e6] ∧ Lay rdT [] w_ (.slice (some ⟨g11, 0, none⟩) 2 2) kA.ts ∧ U32 [] w_ (.slice A12 (toL (((0 : Int)) : Rat).num.natAbs).length c12) (toL (((0 : Int)) : Rat).num.natAbs) ∧ U32 [] w_ (.slice B12 (toL (((0 : Int)) : Rat).den).length e12) (toL (((0 : Int)) : Rat).den) ∧ Blk w_ g2 41 #[.int .i64 0, .slice (some ⟨g11, 0, none⟩) 2 2, .bool (decide ((((0 : Int)) : Rat).num < 0)), .slice A12 (toL (((0 : Int)) : Rat).num.natAbs).length c12, .slice B12 (toL (((0 : Int)) : Rat).den).length e12] ∧ g1 ≠ g2 ∧ Bd [] w_ ∧ Mod [] w w_) ?_ ?_
 ·
  refine W.drawW (T := [8]) rfl (by decide +kernel) (NoHang.join (NoHang.then NoHang.post)) (fun w4 hm4 => ?_)
  replace hbd := hbd.gr hm4
  replace hm0 := hm0.trans hm4
  replace hn6 := hn6.gr hm4
  replace hd6 := hd6.gr hm4
  replace hb1 := Blk.gr hb1 hm4
  have hS1 : Mod [] w4 w4 := Mod.refl _ _
  clear hm4
  have hb1_s := hb1
  refine D.take 0 rfl (by decide +kernel) (fun w_ hS => (R1.loadBox rfl (Blk.gr hb1_s hS) tyG35)) hS1 rfl <| D.take 1 rfl (by decide +kernel) (fun w_ hS => (R1.build (vs := [.int .i64 0, .agg #[.bool (decide ((((1 : Int)) : Rat).num < 0)), .slice A6 (toL (((1 : Int)) : Rat).num.natAbs).length c6, .slice B6 (toL (((1 : Int)) : Rat).den).length e6]]) rfl (built_T01 _ _ _ _ _ _ _ _))) hS1 rfl <| D.many (rs := [2, 7]) (by decide +kernel) rfl ?_
  intro i_ hi_
  simp only [List.mem_cons, List.not_mem_nil, or_false] at hi_
  rcases hi_ with rfl | rfl
  ·
   refine ⟨_, rfl, fun hX => ?_⟩
   refine L.call rfl (c_ref2_Int (n := -1) (by decide) (by decide) hbd) rfl ?_
   rintro _ w5 ⟨⟨A9, c9, B9, e9, rfl, hn9, hd9⟩, hm5⟩
   replace hbd := hbd.gr hm5
   replace hm0 := hm0.trans hm5
   replace hn6 := hn6.gr hm5
   replace hd6 := hd6.gr hm5
   replace hb1 := Blk.gr hb1 hm5
   replace hS1 := hS1.trans hm5
   clear hm5
   have F9 := Fit.int (n := -1) (by decide) (by decide)
   refine L.nil (hX _ _ ⟨.inr hS1, ?_⟩)
   refine D.take 3 rfl (by decide +kernel) (fun w_ hS => (R1.build (vs := [.int .i64 1, .agg #[.bool (decide ((((-1 : Int)) : Rat).num < 0)), .slice A9 (toL (((-1 : Int)) : Rat).num.natAbs).length c9, .slice B9 (toL (((-1 : Int)) : Rat).den).length e9]]) rfl (built_T01 _ _ _ _ _ _ _ _))) hS1 rfl <| D.many (rs := [4, 5, 7]) (by decide +kernel) rfl ?_
   intro i_ hi_
   simp only [List.mem_cons, List.not_mem_nil, or_false] at hi_
   rcases hi_ with rfl | rfl | rfl
   ·
    refine ⟨_, rfl, fun hX => ?_⟩
    refine L.buildSlice (cells := [.int .i64 0, .bool (decide ((((1 : Int)) : Rat).num < 0)), .slice A6 (toL (((1 : Int)) : Rat).num.natAbs).length c6, .slice B6 (toL (((1 : Int)) : Rat).den).length e6, .int .i64 1, .bool (decide ((((-1 : Int)) : Rat).num < 0)), .slice A9 (toL (((-1 : Int)) : Rat).num.natAbs).length c9, .slice B9 (toL (((-1 : Int)) : Rat).den).length e9]) rfl tyS39 tyZ38 (fillT2 _ _ _ _ _ _ _ _ _ _ _ _ _ _ _ _) (by decide) (by decide) rfl ?_
    intro g11 w6 hN11
    replace hS1 := hS1.trans hN11.mod
    replace hbd := hbd.new hN11
    replace hm0 := hm0.trans (hN11.mod.mono (by simp))
    replace hn6 := hn6.new hN11
    replace hd6 := hd6.new hN11
    replace hb1 := Blk.gr hb1 hN11.mod
    replace hn9 := hn9.new hN11
    replace hd9 := hd9.new hN11
    have hb11 := hN11.blk
    clear hN11
    refine L.nil (hX _ _ ⟨.inr hS1, ?_⟩)
    refine D.many (rs := [5, 7]) (by decide +kernel) rfl ?_
    intro i_ hi_
    simp only [List.mem_cons, List.not_mem_nil, or_false] at hi_
    rcases hi_ with rfl | rfl
    ·
     refine ⟨_, rfl, fun hX => ?_⟩
     refine L.call rfl (c_ref2_Int (n := 0) (by decide) (by decide) hbd) rfl ?_
     rintro _ w7 ⟨⟨A12, c12, B12, e12, rfl, hn12, hd12⟩, hm7⟩
     replace hbd := hbd.gr hm7
     replace hm0 := hm0.trans hm7
     replace hn6 := hn6.gr hm7
     replace hd6 := hd6.gr hm7
     replace hb1 := Blk.gr hb1 hm7
     replace hn9 := hn9.gr hm7
     replace hd9 := hd9.gr hm7
     replace hb11 := Blk.gr hb11 hm7
     replace hS1 := hS1.trans hm7
     clear hm7
     have F12 := Fit.int (n := 0) (by decide) (by decide)
     refine L.nil (hX _ _ ⟨.inr hS1, ?_⟩)
     refine D.take 6 rfl (by decide +kernel) (fun w_ hS => (R1.build (vs := [.slice (some ⟨g11, 0, none⟩) 2 2, .agg #[.bool (decide ((((0 : Int)) : Rat).num < 0)), .slice A12 (toL (((0 : Int)) : Rat).num.natAbs).length c12, .slice B12 (toL (((0 : Int)) : Rat).den).length e12]]) rfl (built_C12 _ _ _ _ _ _ _ _ _ _))) hS1 rfl <| D.one 7 rfl (by decide +kernel) (fun hX => ?_)
     refine L.alloc tyZ41 rfl ?_
     intro g2 w8 hN2
     replace hS1 := hS1.trans hN2.mod
     replace hbd := hbd.new hN2
     have hge_g2 := New.ge hN2 hm0.size
     replace hm0 := hm0.trans (hN2.mod.mono (by simp))
     replace hn6 := hn6.new hN2
     replace hd6 := hd6.new hN2
     have hne_g1_g2 := hb1.ne_ hN2
     replace hb1 := Blk.gr hb1 hN2.mod
     replace hn9 := hn9.new hN2
     replace hd9 := hd9.new hN2
     have hne_g11_g2 := hb11.ne_ hN2
     replace hb11 := Blk.gr hb11 hN2.mod
     replace hn12 := hn12.new hN2
     replace hd12 := hd12.new hN2
     have hb2 := hN2.blk
     clear hN2
     refine L.nil (hX _ _ ⟨.inr hS1, ?_⟩)
     refine D.one 8 rfl (by decide +kernel) (fun hX => ?_)
     refine L.storeBox rfl rfl hb2 rfl rfl tyG41 ?_
     intro w9 hb2' hm9
     replace hbd := hbd.gr hm9
     replace hm0 := hm0.old1 hm9 hge_g2
     replace hn6 := hn6.mod hm9 (by simp)
     replace hd6 := hd6.mod hm9 (by simp)
     replace hb1 := Blk.far hb1 hm9 (by first | exact hne_g1_g2 | exact (hne_g2_g1).symm)
     replace hn9 := hn9.mod hm9 (by simp)
     replace hd9 := hd9.mod hm9 (by simp)
     replace hb11 := Blk.far hb11 hm9 (by first | exact hne_g11_g2 | exact (hne_g2_g11).symm)
     replace hn12 := hn12.mod hm9 (by simp)
     replace hd12 := hd12.mod hm9 (by simp)
     clear hm9
     replace hb2 := hb2'; clear hb2'
     refine L.nil (hX _ _ ⟨.inl rfl, ?_⟩)
     refine D.done (by decide +kernel) ?_ _
     refine X.join (g1, g2, g11, A6, c6, B6, e6, A12, c12, B12, e12) ?_ ?_
     · exact ⟨rfl, rfl, trivial⟩
     ·
      have hTA : Lay rdT [] w9 (.slice (some ⟨g11, 0, none⟩) 2 2) kA.ts := Lay.of_blk (css := [[.int .i64 0, .bool (decide ((((1 : Int)) : Rat).num < 0)), .slice A6 (toL (((1 : Int)) : Rat).num.natAbs).length c6, .slice B6 (toL (((1 : Int)) : Rat).den).length e6], [.int .i64 1, .bool (decide ((((-1 : Int)) : Rat).num < 0)), .slice A9 (toL (((-1 : Int)) : Rat).num.natAbs).length c9, .slice B9 (toL (((-1 : Int)) : Rat).den).length e9]]) hb11 ((LayL.one _ (⟨0, QR.nf (((1 : Int)) : Rat)⟩ : TR) (rdT_mk (t := ⟨0, QR.nf (((1 : Int)) : Rat)⟩) (hn6.sub (M' := []) (fun b hb => by cases hb)) (hd6.sub (M' := []) (fun b hb => by cases hb)))).append (LayL.one _ (⟨1, QR.nf (((-1 : Int)) : Rat)⟩ : TR) (rdT_mk (t := ⟨1, QR.nf (((-1 : Int)) : Rat)⟩) (hn9.sub (M' := []) (fun b hb => by cases hb)) (hd9.sub (M' := []) (fun b hb => by cases hb))))) rfl rfl (by decide) (by simp)
      exact ⟨hn6.sub (fun b hb => by cases hb), hd6.sub (fun b hb => by cases hb), hb1, hTA.sub (fun b hb => by cases hb), hn12.sub (fun b hb => by cases hb), hd12.sub (fun b hb => by cases hb), hb2, hne_g1_g2, hbd.sub (fun b hb => by cases hb), hm0⟩
    ·
     refine ⟨_, rfl, fun hX => ?_⟩
     refine L.alloc tyZ41 rfl ?_
     intro g2 w10 hN2
     replace hS1 := hS1.trans hN2.mod
     replace hbd := hbd.new hN2
     have hge_g2 := New.ge hN2 hm0.size
     replace hm0 := hm0.trans (hN2.mod.mono (by simp))
     replace hn6 := hn6.new hN2
     replace hd6 := hd6.new hN2
     have hne_g1_g2 := hb1.ne_ hN2
     replace hb1 := Blk.gr hb1 hN2.mod
     replace hn9 := hn9.new hN2
     replace hd9 := hd9.new hN2
     have hne_g11_g2 := hb11.ne_ hN2
     replace hb11 := Blk.gr hb11 hN2.mod
     have hb2 := hN2.blk
     clear hN2
     refine L.nil (hX _ _ ⟨.inr hS1, ?_⟩)
     refine D.one 5 rfl (by decide +kernel) (fun hX => ?_)
     refine L.call rfl (c_ref2_Int (n := 0) (by decide) (by decide) hbd) rfl ?_
     rintro _ w11 ⟨⟨A12, c12, B12, e12, rfl, hn12, hd12⟩, hm11⟩
     replace hbd := hbd.gr hm11
     replace hm0 := hm0.trans hm11
     replace hn6 := hn6.gr hm11
     replace hd6 := hd6.gr hm11
     replace hb1 := Blk.gr hb1 hm11
     replace hn9 := hn9.gr hm11
     replace hd9 := hd9.gr hm11
     replace hb11 := Blk.gr hb11 hm11
     replace hb2 := Blk.gr hb2 hm11
     replace hS1 := hS1.trans hm11
     clear hm11
     have F12 := Fit.int (n := 0) (by decide) (by decide)
     refine L.nil (hX _ _ ⟨.inr hS1, ?_⟩)
     refine D.take 6 rfl (by decide +kernel) (fun w_ hS => (R1.build (vs := [.slice (some ⟨g11, 0, none⟩) 2 2, .agg #[.bool (decide ((((0 : Int)) : Rat).num < 0)), .slice A12 (toL (((0 : Int)) : Rat).num.natAbs).length c12, .slice B12 (toL (((0 : Int)) : Rat).den).length e12]]) rfl (built_C12 _ _ _ _ _ _ _ _ _ _))) hS1 rfl <| D.one 8 rfl (by decide +kernel) (fun hX => ?_)
     refine L.storeBox rfl rfl hb2 rfl rfl tyG41 ?_
     intro w12 hb2' hm12
     replace hbd := hbd.gr hm12
     replace hm0 := hm0.old1 hm12 hge_g2
     replace hn6 := hn6.mod hm12 (by simp)
     replace hd6 := hd6.mod hm12 (by simp)
     replace hb1 := Blk.far hb1 hm12 (by first | exact hne_g1_g2 | exact (hne_g2_g1).symm)
     replace hn9 := hn9.mod hm12 (by simp)
     replace hd9 := hd9.mod hm12 (by simp)
     replace hb11 := Blk.far hb11 hm12 (by first | exact hne_g11_g2 | exact (hne_g2_g11).symm)
     replace hn12 := hn12.mod hm12 (by simp)
     replace hd12 := hd12.mod hm12 (by simp)
     clear hm12
     replace hb2 := hb2'; clear hb2'
     refine L.nil (hX _ _ ⟨.inl rfl, ?_⟩)
     refine D.done (by decide +kernel) ?_ _
     refine X.join (g1, g2, g11, A6, c6, B6, e6, A12, c12, B12, e12) ?_ ?_
     · exact ⟨rfl, rfl, trivial⟩
     ·
      have hTA : Lay rdT [] w12 (.slice (some ⟨g11, 0, none⟩) 2 2) kA.ts := Lay.of_blk (css := [[.int .i64 0, .bool (decide ((((1 : Int)) : Rat).num < 0)), .slice A6 (toL (((1 : Int)) : Rat).num.natAbs).length c6, .slice B6 (toL (((1 : Int)) : Rat).den).length e6], [.int .i64 1, .bool (decide ((((-1 : Int)) : Rat).num < 0)), .slice A9 (toL (((-1 : Int)) : Rat).num.natAbs).length c9, .slice B9 (toL (((-1 : Int)) : Rat).den).length e9]]) hb11 ((LayL.one _ (⟨0, QR.nf (((1 : Int)) : Rat)⟩ : TR) (rdT_mk (t := ⟨0, QR.nf (((1 : Int)) : Rat)⟩) (hn6.sub (M' := []) (fun b hb => by cases hb)) (hd6.sub (M' := []) (fun b hb => by cases hb)))).append (LayL.one _ (⟨1, QR.nf (((-1 : Int)) : Rat)⟩ : TR) (rdT_mk (t := ⟨1, QR.nf (((-1 : Int)) : Rat)⟩) (hn9.sub (M' := []) (fun b hb => by cases hb)) (hd9.sub (M' := []) (fun b hb => by cases hb))))) rfl rfl (by decide) (by simp)
      exact ⟨hn6.sub (fun b hb => by cases hb), hd6.sub (fun b hb => by cases hb), hb1, hTA.sub (fun b hb => by cases hb), hn12.sub (fun b hb => by cases hb), hd12.sub (fun b hb => by cases hb), hb2, hne_g1_g2, hbd.sub (fun b hb => by cases hb), hm0⟩
   ·
    refine ⟨_, rfl, fun hX => ?_⟩
    refine L.call rfl (c_ref2_Int (n := 0) (by decide) (by decide) hbd) rfl ?_
    rintro _ w13 ⟨⟨A12, c12, B12, e12, rfl, hn12, hd12⟩, hm13⟩
    replace hbd := hbd.gr hm13
    replace hm0 := hm0.trans hm13
    replace hn6 := hn6.gr hm13
    replace hd6 := hd6.gr hm13
    replace hb1 := Blk.gr hb1 hm13
    replace hn9 := hn9.gr hm13
    replace hd9 := hd9.gr hm13
    replace hS1 := hS1.trans hm13
    clear hm13
    have F12 := Fit.int (n := 0) (by decide) (by decide)
    refine L.nil (hX _ _ ⟨.inr hS1, ?_⟩)
    refine D.many (rs := [4, 7]) (by decide +kernel) rfl ?_
    intro i_ hi_
    simp only [List.mem_cons, List.not_mem_nil, or_false] at hi_
    rcases hi_ with rfl | rfl
    ·
     refine ⟨_, rfl, fun hX => ?_⟩
     refine L.buildSlice (cells := [.int .i64 0, .bool (decide ((((1 : Int)) : Rat).num < 0)), .slice A6 (toL (((1 : Int)) : Rat).num.natAbs).length c6, .slice B6 (toL (((1 : Int)) : Rat).den).length e6, .int .i64 1, .bool (decide ((((-1 : Int)) : Rat).num < 0)), .slice A9 (toL (((-1 : Int)) : Rat).num.natAbs).length c9, .slice B9 (toL (((-1 : Int)) : Rat).den).length e9]) rfl tyS39 tyZ38 (fillT2 _ _ _ _ _ _ _ _ _ _ _ _ _ _ _ _) (by decide) (by decide) rfl ?_
     intro g11 w14 hN11
     replace hS1 := hS1.trans hN11.mod
     replace hbd := hbd.new hN11
     replace hm0 := hm0.trans (hN11.mod.mono (by simp))
     replace hn6 := hn6.new hN11
     replace hd6 := hd6.new hN11
     replace hb1 := Blk.gr hb1 hN11.mod
     replace hn9 := hn9.new hN11
     replace hd9 := hd9.new hN11
     replace hn12 := hn12.new hN11
     replace hd12 := hd12.new hN11
     have hb11 := hN11.blk
     clear hN11
     refine L.nil (hX _ _ ⟨.inr hS1, ?_⟩)
     refine D.take 6 rfl (by decide +kernel) (fun w_ hS => (R1.build (vs := [.slice (some ⟨g11, 0, none⟩) 2 2, .agg #[.bool (decide ((((0 : Int)) : Rat).num < 0)), .slice A12 (toL (((0 : Int)) : Rat).num.natAbs).length c12, .slice B12 (toL (((0 : Int)) : Rat).den).length e12]]) rfl (built_C12 _ _ _ _ _ _ _ _ _ _))) hS1 rfl <| D.one 7 rfl (by decide +kernel) (fun hX => ?_)
     refine L.alloc tyZ41 rfl ?_
     intro g2 w15 hN2
     replace hS1 := hS1.trans hN2.mod
     replace hbd := hbd.new hN2
     have hge_g2 := New.ge hN2 hm0.size
     replace hm0 := hm0.trans (hN2.mod.mono (by simp))
     replace hn6 := hn6.new hN2
     replace hd6 := hd6.new hN2
     have hne_g1_g2 := hb1.ne_ hN2
     replace hb1 := Blk.gr hb1 hN2.mod
     replace hn9 := hn9.new hN2
     replace hd9 := hd9.new hN2
     replace hn12 := hn12.new hN2
     replace hd12 := hd12.new hN2
     have hne_g11_g2 := hb11.ne_ hN2
     replace hb11 := Blk.gr hb11 hN2.mod
     have hb2 := hN2.blk
     clear hN2
     refine L.nil (hX _ _ ⟨.inr hS1, ?_⟩)
     refine D.one 8 rfl (by decide +kernel) (fun hX => ?_)
     refine L.storeBox rfl rfl hb2 rfl rfl tyG41 ?_
     intro w16 hb2' hm16
     replace hbd := hbd.gr hm16
     replace hm0 := hm0.old1 hm16 hge_g2
     replace hn6 := hn6.mod hm16 (by simp)
     replace hd6 := hd6.mod hm16 (by simp)
     replace hb1 := Blk.far hb1 hm16 (by first | exact hne_g1_g2 | exact (hne_g2_g1).symm)
     replace hn9 := hn9.mod hm16 (by simp)
     replace hd9 := hd9.mod hm16 (by simp)
     replace hn12 := hn12.mod hm16 (by simp)
     replace hd12 := hd12.mod hm16 (by simp)
     replace hb11 := Blk.far hb11 hm16 (by first | exact hne_g11_g2 | exact (hne_g2_g11).symm)
     clear hm16
     replace hb2 := hb2'; clear hb2'
     refine L.nil (hX _ _ ⟨.inl rfl, ?_⟩)
     refine D.done (by decide +kernel) ?_ _
     refine X.join (g1, g2, g11, A6, c6, B6, e6, A12, c12, B12, e12) ?_ ?_
     · exact ⟨rfl, rfl, trivial⟩
     ·
      have hTA : Lay rdT [] w16 (.slice (some ⟨g11, 0, none⟩) 2 2) kA.ts := Lay.of_blk (css := [[.int .i64 0, .bool (decide ((((1 : Int)) : Rat).num < 0)), .slice A6 (toL (((1 : Int)) : Rat).num.natAbs).length c6, .slice B6 (toL (((1 : Int)) : Rat).den).length e6], [.int .i64 1, .bool (decide ((((-1 : Int)) : Rat).num < 0)), .slice A9 (toL (((-1 : Int)) : Rat).num.natAbs).length c9, .slice B9 (toL (((-1 : Int)) : Rat).den).length e9]]) hb11 ((LayL.one _ (⟨0, QR.nf (((1 : Int)) : Rat)⟩ : TR) (rdT_mk (t := ⟨0, QR.nf (((1 : Int)) : Rat)⟩) (hn6.sub (M' := []) (fun b hb => by cases hb)) (hd6.sub (M' := []) (fun b hb => by cases hb)))).append (LayL.one _ (⟨1, QR.nf (((-1 : Int)) : Rat)⟩ : TR) (rdT_mk (t := ⟨1, QR.nf (((-1 : Int)) : Rat)⟩) (hn9.sub (M' := []) (fun b hb => by cases hb)) (hd9.sub (M' := []) (fun b hb => by cases hb))))) rfl rfl (by decide) (by simp)
      exact ⟨hn6.sub (fun b hb => by cases hb), hd6.sub (fun b hb => by cases hb), hb1, hTA.sub (fun b hb => by cases hb), hn12.sub (fun b hb => by cases hb), hd12.sub (fun b hb => by cases hb), hb2, hne_g1_g2, hbd.sub (fun b hb => by cases hb), hm0⟩
    ·
     refine ⟨_, rfl, fun hX => ?_⟩
     refine L.alloc tyZ41 rfl ?_
     intro g2 w17 hN2
     replace hS1 := hS1.trans hN2.mod
     replace hbd := hbd.new hN2
     have hge_g2 := New.ge hN2 hm0.size
     replace hm0 := hm0.trans (hN2.mod.mono (by simp))
     replace hn6 := hn6.new hN2
     replace hd6 := hd6.new hN2
     have hne_g1_g2 := hb1.ne_ hN2
     replace hb1 := Blk.gr hb1 hN2.mod
     replace hn9 := hn9.new hN2
     replace hd9 := hd9.new hN2
     replace hn12 := hn12.new hN2
     replace hd12 := hd12.new hN2
     have hb2 := hN2.blk
     clear hN2
     refine L.nil (hX _ _ ⟨.inr hS1, ?_⟩)
     refine D.one 4 rfl (by decide +kernel) (fun hX => ?_)
     refine L.buildSlice (cells := [.int .i64 0, .bool (decide ((((1 : Int)) : Rat).num < 0)), .slice A6 (toL (((1 : Int)) : Rat).num.natAbs).length c6, .slice B6 (toL (((1 : Int)) : Rat).den).length e6, .int .i64 1, .bool (decide ((((-1 : Int)) : Rat).num < 0)), .slice A9 (toL (((-1 : Int)) : Rat).num.natAbs).length c9, .slice B9 (toL (((-1 : Int)) : Rat).den).length e9]) rfl tyS39 tyZ38 (fillT2 _ _ _ _ _ _ _ _ _ _ _ _ _ _ _ _) (by decide) (by decide) rfl ?_
     intro g11 w18 hN11
     replace hS1 := hS1.trans hN11.mod
     replace hbd := hbd.new hN11
     replace hm0 := hm0.trans (hN11.mod.mono (by simp))
     replace hn6 := hn6.new hN11
     replace hd6 := hd6.new hN11
     replace hb1 := Blk.gr hb1 hN11.mod
     replace hn9 := hn9.new hN11
     replace hd9 := hd9.new hN11
     replace hn12 := hn12.new hN11
     replace hd12 := hd12.new hN11
     have hne_g2_g11 := hb2.ne_ hN11
     replace hb2 := Blk.gr hb2 hN11.mod
     have hb11 := hN11.blk
     clear hN11
     refine L.nil (hX _ _ ⟨.inr hS1, ?_⟩)
     refine D.take 6 rfl (by decide +kernel) (fun w_ hS => (R1.build (vs := [.slice (some ⟨g11, 0, none⟩) 2 2, .agg #[.bool (decide ((((0 : Int)) : Rat).num < 0)), .slice A12 (toL (((0 : Int)) : Rat).num.natAbs).length c12, .slice B12 (toL (((0 : Int)) : Rat).den).length e12]]) rfl (built_C12 _ _ _ _ _ _ _ _ _ _))) hS1 rfl <| D.one 8 rfl (by decide +kernel) (fun hX => ?_)
     refine L.storeBox rfl rfl hb2 rfl rfl tyG41 ?_
     intro w19 hb2' hm19
     replace hbd := hbd.gr hm19
     replace hm0 := hm0.old1 hm19 hge_g2
     replace hn6 := hn6.mod hm19 (by simp)
     replace hd6 := hd6.mod hm19 (by simp)
     replace hb1 := Blk.far hb1 hm19 (by first | exact hne_g1_g2 | exact (hne_g2_g1).symm)
     replace hn9 := hn9.mod hm19 (by simp)
     replace hd9 := hd9.mod hm19 (by simp)
     replace hn12 := hn12.mod hm19 (by simp)
     replace hd12 := hd12.mod hm19 (by simp)
     replace hb11 := Blk.far hb11 hm19 (by first | exact hne_g11_g2 | exact (hne_g2_g11).symm)
     clear hm19
     replace hb2 := hb2'; clear hb2'
     refine L.nil (hX _ _ ⟨.inl rfl, ?_⟩)
     refine D.done (by decide +kernel) ?_ _
     refine X.join (g1, g2, g11, A6, c6, B6, e6, A12, c12, B12, e12) ?_ ?_
     · exact ⟨rfl, rfl, trivial⟩
     ·
      have hTA : Lay rdT [] w19 (.slice (some ⟨g11, 0, none⟩) 2 2) kA.ts := Lay.of_blk (css := [[.int .i64 0, .bool (decide ((((1 : Int)) : Rat).num < 0)), .slice A6 (toL (((1 : Int)) : Rat).num.natAbs).length c6, .slice B6 (toL (((1 : Int)) : Rat).den).length e6], [.int .i64 1, .bool (decide ((((-1 : Int)) : Rat).num < 0)), .slice A9 (toL (((-1 : Int)) : Rat).num.natAbs).length c9, .slice B9 (toL (((-1 : Int)) : Rat).den).length e9]]) hb11 ((LayL.one _ (⟨0, QR.nf (((1 : Int)) : Rat)⟩ : TR) (rdT_mk (t := ⟨0, QR.nf (((1 : Int)) : Rat)⟩) (hn6.sub (M' := []) (fun b hb => by cases hb)) (hd6.sub (M' := []) (fun b hb => by cases hb)))).append (LayL.one _ (⟨1, QR.nf (((-1 : Int)) : Rat)⟩ : TR) (rdT_mk (t := ⟨1, QR.nf (((-1 : Int)) : Rat)⟩) (hn9.sub (M' := []) (fun b hb => by cases hb)) (hd9.sub (M' := []) (fun b hb => by cases hb))))) rfl rfl (by decide) (by simp)
      exact ⟨hn6.sub (fun b hb => by cases hb), hd6.sub (fun b hb => by cases hb), hb1, hTA.sub (fun b hb => by cases hb), hn12.sub (fun b hb => by cases hb), hd12.sub (fun b hb => by cases hb), hb2, hne_g1_g2, hbd.sub (fun b hb => by cases hb), hm0⟩
   ·
    refine ⟨_, rfl, fun hX => ?_⟩
    refine L.alloc tyZ41 rfl ?_
    intro g2 w20 hN2
    replace hS1 := hS1.trans hN2.mod
    replace hbd := hbd.new hN2
    have hge_g2 := New.ge hN2 hm0.size
    replace hm0 := hm0.trans (hN2.mod.mono (by simp))
    replace hn6 := hn6.new hN2
    replace hd6 := hd6.new hN2
    have hne_g1_g2 := hb1.ne_ hN2
    replace hb1 := Blk.gr hb1 hN2.mod
    replace hn9 := hn9.new hN2
    replace hd9 := hd9.new hN2
    have hb2 := hN2.blk
    clear hN2
    refine L.nil (hX _ _ ⟨.inr hS1, ?_⟩)
    refine D.many (rs := [4, 5]) (by decide +kernel) rfl ?_
    intro i_ hi_
    simp only [List.mem_cons, List.not_mem_nil, or_false] at hi_
    rcases hi_ with rfl | rfl
    ·
     refine ⟨_, rfl, fun hX => ?_⟩
     refine L.buildSlice (cells := [.int .i64 0, .bool (decide ((((1 : Int)) : Rat).num < 0)), .slice A6 (toL (((1 : Int)) : Rat).num.natAbs).length c6, .slice B6 (toL (((1 : Int)) : Rat).den).length e6, .int .i64 1, .bool (decide ((((-1 : Int)) : Rat).num < 0)), .slice A9 (toL (((-1 : Int)) : Rat).num.natAbs).length c9, .slice B9 (toL (((-1 : Int)) : Rat).den).length e9]) rfl tyS39 tyZ38 (fillT2 _ _ _ _ _ _ _ _ _ _ _ _ _ _ _ _) (by decide) (by decide) rfl ?_
     intro g11 w21 hN11
     replace hS1 := hS1.trans hN11.mod
     replace hbd := hbd.new hN11
     replace hm0 := hm0.trans (hN11.mod.mono (by simp))
     replace hn6 := hn6.new hN11
     replace hd6 := hd6.new hN11
     replace hb1 := Blk.gr hb1 hN11.mod
     replace hn9 := hn9.new hN11
     replace hd9 := hd9.new hN11
     have hne_g2_g11 := hb2.ne_ hN11
     replace hb2 := Blk.gr hb2 hN11.mod
     have hb11 := hN11.blk
     clear hN11
     refine L.nil (hX _ _ ⟨.inr hS1, ?_⟩)
     refine D.one 5 rfl (by decide +kernel) (fun hX => ?_)
     refine L.call rfl (c_ref2_Int (n := 0) (by decide) (by decide) hbd) rfl ?_
     rintro _ w22 ⟨⟨A12, c12, B12, e12, rfl, hn12, hd12⟩, hm22⟩
     replace hbd := hbd.gr hm22
     replace hm0 := hm0.trans hm22
     replace hn6 := hn6.gr hm22
     replace hd6 := hd6.gr hm22
     replace hb1 := Blk.gr hb1 hm22
     replace hn9 := hn9.gr hm22
     replace hd9 := hd9.gr hm22
     replace hb2 := Blk.gr hb2 hm22
     replace hb11 := Blk.gr hb11 hm22
     replace hS1 := hS1.trans hm22
     clear hm22
     have F12 := Fit.int (n := 0) (by decide) (by decide)
     refine L.nil (hX _ _ ⟨.inr hS1, ?_⟩)
     refine D.take 6 rfl (by decide +kernel) (fun w_ hS => (R1.build (vs := [.slice (some ⟨g11, 0, none⟩) 2 2, .agg #[.bool (decide ((((0 : Int)) : Rat).num < 0)), .slice A12 (toL (((0 : Int)) : Rat).num.natAbs).length c12, .slice B12 (toL (((0 : Int)) : Rat).den).length e12]]) rfl (built_C12 _ _ _ _ _ _ _ _ _ _))) hS1 rfl <| D.one 8 rfl (by decide +kernel) (fun hX => ?_)
     refine L.storeBox rfl rfl hb2 rfl rfl tyG41 ?_
     intro w23 hb2' hm23
     replace hbd := hbd.gr hm23
     replace hm0 := hm0.old1 hm23 hge_g2
     replace hn6 := hn6.mod hm23 (by simp)
     replace hd6 := hd6.mod hm23 (by simp)
     replace hb1 := Blk.far hb1 hm23 (by first | exact hne_g1_g2 | exact (hne_g2_g1).symm)
     replace hn9 := hn9.mod hm23 (by simp)
     replace hd9 := hd9.mod hm23 (by simp)
     replace hb11 := Blk.far hb11 hm23 (by first | exact hne_g11_g2 | exact (hne_g2_g11).symm)
     replace hn12 := hn12.mod hm23 (by simp)
     replace hd12 := hd12.mod hm23 (by simp)
     clear hm23
     replace hb2 := hb2'; clear hb2'
     refine L.nil (hX _ _ ⟨.inl rfl, ?_⟩)
     refine D.done (by decide +kernel) ?_ _
     refine X.join (g1, g2, g11, A6, c6, B6, e6, A12, c12, B12, e12) ?_ ?_
     · exact ⟨rfl, rfl, trivial⟩
     ·
      have hTA : Lay rdT [] w23 (.slice (some ⟨g11, 0, none⟩) 2 2) kA.ts := Lay.of_blk (css := [[.int .i64 0, .bool (decide ((((1 : Int)) : Rat).num < 0)), .slice A6 (toL (((1 : Int)) : Rat).num.natAbs).length c6, .slice B6 (toL (((1 : Int)) : Rat).den).length e6], [.int .i64 1, .bool (decide ((((-1 : Int)) : Rat).num < 0)), .slice A9 (toL (((-1 : Int)) : Rat).num.natAbs).length c9, .slice B9 (toL (((-1 : Int)) : Rat).den).length e9]]) hb11 ((LayL.one _ (⟨0, QR.nf (((1 : Int)) : Rat)⟩ : TR) (rdT_mk (t := ⟨0, QR.nf (((1 : Int)) : Rat)⟩) (hn6.sub (M' := []) (fun b hb => by cases hb)) (hd6.sub (M' := []) (fun b hb => by cases hb)))).append (LayL.one _ (⟨1, QR.nf (((-1 : Int)) : Rat)⟩ : TR) (rdT_mk (t := ⟨1, QR.nf (((-1 : Int)) : Rat)⟩) (hn9.sub (M' := []) (fun b hb => by cases hb)) (hd9.sub (M' := []) (fun b hb => by cases hb))))) rfl rfl (by decide) (by simp)
      exact ⟨hn6.sub (fun b hb => by cases hb), hd6.sub (fun b hb => by cases hb), hb1, hTA.sub (fun b hb => by cases hb), hn12.sub (fun b hb => by cases hb), hd12.sub (fun b hb => by cases hb), hb2, hne_g1_g2, hbd.sub (fun b hb => by cases hb), hm0⟩
    ·
     refine ⟨_, rfl, fun hX => ?_⟩
     refine L.call rfl (c_ref2_Int (n := 0) (by decide) (by decide) hbd) rfl ?_
     rintro _ w24 ⟨⟨A12, c12, B12, e12, rfl, hn12, hd12⟩, hm24⟩
     replace hbd := hbd.gr hm24
     replace hm0 := hm0.trans hm24
     replace hn6 := hn6.gr hm24
     replace hd6 := hd6.gr hm24
     replace hb1 := Blk.gr hb1 hm24
     replace hn9 := hn9.gr hm24
     replace hd9 := hd9.gr hm24
     replace hb2 := Blk.gr hb2 hm24
     replace hS1 := hS1.trans hm24
     clear hm24
     have F12 := Fit.int (n := 0) (by decide) (by decide)
     refine L.nil (hX _ _ ⟨.inr hS1, ?_⟩)
     refine D.one 4 rfl (by decide +kernel) (fun hX => ?_)
     refine L.buildSlice (cells := [.int .i64 0, .bool (decide ((((1 : Int)) : Rat).num < 0)), .slice A6 (toL (((1 : Int)) : Rat).num.natAbs).length c6, .slice B6 (toL (((1 : Int)) : Rat).den).length e6, .int .i64 1, .bool (decide ((((-1 : Int)) : Rat).num < 0)), .slice A9 (toL (((-1 : Int)) : Rat).num.natAbs).length c9, .slice B9 (toL (((-1 : Int)) : Rat).den).length e9]) rfl tyS39 tyZ38 (fillT2 _ _ _ _ _ _ _ _ _ _ _ _ _ _ _ _) (by decide) (by decide) rfl ?_
     intro g11 w25 hN11
     replace hS1 := hS1.trans hN11.mod
     replace hbd := hbd.new hN11
     replace hm0 := hm0.trans (hN11.mod.mono (by simp))
     replace hn6 := hn6.new hN11
     replace hd6 := hd6.new hN11
     replace hb1 := Blk.gr hb1 hN11.mod
     replace hn9 := hn9.new hN11
     replace hd9 := hd9.new hN11
     have hne_g2_g11 := hb2.ne_ hN11
     replace hb2 := Blk.gr hb2 hN11.mod
     replace hn12 := hn12.new hN11
     replace hd12 := hd12.new hN11
     have hb11 := hN11.blk
     clear hN11
     refine L.nil (hX _ _ ⟨.inr hS1, ?_⟩)
     refine D.take 6 rfl (by decide +kernel) (fun w_ hS => (R1.build (vs := [.slice (some ⟨g11, 0, none⟩) 2 2, .agg #[.bool (decide ((((0 : Int)) : Rat).num < 0)), .slice A12 (toL (((0 : Int)) : Rat).num.natAbs).length c12, .slice B12 (toL (((0 : Int)) : Rat).den).length e12]]) rfl (built_C12 _ _ _ _ _ _ _ _ _ _))) hS1 rfl <| D.one 8 rfl (by decide +kernel) (fun hX => ?_)
     refine L.storeBox rfl rfl hb2 rfl rfl tyG41 ?_
     intro w26 hb2' hm26
     replace hbd := hbd.gr hm26
     replace hm0 := hm0.old1 hm26 hge_g2
     replace hn6 := hn6.mod hm26 (by simp)
     replace hd6 := hd6.mod hm26 (by simp)
     replace hb1 := Blk.far hb1 hm26 (by first | exact hne_g1_g2 | exact (hne_g2_g1).symm)
     replace hn9 := hn9.mod hm26 (by simp)
     replace hd9 := hd9.mod hm26 (by simp)
     replace hn12 := hn12.mod hm26 (by simp)
     replace hd12 := hd12.mod hm26 (by simp)
     replace hb11 := Blk.far hb11 hm26 (by first | exact hne_g11_g2 | exact (hne_g2_g11).symm)
     clear hm26
     replace hb2 := hb2'; clear hb2'
     refine L.nil (hX _ _ ⟨.inl rfl, ?_⟩)
     refine D.done (by decide +kernel) ?_ _
     refine X.join (g1, g2, g11, A6, c6, B6, e6, A12, c12, B12, e12) ?_ ?_
     · exact ⟨rfl, rfl, trivial⟩
     ·
      have hTA : Lay rdT [] w26 (.slice (some ⟨g11, 0, none⟩) 2 2) kA.ts := Lay.of_blk (css := [[.int .i64 0, .bool (decide ((((1 : Int)) : Rat).num < 0)), .slice A6 (toL (((1 : Int)) : Rat).num.natAbs).length c6, .slice B6 (toL (((1 : Int)) : Rat).den).length e6], [.int .i64 1, .bool (decide ((((-1 : Int)) : Rat).num < 0)), .slice A9 (toL (((-1 : Int)) : Rat).num.natAbs).length c9, .slice B9 (toL (((-1 : Int)) : Rat).den).length e9]]) hb11 ((LayL.one _ (⟨0, QR.nf (((1 : Int)) : Rat)⟩ : TR) (rdT_mk (t := ⟨0, QR.nf (((1 : Int)) : Rat)⟩) (hn6.sub (M' := []) (fun b hb => by cases hb)) (hd6.sub (M' := []) (fun b hb => by cases hb)))).append (LayL.one _ (⟨1, QR.nf (((-1 : Int)) : Rat)⟩ : TR) (rdT_mk (t := ⟨1, QR.nf (((-1 : Int)) : Rat)⟩) (hn9.sub (M' := []) (fun b hb => by cases hb)) (hd9.sub (M' := []) (fun b hb => by cases hb))))) rfl rfl (by decide) (by simp)
      exact ⟨hn6.sub (fun b hb => by cases hb), hd6.sub (fun b hb => by cases hb), hb1, hTA.sub (fun b hb => by cases hb), hn12.sub (fun b hb => by cases hb), hd12.sub (fun b hb => by cases hb), hb2, hne_g1_g2, hbd.sub (fun b hb => by cases hb), hm0⟩
  ·
   refine ⟨_, rfl, fun hX => ?_⟩
   refine L.alloc tyZ41 rfl ?_
   intro g2 w27 hN2
   replace hS1 := hS1.trans hN2.mod
   replace hbd := hbd.new hN2
   have hge_g2 := New.ge hN2 hm0.size
   replace hm0 := hm0.trans (hN2.mod.mono (by simp))
   replace hn6 := hn6.new hN2
   replace hd6 := hd6.new hN2
   have hne_g1_g2 := hb1.ne_ hN2
   replace hb1 := Blk.gr hb1 hN2.mod
   have hb2 := hN2.blk
   clear hN2
   refine L.nil (hX _ _ ⟨.inr hS1, ?_⟩)
   refine D.one 2 rfl (by decide +kernel) (fun hX => ?_)
   refine L.call rfl (c_ref2_Int (n := -1) (by decide) (by decide) hbd) rfl ?_
   rintro _ w28 ⟨⟨A9, c9, B9, e9, rfl, hn9, hd9⟩, hm28⟩
   replace hbd := hbd.gr hm28
   replace hm0 := hm0.trans hm28
   replace hn6 := hn6.gr hm28
   replace hd6 := hd6.gr hm28
   replace hb1 := Blk.gr hb1 hm28
   replace hb2 := Blk.gr hb2 hm28
   replace hS1 := hS1.trans hm28
   clear hm28
   have F9 := Fit.int (n := -1) (by decide) (by decide)
   refine L.nil (hX _ _ ⟨.inr hS1, ?_⟩)
   refine D.take 3 rfl (by decide +kernel) (fun w_ hS => (R1.build (vs := [.int .i64 1, .agg #[.bool (decide ((((-1 : Int)) : Rat).num < 0)), .slice A9 (toL (((-1 : Int)) : Rat).num.natAbs).length c9, .slice B9 (toL (((-1 : Int)) : Rat).den).length e9]]) rfl (built_T01 _ _ _ _ _ _ _ _))) hS1 rfl <| D.many (rs := [4, 5]) (by decide +kernel) rfl ?_
   intro i_ hi_
   simp only [List.mem_cons, List.not_mem_nil, or_false] at hi_
   rcases hi_ with rfl | rfl
   ·
    refine ⟨_, rfl, fun hX => ?_⟩
    refine L.buildSlice (cells := [.int .i64 0, .bool (decide ((((1 : Int)) : Rat).num < 0)), .slice A6 (toL (((1 : Int)) : Rat).num.natAbs).length c6, .slice B6 (toL (((1 : Int)) : Rat).den).length e6, .int .i64 1, .bool (decide ((((-1 : Int)) : Rat).num < 0)), .slice A9 (toL (((-1 : Int)) : Rat).num.natAbs).length c9, .slice B9 (toL (((-1 : Int)) : Rat).den).length e9]) rfl tyS39 tyZ38 (fillT2 _ _ _ _ _ _ _ _ _ _ _ _ _ _ _ _) (by decide) (by decide) rfl ?_
    intro g11 w29 hN11
    replace hS1 := hS1.trans hN11.mod
    replace hbd := hbd.new hN11
    replace hm0 := hm0.trans (hN11.mod.mono (by simp))
    replace hn6 := hn6.new hN11
    replace hd6 := hd6.new hN11
    replace hb1 := Blk.gr hb1 hN11.mod
    have hne_g2_g11 := hb2.ne_ hN11
    replace hb2 := Blk.gr hb2 hN11.mod
    replace hn9 := hn9.new hN11
    replace hd9 := hd9.new hN11
    have hb11 := hN11.blk
    clear hN11
    refine L.nil (hX _ _ ⟨.inr hS1, ?_⟩)
    refine D.one 5 rfl (by decide +kernel) (fun hX => ?_)
    refine L.call rfl (c_ref2_Int (n := 0) (by decide) (by decide) hbd) rfl ?_
    rintro _ w30 ⟨⟨A12, c12, B12, e12, rfl, hn12, hd12⟩, hm30⟩
    replace hbd := hbd.gr hm30
    replace hm0 := hm0.trans hm30
    replace hn6 := hn6.gr hm30
    replace hd6 := hd6.gr hm30
    replace hb1 := Blk.gr hb1 hm30
    replace hb2 := Blk.gr hb2 hm30
    replace hn9 := hn9.gr hm30
    replace hd9 := hd9.gr hm30
    replace hb11 := Blk.gr hb11 hm30
    replace hS1 := hS1.trans hm30
    clear hm30
    have F12 := Fit.int (n := 0) (by decide) (by decide)
    refine L.nil (hX _ _ ⟨.inr hS1, ?_⟩)
    refine D.take 6 rfl (by decide +kernel) (fun w_ hS => (R1.build (vs := [.slice (some ⟨g11, 0, none⟩) 2 2, .agg #[.bool (decide ((((0 : Int)) : Rat).num < 0)), .slice A12 (toL (((0 : Int)) : Rat).num.natAbs).length c12, .slice B12 (toL (((0 : Int)) : Rat).den).length e12]]) rfl (built_C12 _ _ _ _ _ _ _ _ _ _))) hS1 rfl <| D.one 8 rfl (by decide +kernel) (fun hX => ?_)
    refine L.storeBox rfl rfl hb2 rfl rfl tyG41 ?_
    intro w31 hb2' hm31
    replace hbd := hbd.gr hm31
    replace hm0 := hm0.old1 hm31 hge_g2
    replace hn6 := hn6.mod hm31 (by simp)
    replace hd6 := hd6.mod hm31 (by simp)
    replace hb1 := Blk.far hb1 hm31 (by first | exact hne_g1_g2 | exact (hne_g2_g1).symm)
    replace hn9 := hn9.mod hm31 (by simp)
    replace hd9 := hd9.mod hm31 (by simp)
    replace hb11 := Blk.far hb11 hm31 (by first | exact hne_g11_g2 | exact (hne_g2_g11).symm)
    replace hn12 := hn12.mod hm31 (by simp)
    replace hd12 := hd12.mod hm31 (by simp)
    clear hm31
    replace hb2 := hb2'; clear hb2'
    refine L.nil (hX _ _ ⟨.inl rfl, ?_⟩)
    refine D.done (by decide +kernel) ?_ _
    refine X.join (g1, g2, g11, A6, c6, B6, e6, A12, c12, B12, e12) ?_ ?_
    · exact ⟨rfl, rfl, trivial⟩
    ·
     have hTA : Lay rdT [] w31 (.slice (some ⟨g11, 0, none⟩) 2 2) kA.ts := Lay.of_blk (css := [[.int .i64 0, .bool (decide ((((1 : Int)) : Rat).num < 0)), .slice A6 (toL (((1 : Int)) : Rat).num.natAbs).length c6, .slice B6 (toL (((1 : Int)) : Rat).den).length e6], [.int .i64 1, .bool (decide ((((-1 : Int)) : Rat).num < 0)), .slice A9 (toL (((-1 : Int)) : Rat).num.natAbs).length c9, .slice B9 (toL (((-1 : Int)) : Rat).den).length e9]]) hb11 ((LayL.one _ (⟨0, QR.nf (((1 : Int)) : Rat)⟩ : TR) (rdT_mk (t := ⟨0, QR.nf (((1 : Int)) : Rat)⟩) (hn6.sub (M' := []) (fun b hb => by cases hb)) (hd6.sub (M' := []) (fun b hb => by cases hb)))).append (LayL.one _ (⟨1, QR.nf (((-1 : Int)) : Rat)⟩ : TR) (rdT_mk (t := ⟨1, QR.nf (((-1 : Int)) : Rat)⟩) (hn9.sub (M' := []) (fun b hb => by cases hb)) (hd9.sub (M' := []) (fun b hb => by cases hb))))) rfl rfl (by decide) (by simp)
     exact ⟨hn6.sub (fun b hb => by cases hb), hd6.sub (fun b hb => by cases hb), hb1, hTA.sub (fun b hb => by cases hb), hn12.sub (fun b hb => by cases hb), hd12.sub (fun b hb => by cases hb), hb2, hne_g1_g2, hbd.sub (fun b hb => by cases hb), hm0⟩
   ·
    refine ⟨_, rfl, fun hX => ?_⟩
    refine L.call rfl (c_ref2_Int (n := 0) (by decide) (by decide) hbd) rfl ?_
    rintro _ w32 ⟨⟨A12, c12, B12, e12, rfl, hn12, hd12⟩, hm32⟩
    replace hbd := hbd.gr hm32
    replace hm0 := hm0.trans hm32
    replace hn6 := hn6.gr hm32
    replace hd6 := hd6.gr hm32
    replace hb1 := Blk.gr hb1 hm32
    replace hb2 := Blk.gr hb2 hm32
    replace hn9 := hn9.gr hm32
    replace hd9 := hd9.gr hm32
    replace hS1 := hS1.trans hm32
    clear hm32
    have F12 := Fit.int (n := 0) (by decide) (by decide)
    refine L.nil (hX _ _ ⟨.inr hS1, ?_⟩)
    refine D.one 4 rfl (by decide +kernel) (fun hX => ?_)
    refine L.buildSlice (cells := [.int .i64 0, .bool (decide ((((1 : Int)) : Rat).num < 0)), .slice A6 (toL (((1 : Int)) : Rat).num.natAbs).length c6, .slice B6 (toL (((1 : Int)) : Rat).den).length e6, .int .i64 1, .bool (decide ((((-1 : Int)) : Rat).num < 0)), .slice A9 (toL (((-1 : Int)) : Rat).num.natAbs).length c9, .slice B9 (toL (((-1 : Int)) : Rat).den).length e9]) rfl tyS39 tyZ38 (fillT2 _ _ _ _ _ _ _ _ _ _ _ _ _ _ _ _) (by decide) (by decide) rfl ?_
    intro g11 w33 hN11
    replace hS1 := hS1.trans hN11.mod
    replace hbd := hbd.new hN11
    replace hm0 := hm0.trans (hN11.mod.mono (by simp))
    replace hn6 := hn6.new hN11
    replace hd6 := hd6.new hN11
    replace hb1 := Blk.gr hb1 hN11.mod
    have hne_g2_g11 := hb2.ne_ hN11
    replace hb2 := Blk.gr hb2 hN11.mod
    replace hn9 := hn9.new hN11
    replace hd9 := hd9.new hN11
    replace hn12 := hn12.new hN11
    replace hd12 := hd12.new hN11
    have hb11 := hN11.blk
    clear hN11
    refine L.nil (hX _ _ ⟨.inr hS1, ?_⟩)
    refine D.take 6 rfl (by decide +kernel) (fun w_ hS => (R1.build (vs := [.slice (some ⟨g11, 0, none⟩) 2 2, .agg #[.bool (decide ((((0 : Int)) : Rat).num < 0)), .slice A12 (toL (((0 : Int)) : Rat).num.natAbs).length c12, .slice B12 (toL (((0 : Int)) : Rat).den).length e12]]) rfl (built_C12 _ _ _ _ _ _ _ _ _ _))) hS1 rfl <| D.one 8 rfl (by decide +kernel) (fun hX => ?_)
    refine L.storeBox rfl rfl hb2 rfl rfl tyG41 ?_
    intro w34 hb2' hm34
    replace hbd := hbd.gr hm34
    replace hm0 := hm0.old1 hm34 hge_g2
    replace hn6 := hn6.mod hm34 (by simp)
    replace hd6 := hd6.mod hm34 (by simp)
    replace hb1 := Blk.far hb1 hm34 (by first | exact hne_g1_g2 | exact (hne_g2_g1).symm)
    replace hn9 := hn9.mod hm34 (by simp)
    replace hd9 := hd9.mod hm34 (by simp)
    replace hn12 := hn12.mod hm34 (by simp)
    replace hd12 := hd12.mod hm34 (by simp)
    replace hb11 := Blk.far hb11 hm34 (by first | exact hne_g11_g2 | exact (hne_g2_g11).symm)
    clear hm34
    replace hb2 := hb2'; clear hb2'
    refine L.nil (hX _ _ ⟨.inl rfl, ?_⟩)
    refine D.done (by decide +kernel) ?_ _
    refine X.join (g1, g2, g11, A6, c6, B6, e6, A12, c12, B12, e12) ?_ ?_
    · exact ⟨rfl, rfl, trivial⟩
    ·
     have hTA : Lay rdT [] w34 (.slice (some ⟨g11, 0, none⟩) 2 2) kA.ts := Lay.of_blk (css := [[.int .i64 0, .bool (decide ((((1 : Int)) : Rat).num < 0)), .slice A6 (toL (((1 : Int)) : Rat).num.natAbs).length c6, .slice B6 (toL (((1 : Int)) : Rat).den).length e6], [.int .i64 1, .bool (decide ((((-1 : Int)) : Rat).num < 0)), .slice A9 (toL (((-1 : Int)) : Rat).num.natAbs).length c9, .slice B9 (toL (((-1 : Int)) : Rat).den).length e9]]) hb11 ((LayL.one _ (⟨0, QR.nf (((1 : Int)) : Rat)⟩ : TR) (rdT_mk (t := ⟨0, QR.nf (((1 : Int)) : Rat)⟩) (hn6.sub (M' := []) (fun b hb => by cases hb)) (hd6.sub (M' := []) (fun b hb => by cases hb)))).append (LayL.one _ (⟨1, QR.nf (((-1 : Int)) : Rat)⟩ : TR) (rdT_mk (t := ⟨1, QR.nf (((-1 : Int)) : Rat)⟩) (hn9.sub (M' := []) (fun b hb => by cases hb)) (hd9.sub (M' := []) (fun b hb => by cases hb))))) rfl rfl (by decide) (by simp)
     exact ⟨hn6.sub (fun b hb => by cases hb), hd6.sub (fun b hb => by cases hb), hb1, hTA.sub (fun b hb => by cases hb), hn12.sub (fun b hb => by cases hb), hd12.sub (fun b hb => by cases hb), hb2, hne_g1_g2, hbd.sub (fun b hb => by cases hb), hm0⟩
 ·
  rintro ⟨g1, g2, g11, A6, c6, B6, e6, A12, c12, B12, e12⟩ wj ⟨hn6, hd6, hb1, hTA, hn12, hd12, hb2, hne_g1_g2, hbd, hm0⟩
  refine X.seq <| W.seq <| W.cut (ι := Nat × Nat × Nat × Nat × Nat × Option Addr × Nat × Option Addr × Nat × Option Addr × Nat × Option Addr × Nat × Option Addr × Nat × Option Addr × Nat) (fun (g1, g2, g11, g3, g16, A6, c6, B6, e6, A12, c12, B12, e12, A17, c17, B17, e17) => [(1, .pointer (some ⟨g1, 0, none⟩)), (2, .pointer (some ⟨g2, 0, none⟩)), (3, .pointer (some ⟨g3, 0, none⟩))]) (fun (g1, g2, g11, g3, g16, A6, c6, B6, e6, A12, c12, B12, e12, A17, c17, B17, e17) w_ => U32 [] w_ (.slice A6 (toL (((1 : Int)) : Rat).num.natAbs).length c6) (toL (((1 : Int)) : Rat).num.natAbs) ∧ U32 [] w_ (.slice B6 (toL (((1 : Int)) : Rat).den).length e6) (toL (((1 : Int)) : Rat).den) ∧ Blk w_ g1 35 #[.bool (decide ((((1 : Int)) : Rat).num < 0)), .slice A6 (toL (((1 : Int)) : Rat).num.natAbs).length c6, .slice B6 (toL (((1 : Int)) : Rat).den).length e6] ∧ Lay rdT [] w_ (.slice (some ⟨g11, 0, none⟩) 2 2) kA.ts ∧ U32 [] w_ (.slice A12 (toL (((0 : Int)) : Rat).num.natAbs).length c12) (toL (((0 : Int)) : Rat).num.natAbs) ∧ U32 [] w_ (.slice B12 (toL (((0 : Int)) : Rat).den).length e12) (toL (((0 : Int)) : Rat).den) ∧ Blk w_ g2 41 #[.int .i64 0, .slice (some ⟨g11, 0, none⟩) 2 2, .bool (decide ((((0 : Int)) : Rat).num < 0)), .slice A12 (toL (((0 : Int)) : Rat).num.natAbs).length c12, .slice B12 (toL (((0 : Int)) : Rat).den).length e12] ∧ g1 ≠ g2 ∧ Lay rdT [] w_ (.slice (some ⟨g16, 0, none⟩) 1 1) kW.ts ∧ U32 [] w_ (.slice A17 (toL (((-5 : Int)) : Rat).num.natAbs).length c17) (toL (((-5 : Int)) : Rat).num.natAbs) ∧ U32 [] w_ (.slice B17 (toL (((-5 : Int)) : Rat).den).length e17) (toL (((-5 : Int)) : Rat).den) ∧ Blk w_ g3 41 #[.int .i64 3, .slice (some ⟨g16, 0, none⟩) 1 1, .bool (decide ((((-5 : Int)) : Rat).num < 0)), .slice A17 (toL (((-5 : Int)) : Rat).num.natAbs).length c17, .slice B17 (toL (((-5 : Int)) : Rat).den).length e17] ∧ Bd [] w_ ∧ Mod [] w w_) ?_ ?_
  ·
   have F6 : Fit (((1 : Int)) : Rat) 2 := Fit.int (by decide) (by decide)
   refine W.drawW (T := [6]) rfl (by decide +kernel) (NoHang.join (NoHang.then NoHang.post)) (fun w35 hm35 => ?_)
   replace hn6 := hn6.gr hm35
   replace hd6 := hd6.gr hm35
   replace hb1 := Blk.gr hb1 hm35
   replace hTA := hTA.gr hm35
   replace hn12 := hn12.gr hm35
   replace hd12 := hd12.gr hm35
   replace hb2 := Blk.gr hb2 hm35
   replace hbd := hbd.gr hm35
   replace hm0 := hm0.trans hm35
   have hS2 : Mod [] w35 w35 := Mod.refl _ _
   clear hm35
   have hb1_s := hb1
   refine D.take 0 rfl (by decide +kernel) (fun w_ hS => (R1.loadBox rfl (Blk.gr hb1_s hS) tyG35)) hS2 rfl <| D.take 1 rfl (by decide +kernel) (fun w_ hS => (R1.build (vs := [.int .i64 0, .agg #[.bool (decide ((((1 : Int)) : Rat).num < 0)), .slice A6 (toL (((1 : Int)) : Rat).num.natAbs).length c6, .slice B6 (toL (((1 : Int)) : Rat).den).length e6]]) rfl (built_T01 _ _ _ _ _ _ _ _))) hS2 rfl <| D.many (rs := [2, 3, 5]) (by decide +kernel) rfl ?_
   intro i_ hi_
   simp only [List.mem_cons, List.not_mem_nil, or_false] at hi_
   rcases hi_ with rfl | rfl | rfl
   ·
    refine ⟨_, rfl, fun hX => ?_⟩
    refine L.buildSlice (cells := [.int .i64 0, .bool (decide ((((1 : Int)) : Rat).num < 0)), .slice A6 (toL (((1 : Int)) : Rat).num.natAbs).length c6, .slice B6 (toL (((1 : Int)) : Rat).den).length e6]) rfl tyS39 tyZ38 (fillN1 _ _ _ _ _ _ _ _) (by decide) (by decide) rfl ?_
    intro g16 w36 hN16
    replace hS2 := hS2.trans hN16.mod
    replace hn6 := hn6.new hN16
    replace hd6 := hd6.new hN16
    replace hb1 := Blk.gr hb1 hN16.mod
    replace hTA := hTA.new hN16
    replace hn12 := hn12.new hN16
    replace hd12 := hd12.new hN16
    replace hb2 := Blk.gr hb2 hN16.mod
    replace hbd := hbd.new hN16
    replace hm0 := hm0.trans (hN16.mod.mono (by simp))
    have hb16 := hN16.blk
    clear hN16
    refine L.nil (hX _ _ ⟨.inr hS2, ?_⟩)
    refine D.many (rs := [3, 5]) (by decide +kernel) rfl ?_
    intro i_ hi_
    simp only [List.mem_cons, List.not_mem_nil, or_false] at hi_
    rcases hi_ with rfl | rfl
    ·
     refine ⟨_, rfl, fun hX => ?_⟩
     refine L.call rfl (c_ref2_Int (n := -5) (by decide) (by decide) hbd) rfl ?_
     rintro _ w37 ⟨⟨A17, c17, B17, e17, rfl, hn17, hd17⟩, hm37⟩
     replace hn6 := hn6.gr hm37
     replace hd6 := hd6.gr hm37
     replace hb1 := Blk.gr hb1 hm37
     replace hTA := hTA.gr hm37
     replace hn12 := hn12.gr hm37
     replace hd12 := hd12.gr hm37
     replace hb2 := Blk.gr hb2 hm37
     replace hbd := hbd.gr hm37
     replace hm0 := hm0.trans hm37
     replace hb16 := Blk.gr hb16 hm37
     replace hS2 := hS2.trans hm37
     clear hm37
     have F17 := Fit.int (n := -5) (by decide) (by decide)
     refine L.nil (hX _ _ ⟨.inr hS2, ?_⟩)
     refine D.take 4 rfl (by decide +kernel) (fun w_ hS => (R1.build (vs := [.int .i64 3, .slice (some ⟨g16, 0, none⟩) 1 1, .agg #[.bool (decide ((((-5 : Int)) : Rat).num < 0)), .slice A17 (toL (((-5 : Int)) : Rat).num.natAbs).length c17, .slice B17 (toL (((-5 : Int)) : Rat).den).length e17]]) rfl (built_C012 _ _ _ _ _ _ _ _ _ _ _))) hS2 rfl <| D.one 5 rfl (by decide +kernel) (fun hX => ?_)
     refine L.alloc tyZ41 rfl ?_
     intro g3 w38 hN3
     replace hS2 := hS2.trans hN3.mod
     replace hn6 := hn6.new hN3
     replace hd6 := hd6.new hN3
     have hne_g1_g3 := hb1.ne_ hN3
     replace hb1 := Blk.gr hb1 hN3.mod
     replace hTA := hTA.new hN3
     replace hn12 := hn12.new hN3
     replace hd12 := hd12.new hN3
     have hne_g2_g3 := hb2.ne_ hN3
     replace hb2 := Blk.gr hb2 hN3.mod
     replace hbd := hbd.new hN3
     have hge_g3 := New.ge hN3 hm0.size
     replace hm0 := hm0.trans (hN3.mod.mono (by simp))
     have hne_g16_g3 := hb16.ne_ hN3
     replace hb16 := Blk.gr hb16 hN3.mod
     replace hn17 := hn17.new hN3
     replace hd17 := hd17.new hN3
     have hb3 := hN3.blk
     clear hN3
     refine L.nil (hX _ _ ⟨.inr hS2, ?_⟩)
     refine D.one 6 rfl (by decide +kernel) (fun hX => ?_)
     refine L.storeBox rfl rfl hb3 rfl rfl tyG41 ?_
     intro w39 hb3' hm39
     replace hn6 := hn6.mod hm39 (by simp)
     replace hd6 := hd6.mod hm39 (by simp)
     replace hb1 := Blk.far hb1 hm39 (by first | exact hne_g1_g3 | exact (hne_g3_g1).symm)
     replace hTA := hTA.mod hm39 (by simp)
     replace hn12 := hn12.mod hm39 (by simp)
     replace hd12 := hd12.mod hm39 (by simp)
     replace hb2 := Blk.far hb2 hm39 (by first | exact hne_g2_g3 | exact (hne_g3_g2).symm)
     replace hbd := hbd.gr hm39
     replace hm0 := hm0.old1 hm39 hge_g3
     replace hb16 := Blk.far hb16 hm39 (by first | exact hne_g16_g3 | exact (hne_g3_g16).symm)
     replace hn17 := hn17.mod hm39 (by simp)
     replace hd17 := hd17.mod hm39 (by simp)
     clear hm39
     replace hb3 := hb3'; clear hb3'
     refine L.nil (hX _ _ ⟨.inl rfl, ?_⟩)
     refine D.done (by decide +kernel) ?_ _
     refine X.join (g1, g2, g11, g3, g16, A6, c6, B6, e6, A12, c12, B12, e12, A17, c17, B17, e17) ?_ ?_
     · exact ⟨rfl, rfl, rfl, trivial⟩
     ·
      have hTB : Lay rdT [] w39 (.slice (some ⟨g16, 0, none⟩) 1 1) kW.ts := Lay.of_blk (css := [[.int .i64 0, .bool (decide ((((1 : Int)) : Rat).num < 0)), .slice A6 (toL (((1 : Int)) : Rat).num.natAbs).length c6, .slice B6 (toL (((1 : Int)) : Rat).den).length e6]]) hb16 (LayL.one _ (⟨0, QR.nf (((1 : Int)) : Rat)⟩ : TR) (rdT_mk (t := ⟨0, QR.nf (((1 : Int)) : Rat)⟩) (hn6.sub (M' := []) (fun b hb => by cases hb)) (hd6.sub (M' := []) (fun b hb => by cases hb)))) rfl rfl (by decide) (by simp)
      exact ⟨hn6.sub (fun b hb => by cases hb), hd6.sub (fun b hb => by cases hb), hb1, hTA.sub (fun b hb => by cases hb), hn12.sub (fun b hb => by cases hb), hd12.sub (fun b hb => by cases hb), hb2, hne_g1_g2, hTB.sub (fun b hb => by cases hb), hn17.sub (fun b hb => by cases hb), hd17.sub (fun b hb => by cases hb), hb3, hbd.sub (fun b hb => by cases hb), hm0⟩
    ·
     refine ⟨_, rfl, fun hX => ?_⟩
     refine L.alloc tyZ41 rfl ?_
     intro g3 w40 hN3
     replace hS2 := hS2.trans hN3.mod
     replace hn6 := hn6.new hN3
     replace hd6 := hd6.new hN3
     have hne_g1_g3 := hb1.ne_ hN3
     replace hb1 := Blk.gr hb1 hN3.mod
     replace hTA := hTA.new hN3
     replace hn12 := hn12.new hN3
     replace hd12 := hd12.new hN3
     have hne_g2_g3 := hb2.ne_ hN3
     replace hb2 := Blk.gr hb2 hN3.mod
     replace hbd := hbd.new hN3
     have hge_g3 := New.ge hN3 hm0.size
     replace hm0 := hm0.trans (hN3.mod.mono (by simp))
     have hne_g16_g3 := hb16.ne_ hN3
     replace hb16 := Blk.gr hb16 hN3.mod
     have hb3 := hN3.blk
     clear hN3
     refine L.nil (hX _ _ ⟨.inr hS2, ?_⟩)
     refine D.one 3 rfl (by decide +kernel) (fun hX => ?_)
     refine L.call rfl (c_ref2_Int (n := -5) (by decide) (by decide) hbd) rfl ?_
     rintro _ w41 ⟨⟨A17, c17, B17, e17, rfl, hn17, hd17⟩, hm41⟩
     replace hn6 := hn6.gr hm41
     replace hd6 := hd6.gr hm41
     replace hb1 := Blk.gr hb1 hm41
     replace hTA := hTA.gr hm41
     replace hn12 := hn12.gr hm41
     replace hd12 := hd12.gr hm41
     replace hb2 := Blk.gr hb2 hm41
     replace hbd := hbd.gr hm41
     replace hm0 := hm0.trans hm41
     replace hb16 := Blk.gr hb16 hm41
     replace hb3 := Blk.gr hb3 hm41
     replace hS2 := hS2.trans hm41
     clear hm41
     have F17 := Fit.int (n := -5) (by decide) (by decide)
     refine L.nil (hX _ _ ⟨.inr hS2, ?_⟩)
     refine D.take 4 rfl (by decide +kernel) (fun w_ hS => (R1.build (vs := [.int .i64 3, .slice (some ⟨g16, 0, none⟩) 1 1, .agg #[.bool (decide ((((-5 : Int)) : Rat).num < 0)), .slice A17 (toL (((-5 : Int)) : Rat).num.natAbs).length c17, .slice B17 (toL (((-5 : Int)) : Rat).den).length e17]]) rfl (built_C012 _ _ _ _ _ _ _ _ _ _ _))) hS2 rfl <| D.one 6 rfl (by decide +kernel) (fun hX => ?_)
     refine L.storeBox rfl rfl hb3 rfl rfl tyG41 ?_
     intro w42 hb3' hm42
     replace hn6 := hn6.mod hm42 (by simp)
     replace hd6 := hd6.mod hm42 (by simp)
     replace hb1 := Blk.far hb1 hm42 (by first | exact hne_g1_g3 | exact (hne_g3_g1).symm)
     replace hTA := hTA.mod hm42 (by simp)
     replace hn12 := hn12.mod hm42 (by simp)
     replace hd12 := hd12.mod hm42 (by simp)
     replace hb2 := Blk.far hb2 hm42 (by first | exact hne_g2_g3 | exact (hne_g3_g2).symm)
     replace hbd := hbd.gr hm42
     replace hm0 := hm0.old1 hm42 hge_g3
     replace hb16 := Blk.far hb16 hm42 (by first | exact hne_g16_g3 | exact (hne_g3_g16).symm)
     replace hn17 := hn17.mod hm42 (by simp)
     replace hd17 := hd17.mod hm42 (by simp)
     clear hm42
     replace hb3 := hb3'; clear hb3'
     refine L.nil (hX _ _ ⟨.inl rfl, ?_⟩)
     refine D.done (by decide +kernel) ?_ _
     refine X.join (g1, g2, g11, g3, g16, A6, c6, B6, e6, A12, c12, B12, e12, A17, c17, B17, e17) ?_ ?_
     · exact ⟨rfl, rfl, rfl, trivial⟩
     ·
      have hTB : Lay rdT [] w42 (.slice (some ⟨g16, 0, none⟩) 1 1) kW.ts := Lay.of_blk (css := [[.int .i64 0, .bool (decide ((((1 : Int)) : Rat).num < 0)), .slice A6 (toL (((1 : Int)) : Rat).num.natAbs).length c6, .slice B6 (toL (((1 : Int)) : Rat).den).length e6]]) hb16 (LayL.one _ (⟨0, QR.nf (((1 : Int)) : Rat)⟩ : TR) (rdT_mk (t := ⟨0, QR.nf (((1 : Int)) : Rat)⟩) (hn6.sub (M' := []) (fun b hb => by cases hb)) (hd6.sub (M' := []) (fun b hb => by cases hb)))) rfl rfl (by decide) (by simp)
      exact ⟨hn6.sub (fun b hb => by cases hb), hd6.sub (fun b hb => by cases hb), hb1, hTA.sub (fun b hb => by cases hb), hn12.sub (fun b hb => by cases hb), hd12.sub (fun b hb => by cases hb), hb2, hne_g1_g2, hTB.sub (fun b hb => by cases hb), hn17.sub (fun b hb => by cases hb), hd17.sub (fun b hb => by cases hb), hb3, hbd.sub (fun b hb => by cases hb), hm0⟩
   ·
    refine ⟨_, rfl, fun hX => ?_⟩
    refine L.call rfl (c_ref2_Int (n := -5) (by decide) (by decide) hbd) rfl ?_
    rintro _ w43 ⟨⟨A17, c17, B17, e17, rfl, hn17, hd17⟩, hm43⟩
    replace hn6 := hn6.gr hm43
    replace hd6 := hd6.gr hm43
    replace hb1 := Blk.gr hb1 hm43
    replace hTA := hTA.gr hm43
    replace hn12 := hn12.gr hm43
    replace hd12 := hd12.gr hm43
    replace hb2 := Blk.gr hb2 hm43
    replace hbd := hbd.gr hm43
    replace hm0 := hm0.trans hm43
    replace hS2 := hS2.trans hm43
    clear hm43
    have F17 := Fit.int (n := -5) (by decide) (by decide)
    refine L.nil (hX _ _ ⟨.inr hS2, ?_⟩)
    refine D.many (rs := [2, 5]) (by decide +kernel) rfl ?_
    intro i_ hi_
    simp only [List.mem_cons, List.not_mem_nil, or_false] at hi_
    rcases hi_ with rfl | rfl
    ·
     refine ⟨_, rfl, fun hX => ?_⟩
     refine L.buildSlice (cells := [.int .i64 0, .bool (decide ((((1 : Int)) : Rat).num < 0)), .slice A6 (toL (((1 : Int)) : Rat).num.natAbs).length c6, .slice B6 (toL (((1 : Int)) : Rat).den).length e6]) rfl tyS39 tyZ38 (fillN1 _ _ _ _ _ _ _ _) (by decide) (by decide) rfl ?_
     intro g16 w44 hN16
     replace hS2 := hS2.trans hN16.mod
     replace hn6 := hn6.new hN16
     replace hd6 := hd6.new hN16
     replace hb1 := Blk.gr hb1 hN16.mod
     replace hTA := hTA.new hN16
     replace hn12 := hn12.new hN16
     replace hd12 := hd12.new hN16
     replace hb2 := Blk.gr hb2 hN16.mod
     replace hbd := hbd.new hN16
     replace hm0 := hm0.trans (hN16.mod.mono (by simp))
     replace hn17 := hn17.new hN16
     replace hd17 := hd17.new hN16
     have hb16 := hN16.blk
     clear hN16
     refine L.nil (hX _ _ ⟨.inr hS2, ?_⟩)
     refine D.take 4 rfl (by decide +kernel) (fun w_ hS => (R1.build (vs := [.int .i64 3, .slice (some ⟨g16, 0, none⟩) 1 1, .agg #[.bool (decide ((((-5 : Int)) : Rat).num < 0)), .slice A17 (toL (((-5 : Int)) : Rat).num.natAbs).length c17, .slice B17 (toL (((-5 : Int)) : Rat).den).length e17]]) rfl (built_C012 _ _ _ _ _ _ _ _ _ _ _))) hS2 rfl <| D.one 5 rfl (by decide +kernel) (fun hX => ?_)
     refine L.alloc tyZ41 rfl ?_
     intro g3 w45 hN3
     replace hS2 := hS2.trans hN3.mod
     replace hn6 := hn6.new hN3
     replace hd6 := hd6.new hN3
     have hne_g1_g3 := hb1.ne_ hN3
     replace hb1 := Blk.gr hb1 hN3.mod
     replace hTA := hTA.new hN3
     replace hn12 := hn12.new hN3
     replace hd12 := hd12.new hN3
     have hne_g2_g3 := hb2.ne_ hN3
     replace hb2 := Blk.gr hb2 hN3.mod
     replace hbd := hbd.new hN3
     have hge_g3 := New.ge hN3 hm0.size
     replace hm0 := hm0.trans (hN3.mod.mono (by simp))
     replace hn17 := hn17.new hN3
     replace hd17 := hd17.new hN3
     have hne_g16_g3 := hb16.ne_ hN3
     replace hb16 := Blk.gr hb16 hN3.mod
     have hb3 := hN3.blk
     clear hN3
     refine L.nil (hX _ _ ⟨.inr hS2, ?_⟩)
     refine D.one 6 rfl (by decide +kernel) (fun hX => ?_)
     refine L.storeBox rfl rfl hb3 rfl rfl tyG41 ?_
     intro w46 hb3' hm46
     replace hn6 := hn6.mod hm46 (by simp)
     replace hd6 := hd6.mod hm46 (by simp)
     replace hb1 := Blk.far hb1 hm46 (by first | exact hne_g1_g3 | exact (hne_g3_g1).symm)
     replace hTA := hTA.mod hm46 (by simp)
     replace hn12 := hn12.mod hm46 (by simp)
     replace hd12 := hd12.mod hm46 (by simp)
     replace hb2 := Blk.far hb2 hm46 (by first | exact hne_g2_g3 | exact (hne_g3_g2).symm)
     replace hbd := hbd.gr hm46
     replace hm0 := hm0.old1 hm46 hge_g3
     replace hn17 := hn17.mod hm46 (by simp)
     replace hd17 := hd17.mod hm46 (by simp)
     replace hb16 := Blk.far hb16 hm46 (by first | exact hne_g16_g3 | exact (hne_g3_g16).symm)
     clear hm46
     replace hb3 := hb3'; clear hb3'
     refine L.nil (hX _ _ ⟨.inl rfl, ?_⟩)
     refine D.done (by decide +kernel) ?_ _
     refine X.join (g1, g2, g11, g3, g16, A6, c6, B6, e6, A12, c12, B12, e12, A17, c17, B17, e17) ?_ ?_
     · exact ⟨rfl, rfl, rfl, trivial⟩
     ·
      have hTB : Lay rdT [] w46 (.slice (some ⟨g16, 0, none⟩) 1 1) kW.ts := Lay.of_blk (css := [[.int .i64 0, .bool (decide ((((1 : Int)) : Rat).num < 0)), .slice A6 (toL (((1 : Int)) : Rat).num.natAbs).length c6, .slice B6 (toL (((1 : Int)) : Rat).den).length e6]]) hb16 (LayL.one _ (⟨0, QR.nf (((1 : Int)) : Rat)⟩ : TR) (rdT_mk (t := ⟨0, QR.nf (((1 : Int)) : Rat)⟩) (hn6.sub (M' := []) (fun b hb => by cases hb)) (hd6.sub (M' := []) (fun b hb => by cases hb)))) rfl rfl (by decide) (by simp)
      exact ⟨hn6.sub (fun b hb => by cases hb), hd6.sub (fun b hb => by cases hb), hb1, hTA.sub (fun b hb => by cases hb), hn12.sub (fun b hb => by cases hb), hd12.sub (fun b hb => by cases hb), hb2, hne_g1_g2, hTB.sub (fun b hb => by cases hb), hn17.sub (fun b hb => by cases hb), hd17.sub (fun b hb => by cases hb), hb3, hbd.sub (fun b hb => by cases hb), hm0⟩
    ·
     refine ⟨_, rfl, fun hX => ?_⟩
     refine L.alloc tyZ41 rfl ?_
     intro g3 w47 hN3
     replace hS2 := hS2.trans hN3.mod
     replace hn6 := hn6.new hN3
     replace hd6 := hd6.new hN3
     have hne_g1_g3 := hb1.ne_ hN3
     replace hb1 := Blk.gr hb1 hN3.mod
     replace hTA := hTA.new hN3
     replace hn12 := hn12.new hN3
     replace hd12 := hd12.new hN3
     have hne_g2_g3 := hb2.ne_ hN3
     replace hb2 := Blk.gr hb2 hN3.mod
     replace hbd := hbd.new hN3
     have hge_g3 := New.ge hN3 hm0.size
     replace hm0 := hm0.trans (hN3.mod.mono (by simp))
     replace hn17 := hn17.new hN3
     replace hd17 := hd17.new hN3
     have hb3 := hN3.blk
     clear hN3
     refine L.nil (hX _ _ ⟨.inr hS2, ?_⟩)
     refine D.one 2 rfl (by decide +kernel) (fun hX => ?_)
     refine L.buildSlice (cells := [.int .i64 0, .bool (decide ((((1 : Int)) : Rat).num < 0)), .slice A6 (toL (((1 : Int)) : Rat).num.natAbs).length c6, .slice B6 (toL (((1 : Int)) : Rat).den).length e6]) rfl tyS39 tyZ38 (fillN1 _ _ _ _ _ _ _ _) (by decide) (by decide) rfl ?_
     intro g16 w48 hN16
     replace hS2 := hS2.trans hN16.mod
     replace hn6 := hn6.new hN16
     replace hd6 := hd6.new hN16
     replace hb1 := Blk.gr hb1 hN16.mod
     replace hTA := hTA.new hN16
     replace hn12 := hn12.new hN16
     replace hd12 := hd12.new hN16
     replace hb2 := Blk.gr hb2 hN16.mod
     replace hbd := hbd.new hN16
     replace hm0 := hm0.trans (hN16.mod.mono (by simp))
     replace hn17 := hn17.new hN16
     replace hd17 := hd17.new hN16
     have hne_g3_g16 := hb3.ne_ hN16
     replace hb3 := Blk.gr hb3 hN16.mod
     have hb16 := hN16.blk
     clear hN16
     refine L.nil (hX _ _ ⟨.inr hS2, ?_⟩)
     refine D.take 4 rfl (by decide +kernel) (fun w_ hS => (R1.build (vs := [.int .i64 3, .slice (some ⟨g16, 0, none⟩) 1 1, .agg #[.bool (decide ((((-5 : Int)) : Rat).num < 0)), .slice A17 (toL (((-5 : Int)) : Rat).num.natAbs).length c17, .slice B17 (toL (((-5 : Int)) : Rat).den).length e17]]) rfl (built_C012 _ _ _ _ _ _ _ _ _ _ _))) hS2 rfl <| D.one 6 rfl (by decide +kernel) (fun hX => ?_)
     refine L.storeBox rfl rfl hb3 rfl rfl tyG41 ?_
     intro w49 hb3' hm49
     replace hn6 := hn6.mod hm49 (by simp)
     replace hd6 := hd6.mod hm49 (by simp)
     replace hb1 := Blk.far hb1 hm49 (by first | exact hne_g1_g3 | exact (hne_g3_g1).symm)
     replace hTA := hTA.mod hm49 (by simp)
     replace hn12 := hn12.mod hm49 (by simp)
     replace hd12 := hd12.mod hm49 (by simp)
     replace hb2 := Blk.far hb2 hm49 (by first | exact hne_g2_g3 | exact (hne_g3_g2).symm)
     replace hbd := hbd.gr hm49
     replace hm0 := hm0.old1 hm49 hge_g3
     replace hn17 := hn17.mod hm49 (by simp)
     replace hd17 := hd17.mod hm49 (by simp)
     replace hb16 := Blk.far hb16 hm49 (by first | exact hne_g16_g3 | exact (hne_g3_g16).symm)
     clear hm49
     replace hb3 := hb3'; clear hb3'
     refine L.nil (hX _ _ ⟨.inl rfl, ?_⟩)
     refine D.done (by decide +kernel) ?_ _
     refine X.join (g1, g2, g11, g3, g16, A6, c6, B6, e6, A12, c12, B12, e12, A17, c17, B17, e17) ?_ ?_
     · exact ⟨rfl, rfl, rfl, trivial⟩
     ·
      have hTB : Lay rdT [] w49 (.slice (some ⟨g16, 0, none⟩) 1 1) kW.ts := Lay.of_blk (css := [[.int .i64 0, .bool (decide ((((1 : Int)) : Rat).num < 0)), .slice A6 (toL (((1 : Int)) : Rat).num.natAbs).length c6, .slice B6 (toL (((1 : Int)) : Rat).den).length e6]]) hb16 (LayL.one _ (⟨0, QR.nf (((1 : Int)) : Rat)⟩ : TR) (rdT_mk (t := ⟨0, QR.nf (((1 : Int)) : Rat)⟩) (hn6.sub (M' := []) (fun b hb => by cases hb)) (hd6.sub (M' := []) (fun b hb => by cases hb)))) rfl rfl (by decide) (by simp)
      exact ⟨hn6.sub (fun b hb => by cases hb), hd6.sub (fun b hb => by cases hb), hb1, hTA.sub (fun b hb => by cases hb), hn12.sub (fun b hb => by cases hb), hd12.sub (fun b hb => by cases hb), hb2, hne_g1_g2, hTB.sub (fun b hb => by cases hb), hn17.sub (fun b hb => by cases hb), hd17.sub (fun b hb => by cases hb), hb3, hbd.sub (fun b hb => by cases hb), hm0⟩
   ·
    refine ⟨_, rfl, fun hX => ?_⟩
    refine L.alloc tyZ41 rfl ?_
    intro g3 w50 hN3
    replace hS2 := hS2.trans hN3.mod
    replace hn6 := hn6.new hN3
    replace hd6 := hd6.new hN3
    have hne_g1_g3 := hb1.ne_ hN3
    replace hb1 := Blk.gr hb1 hN3.mod
    replace hTA := hTA.new hN3
    replace hn12 := hn12.new hN3
    replace hd12 := hd12.new hN3
    have hne_g2_g3 := hb2.ne_ hN3
    replace hb2 := Blk.gr hb2 hN3.mod
    replace hbd := hbd.new hN3
    have hge_g3 := New.ge hN3 hm0.size
    replace hm0 := hm0.trans (hN3.mod.mono (by simp))
    have hb3 := hN3.blk
    clear hN3
    refine L.nil (hX _ _ ⟨.inr hS2, ?_⟩)
    refine D.many (rs := [2, 3]) (by decide +kernel) rfl ?_
    intro i_ hi_
    simp only [List.mem_cons, List.not_mem_nil, or_false] at hi_
    rcases hi_ with rfl | rfl
    ·
     refine ⟨_, rfl, fun hX => ?_⟩
     refine L.buildSlice (cells := [.int .i64 0, .bool (decide ((((1 : Int)) : Rat).num < 0)), .slice A6 (toL (((1 : Int)) : Rat).num.natAbs).length c6, .slice B6 (toL (((1 : Int)) : Rat).den).length e6]) rfl tyS39 tyZ38 (fillN1 _ _ _ _ _ _ _ _) (by decide) (by decide) rfl ?_
     intro g16 w51 hN16
     replace hS2 := hS2.trans hN16.mod
     replace hn6 := hn6.new hN16
     replace hd6 := hd6.new hN16
     replace hb1 := Blk.gr hb1 hN16.mod
     replace hTA := hTA.new hN16
     replace hn12 := hn12.new hN16
     replace hd12 := hd12.new hN16
     replace hb2 := Blk.gr hb2 hN16.mod
     replace hbd := hbd.new hN16
     replace hm0 := hm0.trans (hN16.mod.mono (by simp))
     have hne_g3_g16 := hb3.ne_ hN16
     replace hb3 := Blk.gr hb3 hN16.mod
     have hb16 := hN16.blk
     clear hN16
     refine L.nil (hX _ _ ⟨.inr hS2, ?_⟩)
     refine D.one 3 rfl (by decide +kernel) (fun hX => ?_)
     refine L.call rfl (c_ref2_Int (n := -5) (by decide) (by decide) hbd) rfl ?_
     rintro _ w52 ⟨⟨A17, c17, B17, e17, rfl, hn17, hd17⟩, hm52⟩
     replace hn6 := hn6.gr hm52
     replace hd6 := hd6.gr hm52
     replace hb1 := Blk.gr hb1 hm52
     replace hTA := hTA.gr hm52
     replace hn12 := hn12.gr hm52
     replace hd12 := hd12.gr hm52
     replace hb2 := Blk.gr hb2 hm52
     replace hbd := hbd.gr hm52
     replace hm0 := hm0.trans hm52
     replace hb3 := Blk.gr hb3 hm52
     replace hb16 := Blk.gr hb16 hm52
     replace hS2 := hS2.trans hm52
     clear hm52
     have F17 := Fit.int (n := -5) (by decide) (by decide)
     refine L.nil (hX _ _ ⟨.inr hS2, ?_⟩)
     refine D.take 4 rfl (by decide +kernel) (fun w_ hS => (R1.build (vs := [.int .i64 3, .slice (some ⟨g16, 0, none⟩) 1 1, .agg #[.bool (decide ((((-5 : Int)) : Rat).num < 0)), .slice A17 (toL (((-5 : Int)) : Rat).num.natAbs).length c17, .slice B17 (toL (((-5 : Int)) : Rat).den).length e17]]) rfl (built_C012 _ _ _ _ _ _ _ _ _ _ _))) hS2 rfl <| D.one 6 rfl (by decide +kernel) (fun hX => ?_)
     refine L.storeBox rfl rfl hb3 rfl rfl tyG41 ?_
     intro w53 hb3' hm53
     replace hn6 := hn6.mod hm53 (by simp)
     replace hd6 := hd6.mod hm53 (by simp)
     replace hb1 := Blk.far hb1 hm53 (by first | exact hne_g1_g3 | exact (hne_g3_g1).symm)
     replace hTA := hTA.mod hm53 (by simp)
     replace hn12 := hn12.mod hm53 (by simp)
     replace hd12 := hd12.mod hm53 (by simp)
     replace hb2 := Blk.far hb2 hm53 (by first | exact hne_g2_g3 | exact (hne_g3_g2).symm)
     replace hbd := hbd.gr hm53
     replace hm0 := hm0.old1 hm53 hge_g3
     replace hb16 := Blk.far hb16 hm53 (by first | exact hne_g16_g3 | exact (hne_g3_g16).symm)
     replace hn17 := hn17.mod hm53 (by simp)
     replace hd17 := hd17.mod hm53 (by simp)
     clear hm53
     replace hb3 := hb3'; clear hb3'
     refine L.nil (hX _ _ ⟨.inl rfl, ?_⟩)
     refine D.done (by decide +kernel) ?_ _
     refine X.join (g1, g2, g11, g3, g16, A6, c6, B6, e6, A12, c12, B12, e12, A17, c17, B17, e17) ?_ ?_
     · exact ⟨rfl, rfl, rfl, trivial⟩
     ·
      have hTB : Lay rdT [] w53 (.slice (some ⟨g16, 0, none⟩) 1 1) kW.ts := Lay.of_blk (css := [[.int .i64 0, .bool (decide ((((1 : Int)) : Rat).num < 0)), .slice A6 (toL (((1 : Int)) : Rat).num.natAbs).length c6, .slice B6 (toL (((1 : Int)) : Rat).den).length e6]]) hb16 (LayL.one _ (⟨0, QR.nf (((1 : Int)) : Rat)⟩ : TR) (rdT_mk (t := ⟨0, QR.nf (((1 : Int)) : Rat)⟩) (hn6.sub (M' := []) (fun b hb => by cases hb)) (hd6.sub (M' := []) (fun b hb => by cases hb)))) rfl rfl (by decide) (by simp)
      exact ⟨hn6.sub (fun b hb => by cases hb), hd6.sub (fun b hb => by cases hb), hb1, hTA.sub (fun b hb => by cases hb), hn12.sub (fun b hb => by cases hb), hd12.sub (fun b hb => by cases hb), hb2, hne_g1_g2, hTB.sub (fun b hb => by cases hb), hn17.sub (fun b hb => by cases hb), hd17.sub (fun b hb => by cases hb), hb3, hbd.sub (fun b hb => by cases hb), hm0⟩
    ·
     refine ⟨_, rfl, fun hX => ?_⟩
     refine L.call rfl (c_ref2_Int (n := -5) (by decide) (by decide) hbd) rfl ?_
     rintro _ w54 ⟨⟨A17, c17, B17, e17, rfl, hn17, hd17⟩, hm54⟩
     replace hn6 := hn6.gr hm54
     replace hd6 := hd6.gr hm54
     replace hb1 := Blk.gr hb1 hm54
     replace hTA := hTA.gr hm54
     replace hn12 := hn12.gr hm54
     replace hd12 := hd12.gr hm54
     replace hb2 := Blk.gr hb2 hm54
     replace hbd := hbd.gr hm54
     replace hm0 := hm0.trans hm54
     replace hb3 := Blk.gr hb3 hm54
     replace hS2 := hS2.trans hm54
     clear hm54
     have F17 := Fit.int (n := -5) (by decide) (by decide)
     refine L.nil (hX _ _ ⟨.inr hS2, ?_⟩)
     refine D.one 2 rfl (by decide +kernel) (fun hX => ?_)
     refine L.buildSlice (cells := [.int .i64 0, .bool (decide ((((1 : Int)) : Rat).num < 0)), .slice A6 (toL (((1 : Int)) : Rat).num.natAbs).length c6, .slice B6 (toL (((1 : Int)) : Rat).den).length e6]) rfl tyS39 tyZ38 (fillN1 _ _ _ _ _ _ _ _) (by decide) (by decide) rfl ?_
     intro g16 w55 hN16
     replace hS2 := hS2.trans hN16.mod
     replace hn6 := hn6.new hN16
     replace hd6 := hd6.new hN16
     replace hb1 := Blk.gr hb1 hN16.mod
     replace hTA := hTA.new hN16
     replace hn12 := hn12.new hN16
     replace hd12 := hd12.new hN16
     replace hb2 := Blk.gr hb2 hN16.mod
     replace hbd := hbd.new hN16
     replace hm0 := hm0.trans (hN16.mod.mono (by simp))
     have hne_g3_g16 := hb3.ne_ hN16
     replace hb3 := Blk.gr hb3 hN16.mod
     replace hn17 := hn17.new hN16
     replace hd17 := hd17.new hN16
     have hb16 := hN16.blk
     clear hN16
     refine L.nil (hX _ _ ⟨.inr hS2, ?_⟩)
     refine D.take 4 rfl (by decide +kernel) (fun w_ hS => (R1.build (vs := [.int .i64 3, .slice (some ⟨g16, 0, none⟩) 1 1, .agg #[.bool (decide ((((-5 : Int)) : Rat).num < 0)), .slice A17 (toL (((-5 : Int)) : Rat).num.natAbs).length c17, .slice B17 (toL (((-5 : Int)) : Rat).den).length e17]]) rfl (built_C012 _ _ _ _ _ _ _ _ _ _ _))) hS2 rfl <| D.one 6 rfl (by decide +kernel) (fun hX => ?_)
     refine L.storeBox rfl rfl hb3 rfl rfl tyG41 ?_
     intro w56 hb3' hm56
     replace hn6 := hn6.mod hm56 (by simp)
     replace hd6 := hd6.mod hm56 (by simp)
     replace hb1 := Blk.far hb1 hm56 (by first | exact hne_g1_g3 | exact (hne_g3_g1).symm)
     replace hTA := hTA.mod hm56 (by simp)
     replace hn12 := hn12.mod hm56 (by simp)
     replace hd12 := hd12.mod hm56 (by simp)
     replace hb2 := Blk.far hb2 hm56 (by first | exact hne_g2_g3 | exact (hne_g3_g2).symm)
     replace hbd := hbd.gr hm56
     replace hm0 := hm0.old1 hm56 hge_g3
     replace hn17 := hn17.mod hm56 (by simp)
     replace hd17 := hd17.mod hm56 (by simp)
     replace hb16 := Blk.far hb16 hm56 (by first | exact hne_g16_g3 | exact (hne_g3_g16).symm)
     clear hm56
     replace hb3 := hb3'; clear hb3'
     refine L.nil (hX _ _ ⟨.inl rfl, ?_⟩)
     refine D.done (by decide +kernel) ?_ _
     refine X.join (g1, g2, g11, g3, g16, A6, c6, B6, e6, A12, c12, B12, e12, A17, c17, B17, e17) ?_ ?_
     · exact ⟨rfl, rfl, rfl, trivial⟩
     ·
      have hTB : Lay rdT [] w56 (.slice (some ⟨g16, 0, none⟩) 1 1) kW.ts := Lay.of_blk (css := [[.int .i64 0, .bool (decide ((((1 : Int)) : Rat).num < 0)), .slice A6 (toL (((1 : Int)) : Rat).num.natAbs).length c6, .slice B6 (toL (((1 : Int)) : Rat).den).length e6]]) hb16 (LayL.one _ (⟨0, QR.nf (((1 : Int)) : Rat)⟩ : TR) (rdT_mk (t := ⟨0, QR.nf (((1 : Int)) : Rat)⟩) (hn6.sub (M' := []) (fun b hb => by cases hb)) (hd6.sub (M' := []) (fun b hb => by cases hb)))) rfl rfl (by decide) (by simp)
      exact ⟨hn6.sub (fun b hb => by cases hb), hd6.sub (fun b hb => by cases hb), hb1, hTA.sub (fun b hb => by cases hb), hn12.sub (fun b hb => by cases hb), hd12.sub (fun b hb => by cases hb), hb2, hne_g1_g2, hTB.sub (fun b hb => by cases hb), hn17.sub (fun b hb => by cases hb), hd17.sub (fun b hb => by cases hb), hb3, hbd.sub (fun b hb => by cases hb), hm0⟩
  ·
   rintro ⟨g1, g2, g11, g3, g16, A6, c6, B6, e6, A12, c12, B12, e12, A17, c17, B17, e17⟩ wk ⟨hn6, hd6, hb1, hTA, hn12, hd12, hb2, hne_g1_g2, hTB, hn17, hd17, hb3, hbd, hm0⟩
   refine X.seq <| W.seq <| W.region <| L.v (R1.loadBox rfl hb2 tyG41) rfl <| L.v (R1.loadBox rfl hb3 tyG41) rfl <| L.buildSlice (cells := [.int .i64 0, .slice (some ⟨g11, 0, none⟩) 2 2, .bool (decide ((((0 : Int)) : Rat).num < 0)), .slice A12 (toL (((0 : Int)) : Rat).num.natAbs).length c12, .slice B12 (toL (((0 : Int)) : Rat).den).length e12, .int .i64 3, .slice (some ⟨g16, 0, none⟩) 1 1, .bool (decide ((((-5 : Int)) : Rat).num < 0)), .slice A17 (toL (((-5 : Int)) : Rat).num.natAbs).length c17, .slice B17 (toL (((-5 : Int)) : Rat).den).length e17]) rfl tyS22 tyZ41 (fillK2 _ _ _ _ _ _ _ _ _ _ _ _ _ _ _ _ _ _ _ _ _ _) (by decide) (by decide) rfl ?_
   intro g22 w57 hN22
   replace hTA := hTA.new hN22
   replace hn12 := hn12.new hN22
   replace hd12 := hd12.new hN22
   replace hTB := hTB.new hN22
   replace hn17 := hn17.new hN22
   replace hd17 := hd17.new hN22
   replace hbd := hbd.new hN22
   replace hm0 := hm0.trans (hN22.mod.mono (by simp))
   have hb22 := hN22.blk
   clear hN22
   have hL22 : Lay rdC [] w57 (.slice (some ⟨g22, 0, none⟩) 2 2) [kA, kW] := Lay.of_blk (css := [[.int .i64 0, .slice (some ⟨g11, 0, none⟩) 2 2, .bool (decide ((((0 : Int)) : Rat).num < 0)), .slice A12 (toL (((0 : Int)) : Rat).num.natAbs).length c12, .slice B12 (toL (((0 : Int)) : Rat).den).length e12], [.int .i64 3, .slice (some ⟨g16, 0, none⟩) 1 1, .bool (decide ((((-5 : Int)) : Rat).num < 0)), .slice A17 (toL (((-5 : Int)) : Rat).num.natAbs).length c17, .slice B17 (toL (((-5 : Int)) : Rat).den).length e17]]) hb22 ((LayL.one _ kA (rdC_mk (c := kA) (vt := .slice (some ⟨g11, 0, none⟩) 2 2) (hTA.sub (M' := []) (fun b hb => by cases hb)) (hn12.sub (M' := []) (fun b hb => by cases hb)) (hd12.sub (M' := []) (fun b hb => by cases hb)))).append (LayL.one _ kW (rdC_mk (c := kW) (vt := .slice (some ⟨g16, 0, none⟩) 1 1) (hTB.sub (M' := []) (fun b hb => by cases hb)) (hn17.sub (M' := []) (fun b hb => by cases hb)) (hd17.sub (M' := []) (fun b hb => by cases hb))))) rfl rfl (by decide) (by simp)
   refine L.buildSlice (cells := [.int .i64 (-1), .int .i64 (-1)]) rfl tyS24 tyZ3 (fillI2 _ _) (by decide) (by decide) rfl ?_
   intro g23 w58 hN23
   replace hbd := hbd.new hN23
   replace hm0 := hm0.trans (hN23.mod.mono (by simp))
   replace hL22 := hL22.new hN23
   have hb23 := hN23.blk
   clear hN23
   have hO23 : Lay rdI [] w58 (.slice (some ⟨g23, 0, none⟩) 2 2) [(-1), (-1)] := Lay.of_blk (css := [[.int .i64 (-1)], [.int .i64 (-1)]]) hb23 (LayL.ints [(-1), (-1)]) rfl rfl (by decide) (by simp)
   refine L.call rfl (c_SettleL (M := []) (z0 := 2) (cs := [kA, kW]) (os := [-1, -1]) (hL22.sub (M' := []) (fun b hb => by cases hb)) (hO23.sub (M' := []) (fun b hb => by cases hb)) (hbd.sub (fun b hb => by cases hb)) k_sm (by decide) (by decide)) rfl ?_
   rintro _ w59 ⟨v24, rfl, hR, hm59⟩
   replace hm0 := hm0.trans hm59
   clear hm59
   rw [k_set] at hR
   rw [show ChB 2 [kA, kW] [-1, -1] = true from k_ch]
   refine L.v (R1.move rfl) rfl <| L.v (R1.extract rfl rfl) rfl <| L.v (R1.extract rfl rfl) rfl <| L.v (R1.assign rfl) rfl <| L.v (R1.assign rfl) rfl <| L.nil <| X.seq <| W.seq <| W.region <| L.v (R1.move rfl) rfl <| L.v (R1.move rfl) rfl ?_
   refine L.on rfl rfl rfl (R1.move rfl) rfl <| L.guardOn rfl rfl rfl <| L.buildSlice (cells := [.int .i64 1, .int .i64 0]) rfl tyS24 tyZ3 (fillI2 _ _) (by decide) (by decide) rfl ?_
   intro g30 w60 hN30
   replace hm0 := hm0.trans (hN30.mod.mono (by simp))
   replace hR := hR.new hN30
   have hb30 := hN30.blk
   clear hN30
   have hO30 : Lay rdI [] w60 (.slice (some ⟨g30, 0, none⟩) 2 2) [1, 0] := Lay.of_blk (css := [[.int .i64 1], [.int .i64 0]]) hb30 (LayL.ints [1, 0]) rfl rfl (by decide) (by simp)
   refine L.callOn rfl rfl rfl rfl (c_numbersEq hR hO30 rfl) rfl ?_
   rintro _ w61 ⟨rfl, hm61⟩
   replace hm0 := hm0.trans hm61
   clear hm61
   refine L.v (R1.pickT rfl rfl) rfl <| L.v (R1.assign rfl) rfl <| L.nil <| X.seq <| W.ret <| X.result1 rfl (.tmp rfl .nil) ?_
   exact ⟨rfl, hm0⟩

end Go.Proofs.Ytfpipaoobmcomaa
