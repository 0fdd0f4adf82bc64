/- Several texts in one. -/
import Derived.Test.YtdfnkbdnnflcpaaGreatRuD
import Derived.Test.YtdfnkbdnnflcpaaGreatSzA
section
namespace Go.Proofs.YtdfnkbdnnflcpaaGreat
open Go.RowKit
set_option linter.unusedVariables false
set_option linter.unusedSimpArgs false
set_option maxRecDepth 10000
theorem sm150 {cs : List CR} (h : ¬ 150 < szCs cs) : ∀ c ∈ cs, SmC 150 c := fun c hc => sm_of_all (L := 150) (by omega) c hc
def szQs (qs : List QR) : Nat := (qs.map fun q => szQ q + 1).sum
theorem szQs_len (qs : List QR) : qs.length ≤ szQs qs := by
  unfold szQs
  induction qs with
  | nil => simp
  | cons t r ih => simp only [List.map_cons, List.sum_cons, List.length_cons]; omega
theorem all_take {α : Type} {P : α → Prop} {l : List α} {i : Nat} {z : α} (hz : l[i]? = some z) (h : ∀ s ∈ l.take i, P s) (h2 : P z) : ∀ s ∈ l.take (i + 1), P s := by
  obtain ⟨hi, rfl⟩ := List.getElem?_eq_some_iff.1 hz
  intro s hs
  rw [List.take_succ_eq_append_getElem hi] at hs
  rcases List.mem_append.1 hs with h1 | h1
  · exact h s h1
  · rw [List.mem_singleton.1 h1]; exact h2
theorem c_heavy_pantographlaw14 {N9 : List Nat} {w : World} {vl : Value} {cs : List CR} (hL : Lay rdC N9 w vl cs) (hb : szCs cs ≤ 4194304) :
    Ret Tryz.prog 4 #[vl] w (fun x w' => x = .bool (decide (150 < szCs cs)) ∧ Mod [] w w') := by
 obtain ⟨TL, tL, rfl⟩ := hL.form
 have hcl := cs_len cs
 refine Ret.of (vs := [.slice TL cs.length tL]) (n := 68) Tryz.func4 rfl rfl rfl rfl ?_
 have hm0 : Mod [] w w := Mod.refl _ _
 refine W.seq <| W.region <| L.v (R1.assign rfl) rfl <| L.nil <| X.seq <| W.seq <| W.region <| L.v (R1.assign rfl) rfl <| L.nil <| X.seq <| W.seq ?_
 refine W.seq <| W.region <| L.v (R1.assign rfl) rfl <| L.nil <| X.seq <| W.block <| W.loop (ι := Nat) (fun i => [(0, .slice TL cs.length tL), (3, .int .i64 (((szCs (cs.take i)) : Nat) : Int)), (4, .int .i64 ((i : Nat) : Int))]) (fun i w_ => i ≤ cs.length ∧ (szCs (cs.take i)) ≤ 150 ∧ Lay rdC N9 w_ (.slice TL cs.length tL) cs ∧ Mod [] w w_) (fun i => cs.length - i) 0 ?_ ?_ ?_
 · exact ⟨rfl, rfl, rfl, trivial⟩
 ·
  exact ⟨Nat.zero_le _, by simp [szCs], hL, hm0⟩
 ·
  rintro i w1 ⟨hi, hs, hL, hm0⟩
  refine W.seq <| W.seq <| W.region <| L.v (R1.move rfl) rfl <| L.v (R1.move rfl) rfl <| L.v (R1.lenLay rfl hL tyS22) rfl <| L.v (R1.lt rfl rfl) rfl <| L.nil <| X.seq <| W.cond rfl ?_ ?_
  ·
   intro hc9
   try simp only [bq, ne_eq] at hc9
   refine W.skip <| X.seq <| W.seq <| W.block <| W.seq <| W.drawW (T := []) rfl (by decide +kernel) (NoHang.then (NoHang.block (NoHang.then (NoHang.next (NoHang.block (NoHang.then NoHang.post)))))) (fun w2 hm2 => ?_)
   replace hL := hL.gr hm2
   replace hm0 := hm0.trans hm2
   have hS1 : Mod [] w2 w2 := Mod.refl _ _
   clear hm2
   refine D.take 0 rfl (by decide +kernel) (fun w_ hS => (R1.move rfl)) hS1 rfl <| D.take 1 rfl (by decide +kernel) (fun w_ hS => (R1.addI (b := 2) rfl rfl (by omega))) hS1 rfl <| D.take 2 rfl (by decide +kernel) (fun w_ hS => (R1.move rfl)) hS1 rfl <| D.take 3 rfl (by decide +kernel) (fun w_ hS => (R1.move rfl)) hS1 rfl <| D.take 4 rfl (by decide +kernel) (fun w_ hS => (R1.atLay (j := i) rfl rfl (Lay.gr hL hS) tyS22 rfl (by omega))) hS1 rfl <| D.take 5 rfl (by decide +kernel) (fun w_ hS => (R1.fieldAddr rfl tyF42_2)) hS1 rfl <| D.take 6 rfl (by decide +kernel) (fun w_ hS => (R1.fieldAddrE rfl tyF40_1)) hS1 rfl ?_
   obtain ⟨z19, cs19, hz19, hE19, vt19, ds19, rfl, ht19, vn19, vd19, rfl, hn19, hd19⟩ := Lay.elemQ hL (j := i) (by omega)
   obtain ⟨T19, t19, rfl⟩ := ht19.form
   obtain ⟨A19, c19, rfl⟩ := hn19.form
   obtain ⟨B19, e19, rfl⟩ := hd19.form
   refine D.take 7 rfl (by decide +kernel) (fun w_ hS => (R1.loadEF rfl (SlE.gr hE19 hS) rfl tyP38)) hS1 rfl <| D.take 8 rfl (by decide +kernel) (fun w_ hS => (R1.len rfl tyS38)) hS1 rfl ?_
   have q19 := sum_elem_le szC hz19; have q19b : szC z19 = 2 + (z19.k.n.length + z19.k.d.length) + szTs z19.ts := rfl; change szCs (cs.take i) + szC z19 ≤ szCs cs at q19
   refine D.take 9 rfl (by decide +kernel) (fun w_ hS => (R1.addI rfl rfl (by omega))) hS1 rfl <| D.take 10 rfl (by decide +kernel) (fun w_ hS => (R1.move rfl)) hS1 rfl <| D.take 11 rfl (by decide +kernel) (fun w_ hS => (R1.move rfl)) hS1 rfl <| D.take 12 rfl (by decide +kernel) (fun w_ hS => (R1.atLay (j := i) rfl rfl (Lay.gr hL hS) tyS22 rfl (by omega))) hS1 rfl <| D.take 13 rfl (by decide +kernel) (fun w_ hS => (R1.fieldAddr rfl tyF42_2)) hS1 rfl <| D.take 14 rfl (by decide +kernel) (fun w_ hS => (R1.fieldAddrE rfl tyF40_2)) hS1 rfl ?_
   obtain ⟨z27, cs27, hz27, hE27, vt27, ds27, rfl, ht27, vn27, vd27, rfl, hn27, hd27⟩ := Lay.elemQ hL (j := i) (by omega)
   obtain ⟨T27, t27, rfl⟩ := ht27.form
   obtain ⟨A27, c27, rfl⟩ := hn27.form
   obtain ⟨B27, e27, rfl⟩ := hd27.form
   obtain rfl : z19 = z27 := by have h9 := hz27; rw [hz19] at h9; injection h9
   refine D.take 15 rfl (by decide +kernel) (fun w_ hS => (R1.loadEF rfl (SlE.gr hE27 hS) rfl tyP38)) hS1 rfl <| D.take 16 rfl (by decide +kernel) (fun w_ hS => (R1.len rfl tyS38)) hS1 rfl <| D.take 17 rfl (by decide +kernel) (fun w_ hS => (R1.addI rfl rfl (by omega))) hS1 rfl <| D.take 18 rfl (by decide +kernel) (fun w_ hS => (R1.assign rfl)) hS1 rfl <| D.done (by decide +kernel) ?_ _
   refine X.seq <| W.seq <| W.seq <| W.region <| L.v (R1.assign rfl) rfl <| L.nil <| X.seq <| W.block ?_
   have q19l := ts_len z19.ts
   have q19c : szTs (z19.ts.take 0) = 0 := rfl
   refine W.loop (ι := Nat) (fun k => [(0, .slice TL cs.length tL), (3, .int .i64 ((((szCs (cs.take i)) + (2 + szQ z19.k) + szTs (z19.ts.take k)) : Nat) : Int)), (4, .int .i64 ((i : Nat) : Int)), (5, .int .i64 ((k : Nat) : Int))]) (fun k w_ => k ≤ z19.ts.length ∧ Lay rdC N9 w_ (.slice TL cs.length tL) cs ∧ Mod [] w w_) (fun k => z19.ts.length - k) 0 ?_ ?_ ?_
   · exact ⟨rfl, congrArg (fun n : Nat => some (Value.int .i64 (n : Int))) (by rw [q19c]; unfold szQ; omega), rfl, rfl, trivial⟩
   ·
    exact ⟨Nat.zero_le _, hL, hm0⟩
   ·
    rintro k w3 ⟨hk, hL, hm0⟩
    have q20 : szTs (z19.ts.take k) ≤ szTs z19.ts := sum_take_le szT _ _
    have q21 : szQ z19.k = z19.k.n.length + z19.k.d.length := rfl
    refine W.seq <| W.seq <| W.region <| L.v (R1.move rfl) rfl <| L.v (R1.move rfl) rfl <| L.v (R1.move rfl) rfl <| L.v (R1.atLay (j := i) rfl rfl hL tyS22 rfl (by omega)) rfl <| L.v (R1.fieldAddr rfl tyF42_1) rfl ?_
    obtain ⟨z35, cs35, hz35, hE35, vt35, ds35, rfl, ht35, vn35, vd35, rfl, hn35, hd35⟩ := Lay.elemQ hL (j := i) (by omega)
    obtain ⟨T35, t35, rfl⟩ := ht35.form
    obtain ⟨A35, c35, rfl⟩ := hn35.form
    obtain ⟨B35, e35, rfl⟩ := hd35.form
    obtain rfl : z19 = z35 := by have h9 := hz35; rw [hz19] at h9; injection h9
    refine L.v (R1.loadEF rfl hE35 rfl tyP37) rfl <| L.v (R1.lenLay rfl ht35 tyS37) rfl <| L.v (R1.lt rfl rfl) rfl <| L.nil <| X.seq <| W.cond rfl ?_ ?_
    ·
     intro hc37
     try simp only [bq, ne_eq] at hc37
     refine W.skip <| X.seq <| W.seq <| W.block <| W.drawW (T := []) rfl (by decide +kernel) (NoHang.block (NoHang.then (NoHang.next (NoHang.block (NoHang.then (NoHang.block (NoHang.then (NoHang.next (NoHang.block (NoHang.then NoHang.post)))))))))) (fun w4 hm4 => ?_)
     replace hL := hL.gr hm4
     replace hm0 := hm0.trans hm4
     have hS2 : Mod [] w4 w4 := Mod.refl _ _
     clear hm4
     refine D.take 0 rfl (by decide +kernel) (fun w_ hS => (R1.move rfl)) hS2 rfl <| D.take 1 rfl (by decide +kernel) (fun w_ hS => (R1.addI (b := 1) rfl rfl (by omega))) hS2 rfl <| D.take 2 rfl (by decide +kernel) (fun w_ hS => (R1.move rfl)) hS2 rfl <| D.take 3 rfl (by decide +kernel) (fun w_ hS => (R1.move rfl)) hS2 rfl <| D.take 4 rfl (by decide +kernel) (fun w_ hS => (R1.atLay (j := i) rfl rfl (Lay.gr hL hS) tyS22 rfl (by omega))) hS2 rfl <| D.take 5 rfl (by decide +kernel) (fun w_ hS => (R1.fieldAddr rfl tyF42_1)) hS2 rfl ?_
     obtain ⟨z46, cs46, hz46, hE46, vt46, ds46, rfl, ht46, vn46, vd46, rfl, hn46, hd46⟩ := Lay.elemQ hL (j := i) (by omega)
     obtain ⟨T46, t46, rfl⟩ := ht46.form
     obtain ⟨A46, c46, rfl⟩ := hn46.form
     obtain ⟨B46, e46, rfl⟩ := hd46.form
     obtain rfl : z19 = z46 := by have h9 := hz46; rw [hz19] at h9; injection h9
     refine D.take 6 rfl (by decide +kernel) (fun w_ hS => (R1.loadEF rfl (SlE.gr hE46 hS) rfl tyP37)) hS2 rfl <| D.take 7 rfl (by decide +kernel) (fun w_ hS => (R1.move rfl)) hS2 rfl <| D.take 8 rfl (by decide +kernel) (fun w_ hS => (R1.atLay (j := k) rfl rfl (Lay.gr ht46 hS) tyS37 rfl (by omega))) hS2 rfl <| D.take 9 rfl (by decide +kernel) (fun w_ hS => (R1.fieldAddr rfl tyF46_1)) hS2 rfl <| D.take 10 rfl (by decide +kernel) (fun w_ hS => (R1.fieldAddrE rfl tyF40_1)) hS2 rfl ?_
     obtain ⟨z51, cs51, hz51, hE51, ds51, rfl, vn51, vd51, rfl, hn51, hd51⟩ := Lay.elemQ ht46 (j := k) (by omega)
     obtain ⟨A51, c51, rfl⟩ := hn51.form
     obtain ⟨B51, e51, rfl⟩ := hd51.form
     refine D.take 11 rfl (by decide +kernel) (fun w_ hS => (R1.loadEF rfl (SlE.gr hE51 hS) rfl tyP38)) hS2 rfl <| D.take 12 rfl (by decide +kernel) (fun w_ hS => (R1.len rfl tyS38)) hS2 rfl ?_
     have q51 := sum_elem_le szT hz51; have q51b : szT z51 = 1 + (z51.c.n.length + z51.c.d.length) := rfl; change szTs (z19.ts.take k) + szT z51 ≤ szTs z19.ts at q51
     refine D.take 13 rfl (by decide +kernel) (fun w_ hS => (R1.addI rfl rfl (by omega))) hS2 rfl <| D.take 14 rfl (by decide +kernel) (fun w_ hS => (R1.move rfl)) hS2 rfl <| D.take 15 rfl (by decide +kernel) (fun w_ hS => (R1.move rfl)) hS2 rfl <| D.take 16 rfl (by decide +kernel) (fun w_ hS => (R1.atLay (j := i) rfl rfl (Lay.gr hL hS) tyS22 rfl (by omega))) hS2 rfl <| D.take 17 rfl (by decide +kernel) (fun w_ hS => (R1.fieldAddr rfl tyF42_1)) hS2 rfl ?_
     obtain ⟨z58, cs58, hz58, hE58, vt58, ds58, rfl, ht58, vn58, vd58, rfl, hn58, hd58⟩ := Lay.elemQ hL (j := i) (by omega)
     obtain ⟨T58, t58, rfl⟩ := ht58.form
     obtain ⟨A58, c58, rfl⟩ := hn58.form
     obtain ⟨B58, e58, rfl⟩ := hd58.form
     obtain rfl : z19 = z58 := by have h9 := hz58; rw [hz19] at h9; injection h9
     refine D.take 18 rfl (by decide +kernel) (fun w_ hS => (R1.loadEF rfl (SlE.gr hE58 hS) rfl tyP37)) hS2 rfl <| D.take 19 rfl (by decide +kernel) (fun w_ hS => (R1.move rfl)) hS2 rfl <| D.take 20 rfl (by decide +kernel) (fun w_ hS => (R1.atLay (j := k) rfl rfl (Lay.gr ht58 hS) tyS37 rfl (by omega))) hS2 rfl <| D.take 21 rfl (by decide +kernel) (fun w_ hS => (R1.fieldAddr rfl tyF46_1)) hS2 rfl <| D.take 22 rfl (by decide +kernel) (fun w_ hS => (R1.fieldAddrE rfl tyF40_2)) hS2 rfl ?_
     obtain ⟨z63, cs63, hz63, hE63, ds63, rfl, vn63, vd63, rfl, hn63, hd63⟩ := Lay.elemQ ht58 (j := k) (by omega)
     obtain ⟨A63, c63, rfl⟩ := hn63.form
     obtain ⟨B63, e63, rfl⟩ := hd63.form
     obtain rfl : z51 = z63 := by have h9 := hz63; rw [hz51] at h9; injection h9
     refine D.take 23 rfl (by decide +kernel) (fun w_ hS => (R1.loadEF rfl (SlE.gr hE63 hS) rfl tyP38)) hS2 rfl <| D.take 24 rfl (by decide +kernel) (fun w_ hS => (R1.len rfl tyS38)) hS2 rfl <| D.take 25 rfl (by decide +kernel) (fun w_ hS => (R1.addI rfl rfl (by omega))) hS2 rfl <| D.take 26 rfl (by decide +kernel) (fun w_ hS => (R1.assign rfl)) hS2 rfl <| D.done (by decide +kernel) ?_ _
     refine X.blockEnd <| X.seq <| W.region <| L.v (R1.move rfl) rfl <| L.v (R1.addI (b := 1) rfl rfl (by omega)) rfl <| L.v (R1.assign rfl) rfl <| L.nil <| X.next (k + 1) ?_ ?_ ?_
     · refine ⟨rfl, ?_, rfl, rfl, trivial⟩; simp only [lk, Nat.beq, cond_true, cond_false]; exact congrArg (fun n : Nat => some (Value.int .i64 (n : Int))) (by have := sum_take_succ szT hz51; unfold szTs at *; rw [this]; omega)
     ·
      exact ⟨by omega, hL, hm0⟩
     · first | omega | (dsimp only; omega)
    ·
     intro hc37
     try simp only [bq, ne_eq] at hc37
     obtain rfl : k = z19.ts.length := by omega
     refine W.exit <| X.thenExit <| X.nextExit <| X.here <| X.seq <| W.seq <| W.region <| L.v (R1.move rfl) rfl <| L.v (R1.gt rfl rfl) rfl <| L.nil <| X.seq ?_
     refine W.cond rfl ?_ ?_
     ·
      intro hc67
      try simp only [bq, ne_eq] at hc67
      refine W.seq <| W.region <| L.v (R1.assign rfl) rfl <| L.nil <| X.seq <| W.ret <| X.blockRet <| X.thenRet <| X.nextRet <| X.blockRet <| X.thenRet ?_
      refine X.result1 rfl (.tmp rfl .nil) <| ⟨?_, hm0⟩
      rw [decide_eq_true]
      have := sum_elem_le szC hz19
      rw [List.take_length] at hc67
      unfold szCs at *
      omega
     ·
      intro hc67
      try simp only [bq, ne_eq] at hc67
      refine W.skip <| X.blockEnd <| X.seq <| W.region <| L.v (R1.move rfl) rfl <| L.v (R1.addI (b := 1) rfl rfl (by omega)) rfl <| L.v (R1.assign rfl) rfl <| L.nil ?_
      have hsum : szCs (cs.take (i + 1)) = szCs (cs.take i) + (2 + szQ z19.k) + szTs (z19.ts.take z19.ts.length) := by
        rw [List.take_length]; have := sum_take_succ szC hz19; unfold szCs; rw [this]; unfold szC; omega
      refine X.next (i + 1) ?_ ?_ ?_
      · refine ⟨rfl, ?_, rfl, trivial⟩; simp only [lk, Nat.beq, cond_true, cond_false]; rw [hsum]
      ·
       refine ⟨by omega, by rw [hsum]; omega, hL, hm0⟩
      · first | omega | (dsimp only; omega)
  ·
   intro hc9
   try simp only [bq, ne_eq] at hc9
   obtain rfl : i = cs.length := by omega
   refine W.exit <| X.thenExit <| X.nextExit <| X.here <| X.seq <| W.seq <| W.region <| L.v (R1.assign rfl) rfl <| L.nil <| X.seq <| W.ret ?_
   refine X.result1 rfl (.tmp rfl .nil) <| ⟨?_, hm0⟩
   rw [List.take_length] at hs
   rw [decide_eq_false (by omega)]
theorem c_many_pantographlaw14 {N9 : List Nat} {w : World} {vl : Value} {val : List QR} (hL : Lay rdQ N9 w vl val) (hb : szQs val ≤ 4194304) :
    Ret Tryz.prog 5 #[vl] w (fun x w' => ∃ b, x = .bool b ∧ (b = false → (∀ q ∈ val, SmQ 3 q) ∧ val.length ≤ 100) ∧ Mod [] w w') := by
 obtain ⟨TL, tL, rfl⟩ := hL.form
 have hcl := szQs_len val
 refine Ret.of (vs := [.slice TL val.length tL]) (n := 47) Tryz.func5 rfl rfl rfl rfl ?_
 have hm0 : Mod [] w w := Mod.refl _ _
 refine W.seq <| W.region <| L.v (R1.assign rfl) rfl <| L.nil <| X.seq <| W.seq <| W.region <| L.v (R1.assign rfl) rfl <| L.nil <| X.seq <| W.seq ?_
 refine W.seq <| W.region <| L.v (R1.assign rfl) rfl <| L.nil <| X.seq <| W.block <| W.loop (ι := Nat) (fun i => [(0, .slice TL val.length tL), (3, .int .i64 (((szQs (val.take i)) : Nat) : Int)), (4, .int .i64 ((i : Nat) : Int))]) (fun i w_ => i ≤ val.length ∧ (szQs (val.take i)) ≤ 100 ∧ (∀ q ∈ val.take i, SmQ 3 q) ∧ Lay rdQ N9 w_ (.slice TL val.length tL) val ∧ Mod [] w w_) (fun i => val.length - i) 0 ?_ ?_ ?_
 · exact ⟨rfl, rfl, rfl, trivial⟩
 ·
  exact ⟨Nat.zero_le _, by simp [szQs], (fun q h => by cases h), hL, hm0⟩
 ·
  rintro i w1 ⟨hi, hs, hq, hL, hm0⟩
  refine W.seq <| W.seq <| W.region <| L.v (R1.move rfl) rfl <| L.v (R1.move rfl) rfl <| L.v (R1.lenLay rfl hL tyS23) rfl <| L.v (R1.lt rfl rfl) rfl <| L.nil <| X.seq <| W.cond rfl ?_ ?_
  ·
   intro hc8
   try simp only [bq, ne_eq] at hc8
   refine W.skip <| X.seq <| W.seq <| W.block <| W.seq <| W.drawW (T := []) rfl (by decide +kernel) (NoHang.then (NoHang.block (NoHang.then (NoHang.next (NoHang.block (NoHang.then NoHang.post)))))) (fun w2 hm2 => ?_)
   replace hL := hL.gr hm2
   replace hm0 := hm0.trans hm2
   have hS1 : Mod [] w2 w2 := Mod.refl _ _
   clear hm2
   refine D.take 0 rfl (by decide +kernel) (fun w_ hS => (R1.move rfl)) hS1 rfl <| D.take 1 rfl (by decide +kernel) (fun w_ hS => (R1.addI (b := 1) rfl rfl (by omega))) hS1 rfl <| D.take 2 rfl (by decide +kernel) (fun w_ hS => (R1.move rfl)) hS1 rfl <| D.take 3 rfl (by decide +kernel) (fun w_ hS => (R1.move rfl)) hS1 rfl <| D.take 4 rfl (by decide +kernel) (fun w_ hS => (R1.atLay (j := i) rfl rfl (Lay.gr hL hS) tyS23 rfl (by omega))) hS1 rfl <| D.take 5 rfl (by decide +kernel) (fun w_ hS => (R1.fieldAddr rfl tyF40_1)) hS1 rfl ?_
   obtain ⟨z17, cs17, hz17, hE17, vn17, vd17, rfl, hn17, hd17⟩ := Lay.elemQ hL (j := i) (by omega)
   obtain ⟨A17, c17, rfl⟩ := hn17.form
   obtain ⟨B17, e17, rfl⟩ := hd17.form
   refine D.take 6 rfl (by decide +kernel) (fun w_ hS => (R1.loadEF rfl (SlE.gr hE17 hS) rfl tyP38)) hS1 rfl <| D.take 7 rfl (by decide +kernel) (fun w_ hS => (R1.len rfl tyS38)) hS1 rfl ?_
   have q17 := sum_elem_le (fun q => szQ q + 1) hz17; have q17b : szQ z17 = z17.n.length + z17.d.length := rfl; change szQs (val.take i) + (szQ z17 + 1) ≤ szQs val at q17
   refine D.take 8 rfl (by decide +kernel) (fun w_ hS => (R1.addI rfl rfl (by omega))) hS1 rfl <| D.take 9 rfl (by decide +kernel) (fun w_ hS => (R1.move rfl)) hS1 rfl <| D.take 10 rfl (by decide +kernel) (fun w_ hS => (R1.move rfl)) hS1 rfl <| D.take 11 rfl (by decide +kernel) (fun w_ hS => (R1.atLay (j := i) rfl rfl (Lay.gr hL hS) tyS23 rfl (by omega))) hS1 rfl <| D.take 12 rfl (by decide +kernel) (fun w_ hS => (R1.fieldAddr rfl tyF40_2)) hS1 rfl ?_
   obtain ⟨z24, cs24, hz24, hE24, vn24, vd24, rfl, hn24, hd24⟩ := Lay.elemQ hL (j := i) (by omega)
   obtain ⟨A24, c24, rfl⟩ := hn24.form
   obtain ⟨B24, e24, rfl⟩ := hd24.form
   obtain rfl : z17 = z24 := by have h9 := hz24; rw [hz17] at h9; injection h9
   refine D.take 13 rfl (by decide +kernel) (fun w_ hS => (R1.loadEF rfl (SlE.gr hE24 hS) rfl tyP38)) hS1 rfl <| D.take 14 rfl (by decide +kernel) (fun w_ hS => (R1.len rfl tyS38)) hS1 rfl <| D.take 15 rfl (by decide +kernel) (fun w_ hS => (R1.addI rfl rfl (by omega))) hS1 rfl <| D.take 16 rfl (by decide +kernel) (fun w_ hS => (R1.assign rfl)) hS1 rfl <| D.done (by decide +kernel) ?_ _
   refine X.seq <| W.seq ?_
   have hsum : szQs (val.take (i + 1)) = szQs (val.take i) + (szQ z17 + 1) := sum_take_succ (fun q => szQ q + 1) hz17
   refine W.region <| L.v (R1.move rfl) rfl <| L.v ((R1.gt rfl rfl).asB (c := decide (100 < szQs (val.take (i + 1)))) (by congr 1; apply propext; rw [hsum]; omega)) rfl <| L.v (R1.move rfl) rfl ?_
   cases hgd29 : decide (100 < szQs (val.take (i + 1)))
   ·
    simp only [bq] at hgd29
    refine L.on rfl rfl rfl (R1.move rfl) rfl <| L.on rfl rfl rfl (R1.move rfl) rfl <| L.on rfl rfl rfl (R1.atLay (j := i) rfl rfl hL tyS23 rfl (by omega)) rfl <| L.on rfl rfl rfl (R1.fieldAddr rfl tyF40_1) rfl ?_
    obtain ⟨z34, cs34, hz34, hE34, vn34, vd34, rfl, hn34, hd34⟩ := Lay.elemQ hL (j := i) (by omega)
    obtain ⟨A34, c34, rfl⟩ := hn34.form
    obtain ⟨B34, e34, rfl⟩ := hd34.form
    obtain rfl : z17 = z34 := by have h9 := hz34; rw [hz17] at h9; injection h9
    refine L.on rfl rfl rfl (R1.loadEF rfl hE34 rfl tyP38) rfl <| L.on rfl rfl rfl (R1.len rfl tyS38) rfl <| L.on rfl rfl rfl ((R1.gt rfl rfl).asB (c := decide (3 < z17.n.length)) (by congr 1; apply propext; omega)) rfl <| L.v (R1.pickF rfl rfl) rfl <| L.v (R1.move rfl) rfl ?_
    cases hgd38 : decide (3 < z17.n.length)
    ·
     simp only [bq] at hgd38
     refine L.on rfl rfl rfl (R1.move rfl) rfl <| L.on rfl rfl rfl (R1.move rfl) rfl <| L.on rfl rfl rfl (R1.atLay (j := i) rfl rfl hL tyS23 rfl (by omega)) rfl <| L.on rfl rfl rfl (R1.fieldAddr rfl tyF40_2) rfl ?_
     obtain ⟨z43, cs43, hz43, hE43, vn43, vd43, rfl, hn43, hd43⟩ := Lay.elemQ hL (j := i) (by omega)
     obtain ⟨A43, c43, rfl⟩ := hn43.form
     obtain ⟨B43, e43, rfl⟩ := hd43.form
     obtain rfl : z17 = z43 := by have h9 := hz43; rw [hz17] at h9; injection h9
     refine L.on rfl rfl rfl (R1.loadEF rfl hE43 rfl tyP38) rfl <| L.on rfl rfl rfl (R1.len rfl tyS38) rfl <| L.on rfl rfl rfl ((R1.gt rfl rfl).asB (c := decide (3 < z17.d.length)) (by congr 1; apply propext; omega)) rfl <| L.v (R1.pickF rfl rfl) rfl <| L.nil <| X.seq <| W.cond rfl ?_ ?_
     ·
      intro hc46
      simp only [bq] at hc46
      refine W.seq <| W.region <| L.v (R1.assign rfl) rfl <| L.nil <| X.seq <| W.ret <| X.blockRet <| X.thenRet <| X.nextRet <| X.blockRet <| X.thenRet ?_
      refine X.result1 rfl (.tmp rfl .nil) ?_
      exact ⟨true, rfl, (fun h => by cases h), hm0⟩
     ·
      intro hc46
      simp only [bq] at hc46
      refine W.skip <| X.blockEnd <| X.seq <| W.region <| L.v (R1.move rfl) rfl <| L.v (R1.addI (b := 1) rfl rfl (by omega)) rfl <| L.v (R1.assign rfl) rfl <| L.nil <| X.next (i + 1) ?_ ?_ ?_
      · refine ⟨rfl, congrArg (fun n : Nat => some (Value.int .i64 (n : Int))) (by rw [hsum]; unfold szQ; omega), rfl, trivial⟩
      ·
       exact ⟨by omega, by omega, all_take hz17 hq ⟨by omega, by omega⟩, hL, hm0⟩
      · first | omega | (dsimp only; omega)
    ·
     simp only [bq] at hgd38
     refine L.off rfl rfl rfl rfl rfl <| L.off rfl rfl rfl rfl rfl <| L.off rfl rfl rfl rfl rfl <| L.off rfl rfl rfl rfl rfl <| L.off rfl rfl rfl rfl rfl <| L.off rfl rfl rfl rfl rfl <| L.off rfl rfl rfl rfl rfl <| L.v (R1.pickT rfl rfl) rfl <| L.nil <| X.seq <| W.condT rfl ?_
     refine W.seq <| W.region <| L.v (R1.assign rfl) rfl <| L.nil <| X.seq <| W.ret <| X.blockRet <| X.thenRet <| X.nextRet <| X.blockRet <| X.thenRet ?_
     refine X.result1 rfl (.tmp rfl .nil) ?_
     exact ⟨true, rfl, (fun h => by cases h), hm0⟩
   ·
    simp only [bq] at hgd29
    refine L.off rfl rfl rfl rfl rfl <| L.off rfl rfl rfl rfl rfl <| L.off rfl rfl rfl rfl rfl <| L.off rfl rfl rfl rfl rfl <| L.off rfl rfl rfl rfl rfl <| L.off rfl rfl rfl rfl rfl <| L.off rfl rfl rfl rfl rfl <| L.v (R1.pickT rfl rfl) rfl <| L.v (R1.move rfl) rfl <| L.off rfl rfl rfl rfl rfl <| L.off rfl rfl rfl rfl rfl ?_
    refine L.off rfl rfl rfl rfl rfl <| L.off rfl rfl rfl rfl rfl <| L.off rfl rfl rfl rfl rfl <| L.off rfl rfl rfl rfl rfl <| L.off rfl rfl rfl rfl rfl <| L.v (R1.pickT rfl rfl) rfl <| L.nil <| X.seq <| W.condT rfl <| W.seq <| W.region ?_
    refine L.v (R1.assign rfl) rfl <| L.nil <| X.seq <| W.ret <| X.blockRet <| X.thenRet <| X.nextRet <| X.blockRet <| X.thenRet <| X.result1 rfl (.tmp rfl .nil) ?_
    exact ⟨true, rfl, (fun h => by cases h), hm0⟩
  ·
   intro hc8
   try simp only [bq, ne_eq] at hc8
   obtain rfl : i = val.length := by omega
   refine W.exit <| X.thenExit <| X.nextExit <| X.here <| X.seq <| W.seq <| W.region <| L.v (R1.assign rfl) rfl <| L.nil <| X.seq <| W.ret ?_
   refine X.result1 rfl (.tmp rfl .nil) ?_
   rw [List.take_length] at hq hs
   exact ⟨false, rfl, (fun _ => ⟨hq, by omega⟩), hm0⟩
theorem c_numbers_pantographlaw14 {M N9 : List Nat} {w : World} {va vb : Value} {xs ys : List Int} (h : Lay rdI M w va xs) (k0 : Lay rdI N9 w vb ys) :
    Ret Tryz.prog 16 #[va, vb] w (fun r w' => r = .bool (decide (xs = ys)) ∧ Mod [] w w') := by
 have hmax := h.max; unfold maxLen at hmax
 refine Ret.of (vs := [va, vb]) (n := 26) Tryz.func16 rfl rfl rfl rfl ?_
 have hm0 : Mod [] w w := Mod.refl _ _
 refine W.seq <| W.region <| L.v (R1.assign rfl) rfl <| L.nil <| X.seq <| W.seq <| W.seq <| W.region <| L.v (R1.move rfl) rfl <| L.v (R1.lenLay rfl h tyS26) rfl <| L.v (R1.move rfl) rfl ?_
 refine L.v (R1.lenLay rfl k0 tyS26) rfl <| L.v (R1.ne rfl rfl) rfl <| L.nil <| X.seq <| W.cond rfl ?_ ?_
 ·
  intro hc10
  try simp only [bq, ne_eq] at hc10
  refine W.seq <| W.region <| L.v (R1.assign rfl) rfl <| L.nil <| X.seq <| W.ret <| X.thenRet <| X.result1 rfl (.tmp rfl .nil) <| ⟨?_, hm0⟩
  rw [decide_eq_false (fun e => by subst e; omega)]
 ·
  intro hc10
  try simp only [bq, ne_eq] at hc10
  have hlen : xs.length = ys.length := by omega
  refine W.skip <| X.seq <| W.seq <| W.seq <| W.region <| L.v (R1.assign rfl) rfl <| L.nil <| X.seq <| W.block <| W.loop (ι := Nat) (fun k => [(0, va), (1, vb), (5, .int .i64 (k : Int))]) (fun k w_ => k ≤ xs.length ∧ xs.take k = ys.take k ∧ Lay rdI M w_ va xs ∧ Lay rdI N9 w_ vb ys ∧ Mod [] w w_) (fun k => xs.length - k) 0 ?_ ?_ ?_
  · exact ⟨rfl, rfl, rfl, trivial⟩
  ·
   exact ⟨Nat.zero_le _, rfl, h, k0, hm0⟩
  ·
   rintro k w1 ⟨hk, he, h, k0, hm0⟩
   refine W.seq <| W.seq <| W.region <| L.v (R1.move rfl) rfl <| L.v (R1.move rfl) rfl <| L.v (R1.lenLay rfl h tyS26) rfl <| L.v (R1.lt rfl rfl) rfl <| L.nil <| X.seq <| W.cond rfl ?_ ?_
   ·
    intro hc14
    try simp only [bq, ne_eq] at hc14
    have hk1 : k < xs.length := by omega
    refine W.skip <| X.seq <| W.seq <| W.block <| W.seq <| W.drawW (T := []) rfl (by decide +kernel) (NoHang.then (NoHang.block (NoHang.then (NoHang.next (NoHang.block (NoHang.then NoHang.post)))))) (fun w2 hm2 => ?_)
    replace h := h.gr hm2
    replace k0 := k0.gr hm2
    replace hm0 := hm0.trans hm2
    have hS1 : Mod [] w2 w2 := Mod.refl _ _
    clear hm2
    refine D.take 0 rfl (by decide +kernel) (fun w_ hS => (R1.move rfl)) hS1 rfl <| D.take 1 rfl (by decide +kernel) (fun w_ hS => (R1.move rfl)) hS1 rfl <| D.take 2 rfl (by decide +kernel) (fun w_ hS => (R1.atLay (j := k) rfl rfl (Lay.gr h hS) tyS26 rfl (by omega))) hS1 rfl <| D.take 3 rfl (by decide +kernel) (fun w_ hS => (R1.loadLI rfl (Lay.gr h hS) tyP3 (by omega) rfl)) hS1 rfl <| D.take 4 rfl (by decide +kernel) (fun w_ hS => (R1.move rfl)) hS1 rfl <| D.take 5 rfl (by decide +kernel) (fun w_ hS => (R1.move rfl)) hS1 rfl <| D.take 6 rfl (by decide +kernel) (fun w_ hS => (R1.atLay (j := k) rfl rfl (Lay.gr k0 hS) tyS26 rfl (by omega))) hS1 rfl <| D.take 7 rfl (by decide +kernel) (fun w_ hS => (R1.loadLI rfl (Lay.gr k0 hS) tyP3 (by omega) rfl)) hS1 rfl <| D.take 8 rfl (by decide +kernel) (fun w_ hS => (R1.ne rfl rfl)) hS1 rfl <| D.done (by decide +kernel) ?_ _
    refine X.seq <| W.cond rfl ?_ ?_
    ·
     intro hc25
     try simp only [bq, ne_eq] at hc25
     refine W.seq <| W.region <| L.v (R1.assign rfl) rfl <| L.nil <| X.seq <| W.ret <| X.blockRet <| X.thenRet <| X.nextRet <| X.blockRet <| X.thenRet ?_
     refine X.result1 rfl (.tmp rfl .nil) <| ⟨?_, hm0⟩
     rw [decide_eq_false (fun e => by subst e; omega)]
    ·
     intro hc25
     try simp only [bq, ne_eq] at hc25
     refine W.skip <| X.blockEnd <| X.seq <| W.region <| L.v (R1.move rfl) rfl <| L.v (R1.addI (b := 1) rfl rfl (by omega)) rfl <| L.v (R1.assign rfl) rfl <| L.nil <| X.next (k + 1) ?_ ?_ ?_
     · exact ⟨rfl, rfl, rfl, trivial⟩
     ·
      exact ⟨by omega, eq_stepI hk1 (by omega) he (by omega), h, k0, hm0⟩
     · first | omega | (dsimp only; omega)
   ·
    intro hc14
    try simp only [bq, ne_eq] at hc14
    have hk1 : k = xs.length := by omega
    refine W.exit <| X.thenExit <| X.nextExit <| X.here <| X.seq <| W.seq <| W.region <| L.v (R1.assign rfl) rfl <| L.nil <| X.seq <| W.ret ?_
    refine X.result1 rfl (.tmp rfl .nil) <| ⟨?_, hm0⟩
    rw [hk1, List.take_length, hlen, List.take_length] at he
    rw [decide_eq_true he]
theorem c_numbersEq {M N9 : List Nat} {w : World} {va vb : Value} {xs ys : List Int} (h : Lay rdI M w va xs) (k0 : Lay rdI N9 w vb ys) (e : xs = ys) : Ret Tryz.prog 16 #[va, vb] w (fun r w' => r = .bool true ∧ Mod [] w w') :=
  (c_numbers_pantographlaw14 h k0).mono fun r w' ⟨h1, h2⟩ => ⟨by rw [h1, decide_eq_true e], h2⟩
end Go.Proofs.YtdfnkbdnnflcpaaGreat
end
section
namespace Go.Proofs.YtdfnkbdnnflcpaaGreat
open Go.RowKit
set_option linter.unusedVariables false
set_option linter.unusedSimpArgs false
set_option maxRecDepth 10000
theorem nf_is (q : Rat) : (QR.nf q).is = true := by
  unfold QR.is isN QR.nf
  simp only [rv_toL]
  simp
theorem nf_sm2 {z : Int} (h : z.natAbs < 4294967296) : SmQ 2 (QR.nf ((z : Int) : Rat)) := by
  constructor
  · show (toL ((z : Int) : Rat).num.natAbs).length ≤ 2
    rw [Rat.num_intCast]
    by_cases h0 : z.natAbs = 0
    · rw [h0, toL_zero]; decide
    · rw [toL_small h0 h]; simp
  · show (toL ((z : Int) : Rat).den).length ≤ 2
    rw [Rat.den_intCast, toL_1]; decide
theorem nf_len {z : Int} (h0 : z.natAbs ≠ 0) (h : z.natAbs < 4294967296) : (QR.nf ((z : Int) : Rat)).n.length = 1 := by
  show (toL ((z : Int) : Rat).num.natAbs).length = 1
  rw [Rat.num_intCast, toL_small h0 h]; rfl
def kA : CR := ⟨0, [⟨0, QR.nf ((1 : Int) : Rat)⟩, ⟨1, QR.nf ((-1 : Int) : Rat)⟩], QR.nf ((0 : Int) : Rat)⟩
def kB : CR := ⟨0, [⟨0, QR.nf ((1 : Int) : Rat)⟩], QR.nf ((-5 : Int) : Rat)⟩
def kV (x y : Int) : List QR := [QR.nf ((x : Int) : Rat), QR.nf ((y : Int) : Rat)]
theorem kA_is : isC kA 2 = true := by
  show (decide ((0 : Int) ≤ 0) && (decide ((0 : Int) ≤ 4) && ((QR.nf ((0 : Int) : Rat)).is && (decide ((0 : Int) ≤ 0) && (decide ((0 : Int) < 2) && ((QR.nf ((1 : Int) : Rat)).is && (decide ((QR.nf ((1 : Int) : Rat)).n.length ≠ 0) && (decide ((0 : Int) + 1 ≤ 1) && (decide ((1 : Int) < 2) && ((QR.nf ((-1 : Int) : Rat)).is && (decide ((QR.nf ((-1 : Int) : Rat)).n.length ≠ 0) && true))))))))))) = true
  rw [nf_is, nf_is, nf_is, nf_len (by decide) (by decide), nf_len (by decide) (by decide)]; decide
theorem kB_is : isC kB 2 = true := by
  show (decide ((0 : Int) ≤ 0) && (decide ((0 : Int) ≤ 4) && ((QR.nf ((-5 : Int) : Rat)).is && (decide ((0 : Int) ≤ 0) && (decide ((0 : Int) < 2) && ((QR.nf ((1 : Int) : Rat)).is && (decide ((QR.nf ((1 : Int) : Rat)).n.length ≠ 0) && true))))))) = true
  rw [nf_is, nf_is, nf_len (by decide) (by decide)]; decide
theorem k_ws : wsOf 2 [kA, kB] = [[0, 1], [0]] := by
  show [wOf 2 kA, wOf 2 kB] = _
  unfold wOf
  rw [if_pos (show isC kA ((2 : Nat) : Int) = true from kA_is), if_pos (show isC kB ((2 : Nat) : Int) = true from kB_is)]; rfl
theorem k_ch : ChB 2 [kA, kB] [1, 0] = true := by
  refine decide_eq_true ⟨by decide, by decide, by decide, by decide, fun j hj => ?_, ?_⟩
  · have hj2 : j < 2 := hj
    rcases (show j = 0 ∨ j = 1 by omega) with rfl | rfl
    · exact ⟨kA_is, .inr ⟨by decide, fun k hk => by omega⟩⟩
    · exact ⟨kB_is, .inr ⟨by decide, fun k hk => by rw [show k = 0 by omega]; decide⟩⟩
  · show firstW (List.range 2) (wsOf 2 [kA, kB]) 0 = none
    rw [k_ws]; decide
theorem k_ord : ordT [kA, kB] [1, 0] [1, 0] = [1, 0] := by rfl
theorem k_ordZ : ordZ 2 [kA, kB] [1, 0] = [1, 0] := by unfold ordZ; rw [k_ch, if_pos rfl, k_ord]; rfl
theorem k_small : largeB ((5 : Int) : Rat) = false := by
  unfold largeB
  rw [Rat.num_intCast, Rat.den_intCast, toL_1, toL_small (by decide) (by decide)]; decide
theorem k_t1 : toldV kB 0 (kV 1 1) = ((5 : Int) : Rat) := by
  show (-((QR.nf ((-5 : Int) : Rat)).val)) / (QR.nf ((1 : Int) : Rat)).val = _
  rw [QR.nf_val, QR.nf_val]
  have e1 : ((-5 : Int) : Rat) = -5 := rfl
  have e2 : ((1 : Int) : Rat) = 1 := rfl
  have e3 : ((5 : Int) : Rat) = 5 := rfl
  rw [e1, e2, e3]; grind
theorem k_t2 : toldV kA 1 (kV 5 1) = ((5 : Int) : Rat) := by
  show (-((QR.nf ((0 : Int) : Rat)).val + (QR.nf ((1 : Int) : Rat)).val * (QR.nf ((5 : Int) : Rat)).val)) / (QR.nf ((-1 : Int) : Rat)).val = _
  rw [QR.nf_val, QR.nf_val, QR.nf_val, QR.nf_val]
  have e0 : ((0 : Int) : Rat) = 0 := rfl
  have e1 : ((-1 : Int) : Rat) = -1 := rfl
  have e2 : ((1 : Int) : Rat) = 1 := rfl
  have e3 : ((5 : Int) : Rat) = 5 := rfl
  rw [e0, e1, e2, e3]; grind
theorem k_run : runZ [kA, kB] [1, 0] (kV 1 1) = (kV 5 5, -1, 0) := by
  unfold runZ
  rw [if_pos (show ChB (((kV 1 1).length : Nat) : Int) [kA, kB] [1, 0] = true from k_ch), k_ord]
  have e0 : nvL (kV 1 1) = kV 1 1 := by
    show [QR.nf (QR.nf _).val, QR.nf (QR.nf _).val] = _
    rw [QR.nf_val]; rfl
  rw [e0, runL]
  have e1 : toldV (List.getD [kA, kB] 1 c0R) (List.getD [1, 0] 1 0) (kV 1 1) = ((5 : Int) : Rat) := k_t1
  rw [e1, if_neg (by rw [k_small]; decide), runL]
  have e2 : toldV (List.getD [kA, kB] 0 c0R) (List.getD [1, 0] 0 0) ((kV 1 1).set (List.getD [1, 0] 1 0 : Int).toNat (QR.nf ((5 : Int) : Rat))) = ((5 : Int) : Rat) := k_t2
  rw [e2, if_neg (by rw [k_small]; decide)]; rfl
theorem built_C12 (T : Option Addr) (l t : Nat) (s0 : Bool) (A0 : Option Addr) (n0 c0 : Nat) (B0 : Option Addr) (m0 d0 : Nat) : Tryz.prog.built 42 [(1, .slice T l t), (2, .agg #[.bool s0, .slice A0 n0 c0, .slice B0 m0 d0])] = some #[.int .i64 0, .slice T l t, .bool s0, .slice A0 n0 c0, .slice B0 m0 d0] := by kernel_rfl
theorem fillK2 (v1 : Int) (T1 : Option Addr) (l1 t1 : Nat) (s1 : Bool) (A1 : Option Addr) (n1 c1 : Nat) (B1 : Option Addr) (m1 d1 : Nat) (v2 : Int) (T2 : Option Addr) (l2 t2 : Nat) (s2 : Bool) (A2 : Option Addr) (n2 c2 : Nat) (B2 : Option Addr) (m2 d2 : Nat) : Instr.fill (fun i => some (i * 5, 5)) ((Array.range (2 * 5)).map ((Value.agg #[.int .i64 0, .slice none 0 0, .bool false, .slice none 0 0, .slice none 0 0]).cells[· % (Value.agg #[.int .i64 0, .slice none 0 0, .bool false, .slice none 0 0, .slice none 0 0]).cells.size]!)) [(0, .agg #[.int .i64 v1, .slice T1 l1 t1, .bool s1, .slice A1 n1 c1, .slice B1 m1 d1]), (1, .agg #[.int .i64 v2, .slice T2 l2 t2, .bool s2, .slice A2 n2 c2, .slice B2 m2 d2])] = some #[.int .i64 v1, .slice T1 l1 t1, .bool s1, .slice A1 n1 c1, .slice B1 m1 d1, .int .i64 v2, .slice T2 l2 t2, .bool s2, .slice A2 n2 c2, .slice B2 m2 d2] := by kernel_rfl
theorem fillQ2b (s1 : Bool) (A1 : Option Addr) (n1 c1 : Nat) (B1 : Option Addr) (m1 d1 : Nat) (s2 : Bool) (A2 : Option Addr) (n2 c2 : Nat) (B2 : Option Addr) (m2 d2 : Nat) : Instr.fill (fun i => some (i * 3, 3)) ((Array.range (2 * 3)).map ((Value.agg #[.bool false, .slice none 0 0, .slice none 0 0]).cells[· % (Value.agg #[.bool false, .slice none 0 0, .slice none 0 0]).cells.size]!)) [(0, .agg #[.bool s1, .slice A1 n1 c1, .slice B1 m1 d1]), (1, .agg #[.bool s2, .slice A2 n2 c2, .slice B2 m2 d2])] = some #[.bool s1, .slice A1 n1 c1, .slice B1 m1 d1, .bool s2, .slice A2 n2 c2, .slice B2 m2 d2] := by kernel_rfl
theorem fillI2 (a b : Int) : Instr.fill (fun i => some (i * 1, 1)) ((Array.range (2 * 1)).map ((Value.int .i64 0).cells[· % (Value.int .i64 0).cells.size]!)) [(0, .int .i64 a), (1, .int .i64 b)] = some #[.int .i64 a, .int .i64 b] := by kernel_rfl
theorem k_sm : ∀ c ∈ [kA, kB], SmC 150 c := fun c hc => by
  have h1 : ∀ z : Int, z.natAbs < 4294967296 → SmQ 150 (QR.nf ((z : Int) : Rat)) := fun z hz => ⟨Nat.le_trans (nf_sm2 hz).1 (by decide), Nat.le_trans (nf_sm2 hz).2 (by decide)⟩
  rcases List.mem_cons.1 hc with rfl | hc
  · exact ⟨by show 2 ≤ 150; decide, h1 _ (by decide), fun t ht => by
      rcases List.mem_cons.1 ht with rfl | ht
      · exact h1 _ (by decide)
      · rw [List.mem_singleton.1 ht]; exact h1 _ (by decide)⟩
  · rw [List.mem_singleton.1 hc]
    exact ⟨by show 1 ≤ 150; decide, h1 _ (by decide), fun t ht => by rw [List.mem_singleton.1 ht]; exact h1 _ (by decide)⟩
theorem k_smL : ∀ c ∈ [kA, kB], SmC 1099511627776 c := fun c hc => smC_up (k_sm c hc) (by decide)
theorem k_smV : ∀ q ∈ kV 1 1, SmQ 3 q := fun q hq => by
  have h1 : SmQ 3 (QR.nf ((1 : Int) : Rat)) := ⟨Nat.le_trans (nf_sm2 (z := 1) (by decide)).1 (by decide), Nat.le_trans (nf_sm2 (z := 1) (by decide)).2 (by decide)⟩
  rcases List.mem_cons.1 hq with rfl | hq
  · exact h1
  · rw [List.mem_singleton.1 hq]; exact h1
end Go.Proofs.YtdfnkbdnnflcpaaGreat
end
section
namespace Go.Proofs.YtdfnkbdnnflcpaaGreat
open Go.RowKit
set_option linter.unusedVariables false
set_option linter.unusedSimpArgs false
set_option maxRecDepth 10000
set_option maxHeartbeats 4000000 in
theorem c_known14 {w : World} :
    Ret Tryz.prog 7 #[] w (fun r w' => r = .bool true ∧ Mod [] w w') := by
 have hbd : Bd [] w := fun m h9 => by cases h9
 refine Ret.of (vs := []) (n := 59) Tryz.func7 rfl rfl rfl rfl ?_
 have hm0 : Mod [] w w := Mod.refl _ _
 refine W.seq <| W.region <| L.v (R1.assign rfl) rfl <| L.nil <| X.seq <| W.seq <| W.region <| L.call rfl (c_ref2_Int (n := 1) (by decide) (by decide) hbd) rfl ?_
 rintro _ w1 ⟨⟨A7, c7, B7, e7, rfl, hn7, hd7⟩, hm1⟩
 replace hbd := hbd.gr hm1
 replace hm0 := hm0.trans hm1
 clear hm1
 have F7 := Fit.int (n := 1) (by decide) (by decide)
 refine L.alloc tyZ40 rfl ?_
 intro g1 w2 hN1
 replace hbd := hbd.new hN1
 have hge_g1 := New.ge hN1 hm0.size
 replace hm0 := hm0.trans (hN1.mod.mono (by simp))
 replace hn7 := hn7.new hN1
 replace hd7 := hd7.new hN1
 have hb1 := hN1.blk
 clear hN1
 refine L.storeBox rfl rfl hb1 rfl rfl tyG40 ?_
 intro w3 hb1' hm3
 replace hbd := hbd.gr hm3
 replace hm0 := hm0.old1 hm3 hge_g1
 replace hn7 := hn7.mod hm3 (by simp)
 replace hd7 := hd7.mod hm3 (by simp)
 clear hm3
 replace hb1 := hb1'; clear hb1'
 refine L.nil <| X.seq <| W.seq <| W.cut (ι := Nat × Nat × Nat × Option Addr × Nat × Option Addr × Nat × Option Addr × Nat × Option Addr × Nat) (fun (g1, g2, g12, A7, c7, B7, e7, A13, c13, B13, e13) => [(1, .pointer (some ⟨g1, 0, none⟩)), (2, .pointer (some ⟨g2, 0, none⟩))]) (fun (g1, g2, g12, A7, c7, B7, e7, A13, c13, B13, e13) w_ => U32 [] w_ (.slice A7 (toL (((1 : Int)) : Rat).num.natAbs).length c7) (toL (((1 : Int)) : Rat).num.natAbs) ∧ U32 [] w_ (.slice B7 (toL (((1 : Int)) : Rat).den).length e7) (toL (((1 : Int)) : Rat).den) ∧ Blk w_ g1 40 #[.bool (decide ((((1 : Int)) : Rat).num < 0)), .slice A7 (toL (((1 : Int)) : Rat).num.natAbs).length c7, .slice B7 (toL (((1 : Int)) : Rat).den).length e7] ∧ Lay rdT [] w_ (.slice (some ⟨g12, 0, none⟩) 2 2) kA.ts ∧ U32 [] w_ (.slice A13 (toL (((0 : Int)) : Rat).num.natAbs).length c13) (toL (((0 : Int)) : Rat).num.natAbs) ∧ U32 [] w_ (.slice B13 (toL (((0 : Int)) : Rat).den).length e13) (toL (((0 : Int)) : Rat).den) ∧ Blk w_ g2 42 #[.int .i64 0, .slice (some ⟨g12, 0, none⟩) 2 2, .bool (decide ((((0 : Int)) : Rat).num < 0)), .slice A13 (toL (((0 : Int)) : Rat).num.natAbs).length c13, .slice B13 (toL (((0 : Int)) : Rat).den).length e13] ∧ g1 ≠ g2 ∧ Bd [] w_ ∧ Mod [] w w_) ?_ ?_
 ·
  refine W.drawW (T := [8]) rfl (by decide +kernel) (NoHang.join (NoHang.then NoHang.post)) (fun w4 hm4 => ?_)
  replace hbd := hbd.gr hm4
  replace hm0 := hm0.trans hm4
  replace hn7 := hn7.gr hm4
  replace hd7 := hd7.gr hm4
  replace hb1 := Blk.gr hb1 hm4
  have hS1 : Mod [] w4 w4 := Mod.refl _ _
  clear hm4
  have hb1_s := hb1
  refine D.take 0 rfl (by decide +kernel) (fun w_ hS => (R1.loadBox rfl (Blk.gr hb1_s hS) tyG40)) hS1 rfl <| D.take 1 rfl (by decide +kernel) (fun w_ hS => (R1.build (vs := [.int .i64 0, .agg #[.bool (decide ((((1 : Int)) : Rat).num < 0)), .slice A7 (toL (((1 : Int)) : Rat).num.natAbs).length c7, .slice B7 (toL (((1 : Int)) : Rat).den).length e7]]) rfl (built_T01 _ _ _ _ _ _ _ _))) hS1 rfl <| D.many (rs := [2, 7]) (by decide +kernel) rfl ?_
  intro i_ hi_
  simp only [List.mem_cons, List.not_mem_nil, or_false] at hi_
  rcases hi_ with rfl | rfl
  ·
   refine ⟨_, rfl, fun hX => ?_⟩
   refine L.call rfl (c_ref2_Int (n := -1) (by decide) (by decide) hbd) rfl ?_
   rintro _ w5 ⟨⟨A10, c10, B10, e10, rfl, hn10, hd10⟩, hm5⟩
   replace hbd := hbd.gr hm5
   replace hm0 := hm0.trans hm5
   replace hn7 := hn7.gr hm5
   replace hd7 := hd7.gr hm5
   replace hb1 := Blk.gr hb1 hm5
   replace hS1 := hS1.trans hm5
   clear hm5
   have F10 := Fit.int (n := -1) (by decide) (by decide)
   refine L.nil (hX _ _ ⟨.inr hS1, ?_⟩)
   refine D.take 3 rfl (by decide +kernel) (fun w_ hS => (R1.build (vs := [.int .i64 1, .agg #[.bool (decide ((((-1 : Int)) : Rat).num < 0)), .slice A10 (toL (((-1 : Int)) : Rat).num.natAbs).length c10, .slice B10 (toL (((-1 : Int)) : Rat).den).length e10]]) rfl (built_T01 _ _ _ _ _ _ _ _))) hS1 rfl <| D.many (rs := [4, 5, 7]) (by decide +kernel) rfl ?_
   intro i_ hi_
   simp only [List.mem_cons, List.not_mem_nil, or_false] at hi_
   rcases hi_ with rfl | rfl | rfl
   ·
    refine ⟨_, rfl, fun hX => ?_⟩
    refine L.buildSlice (cells := [.int .i64 0, .bool (decide ((((1 : Int)) : Rat).num < 0)), .slice A7 (toL (((1 : Int)) : Rat).num.natAbs).length c7, .slice B7 (toL (((1 : Int)) : Rat).den).length e7, .int .i64 1, .bool (decide ((((-1 : Int)) : Rat).num < 0)), .slice A10 (toL (((-1 : Int)) : Rat).num.natAbs).length c10, .slice B10 (toL (((-1 : Int)) : Rat).den).length e10]) rfl tyS37 tyZ46 (fillT2 _ _ _ _ _ _ _ _ _ _ _ _ _ _ _ _) (by decide) (by decide) rfl ?_
    intro g12 w6 hN12
    replace hS1 := hS1.trans hN12.mod
    replace hbd := hbd.new hN12
    replace hm0 := hm0.trans (hN12.mod.mono (by simp))
    replace hn7 := hn7.new hN12
    replace hd7 := hd7.new hN12
    replace hb1 := Blk.gr hb1 hN12.mod
    replace hn10 := hn10.new hN12
    replace hd10 := hd10.new hN12
    have hb12 := hN12.blk
    clear hN12
    refine L.nil (hX _ _ ⟨.inr hS1, ?_⟩)
    refine D.many (rs := [5, 7]) (by decide +kernel) rfl ?_
    intro i_ hi_
    simp only [List.mem_cons, List.not_mem_nil, or_false] at hi_
    rcases hi_ with rfl | rfl
    ·
     refine ⟨_, rfl, fun hX => ?_⟩
     refine L.call rfl (c_ref2_Int (n := 0) (by decide) (by decide) hbd) rfl ?_
     rintro _ w7 ⟨⟨A13, c13, B13, e13, rfl, hn13, hd13⟩, hm7⟩
     replace hbd := hbd.gr hm7
     replace hm0 := hm0.trans hm7
     replace hn7 := hn7.gr hm7
     replace hd7 := hd7.gr hm7
     replace hb1 := Blk.gr hb1 hm7
     replace hn10 := hn10.gr hm7
     replace hd10 := hd10.gr hm7
     replace hb12 := Blk.gr hb12 hm7
     replace hS1 := hS1.trans hm7
     clear hm7
     have F13 := Fit.int (n := 0) (by decide) (by decide)
     refine L.nil (hX _ _ ⟨.inr hS1, ?_⟩)
     refine D.take 6 rfl (by decide +kernel) (fun w_ hS => (R1.build (vs := [.slice (some ⟨g12, 0, none⟩) 2 2, .agg #[.bool (decide ((((0 : Int)) : Rat).num < 0)), .slice A13 (toL (((0 : Int)) : Rat).num.natAbs).length c13, .slice B13 (toL (((0 : Int)) : Rat).den).length e13]]) rfl (built_C12 _ _ _ _ _ _ _ _ _ _))) hS1 rfl <| D.one 7 rfl (by decide +kernel) (fun hX => ?_)
     refine L.alloc tyZ42 rfl ?_
     intro g2 w8 hN2
     replace hS1 := hS1.trans hN2.mod
     replace hbd := hbd.new hN2
     have hge_g2 := New.ge hN2 hm0.size
     replace hm0 := hm0.trans (hN2.mod.mono (by simp))
     replace hn7 := hn7.new hN2
     replace hd7 := hd7.new hN2
     have hne_g1_g2 := hb1.ne_ hN2
     replace hb1 := Blk.gr hb1 hN2.mod
     replace hn10 := hn10.new hN2
     replace hd10 := hd10.new hN2
     have hne_g12_g2 := hb12.ne_ hN2
     replace hb12 := Blk.gr hb12 hN2.mod
     replace hn13 := hn13.new hN2
     replace hd13 := hd13.new hN2
     have hb2 := hN2.blk
     clear hN2
     refine L.nil (hX _ _ ⟨.inr hS1, ?_⟩)
     refine D.one 8 rfl (by decide +kernel) (fun hX => ?_)
     refine L.storeBox rfl rfl hb2 rfl rfl tyG42 ?_
     intro w9 hb2' hm9
     replace hbd := hbd.gr hm9
     replace hm0 := hm0.old1 hm9 hge_g2
     replace hn7 := hn7.mod hm9 (by simp)
     replace hd7 := hd7.mod hm9 (by simp)
     replace hb1 := Blk.far hb1 hm9 (by first | exact hne_g1_g2 | exact (hne_g2_g1).symm)
     replace hn10 := hn10.mod hm9 (by simp)
     replace hd10 := hd10.mod hm9 (by simp)
     replace hb12 := Blk.far hb12 hm9 (by first | exact hne_g12_g2 | exact (hne_g2_g12).symm)
     replace hn13 := hn13.mod hm9 (by simp)
     replace hd13 := hd13.mod hm9 (by simp)
     clear hm9
     replace hb2 := hb2'; clear hb2'
     refine L.nil (hX _ _ ⟨.inl rfl, ?_⟩)
     refine D.done (by decide +kernel) ?_ _
     refine X.join (g1, g2, g12, A7, c7, B7, e7, A13, c13, B13, e13) ?_ ?_
     · exact ⟨rfl, rfl, trivial⟩
     ·
      have hTA : Lay rdT [] w9 (.slice (some ⟨g12, 0, none⟩) 2 2) kA.ts := Lay.of_blk (css := [[.int .i64 0, .bool (decide ((((1 : Int)) : Rat).num < 0)), .slice A7 (toL (((1 : Int)) : Rat).num.natAbs).length c7, .slice B7 (toL (((1 : Int)) : Rat).den).length e7], [.int .i64 1, .bool (decide ((((-1 : Int)) : Rat).num < 0)), .slice A10 (toL (((-1 : Int)) : Rat).num.natAbs).length c10, .slice B10 (toL (((-1 : Int)) : Rat).den).length e10]]) hb12 ((LayL.one _ (⟨0, QR.nf (((1 : Int)) : Rat)⟩ : TR) (rdT_mk (t := ⟨0, QR.nf (((1 : Int)) : Rat)⟩) (hn7.sub (M' := []) (fun b hb => by cases hb)) (hd7.sub (M' := []) (fun b hb => by cases hb)))).append (LayL.one _ (⟨1, QR.nf (((-1 : Int)) : Rat)⟩ : TR) (rdT_mk (t := ⟨1, QR.nf (((-1 : Int)) : Rat)⟩) (hn10.sub (M' := []) (fun b hb => by cases hb)) (hd10.sub (M' := []) (fun b hb => by cases hb))))) rfl rfl (by decide) (by simp)
      exact ⟨hn7.sub (fun b hb => by cases hb), hd7.sub (fun b hb => by cases hb), hb1, hTA.sub (fun b hb => by cases hb), hn13.sub (fun b hb => by cases hb), hd13.sub (fun b hb => by cases hb), hb2, hne_g1_g2, hbd.sub (fun b hb => by cases hb), hm0⟩
    ·
     refine ⟨_, rfl, fun hX => ?_⟩
     refine L.alloc tyZ42 rfl ?_
     intro g2 w10 hN2
     replace hS1 := hS1.trans hN2.mod
     replace hbd := hbd.new hN2
     have hge_g2 := New.ge hN2 hm0.size
     replace hm0 := hm0.trans (hN2.mod.mono (by simp))
     replace hn7 := hn7.new hN2
     replace hd7 := hd7.new hN2
     have hne_g1_g2 := hb1.ne_ hN2
     replace hb1 := Blk.gr hb1 hN2.mod
     replace hn10 := hn10.new hN2
     replace hd10 := hd10.new hN2
     have hne_g12_g2 := hb12.ne_ hN2
     replace hb12 := Blk.gr hb12 hN2.mod
     have hb2 := hN2.blk
     clear hN2
     refine L.nil (hX _ _ ⟨.inr hS1, ?_⟩)
     refine D.one 5 rfl (by decide +kernel) (fun hX => ?_)
     refine L.call rfl (c_ref2_Int (n := 0) (by decide) (by decide) hbd) rfl ?_
     rintro _ w11 ⟨⟨A13, c13, B13, e13, rfl, hn13, hd13⟩, hm11⟩
     replace hbd := hbd.gr hm11
     replace hm0 := hm0.trans hm11
     replace hn7 := hn7.gr hm11
     replace hd7 := hd7.gr hm11
     replace hb1 := Blk.gr hb1 hm11
     replace hn10 := hn10.gr hm11
     replace hd10 := hd10.gr hm11
     replace hb12 := Blk.gr hb12 hm11
     replace hb2 := Blk.gr hb2 hm11
     replace hS1 := hS1.trans hm11
     clear hm11
     have F13 := Fit.int (n := 0) (by decide) (by decide)
     refine L.nil (hX _ _ ⟨.inr hS1, ?_⟩)
     refine D.take 6 rfl (by decide +kernel) (fun w_ hS => (R1.build (vs := [.slice (some ⟨g12, 0, none⟩) 2 2, .agg #[.bool (decide ((((0 : Int)) : Rat).num < 0)), .slice A13 (toL (((0 : Int)) : Rat).num.natAbs).length c13, .slice B13 (toL (((0 : Int)) : Rat).den).length e13]]) rfl (built_C12 _ _ _ _ _ _ _ _ _ _))) hS1 rfl <| D.one 8 rfl (by decide +kernel) (fun hX => ?_)
     refine L.storeBox rfl rfl hb2 rfl rfl tyG42 ?_
     intro w12 hb2' hm12
     replace hbd := hbd.gr hm12
     replace hm0 := hm0.old1 hm12 hge_g2
     replace hn7 := hn7.mod hm12 (by simp)
     replace hd7 := hd7.mod hm12 (by simp)
     replace hb1 := Blk.far hb1 hm12 (by first | exact hne_g1_g2 | exact (hne_g2_g1).symm)
     replace hn10 := hn10.mod hm12 (by simp)
     replace hd10 := hd10.mod hm12 (by simp)
     replace hb12 := Blk.far hb12 hm12 (by first | exact hne_g12_g2 | exact (hne_g2_g12).symm)
     replace hn13 := hn13.mod hm12 (by simp)
     replace hd13 := hd13.mod hm12 (by simp)
     clear hm12
     replace hb2 := hb2'; clear hb2'
     refine L.nil (hX _ _ ⟨.inl rfl, ?_⟩)
     refine D.done (by decide +kernel) ?_ _
     refine X.join (g1, g2, g12, A7, c7, B7, e7, A13, c13, B13, e13) ?_ ?_
     · exact ⟨rfl, rfl, trivial⟩
     ·
      have hTA : Lay rdT [] w12 (.slice (some ⟨g12, 0, none⟩) 2 2) kA.ts := Lay.of_blk (css := [[.int .i64 0, .bool (decide ((((1 : Int)) : Rat).num < 0)), .slice A7 (toL (((1 : Int)) : Rat).num.natAbs).length c7, .slice B7 (toL (((1 : Int)) : Rat).den).length e7], [.int .i64 1, .bool (decide ((((-1 : Int)) : Rat).num < 0)), .slice A10 (toL (((-1 : Int)) : Rat).num.natAbs).length c10, .slice B10 (toL (((-1 : Int)) : Rat).den).length e10]]) hb12 ((LayL.one _ (⟨0, QR.nf (((1 : Int)) : Rat)⟩ : TR) (rdT_mk (t := ⟨0, QR.nf (((1 : Int)) : Rat)⟩) (hn7.sub (M' := []) (fun b hb => by cases hb)) (hd7.sub (M' := []) (fun b hb => by cases hb)))).append (LayL.one _ (⟨1, QR.nf (((-1 : Int)) : Rat)⟩ : TR) (rdT_mk (t := ⟨1, QR.nf (((-1 : Int)) : Rat)⟩) (hn10.sub (M' := []) (fun b hb => by cases hb)) (hd10.sub (M' := []) (fun b hb => by cases hb))))) rfl rfl (by decide) (by simp)
      exact ⟨hn7.sub (fun b hb => by cases hb), hd7.sub (fun b hb => by cases hb), hb1, hTA.sub (fun b hb => by cases hb), hn13.sub (fun b hb => by cases hb), hd13.sub (fun b hb => by cases hb), hb2, hne_g1_g2, hbd.sub (fun b hb => by cases hb), hm0⟩
   ·
    refine ⟨_, rfl, fun hX => ?_⟩
    refine L.call rfl (c_ref2_Int (n := 0) (by decide) (by decide) hbd) rfl ?_
    rintro _ w13 ⟨⟨A13, c13, B13, e13, rfl, hn13, hd13⟩, hm13⟩
    replace hbd := hbd.gr hm13
    replace hm0 := hm0.trans hm13
    replace hn7 := hn7.gr hm13
    replace hd7 := hd7.gr hm13
    replace hb1 := Blk.gr hb1 hm13
    replace hn10 := hn10.gr hm13
    replace hd10 := hd10.gr hm13
    replace hS1 := hS1.trans hm13
    clear hm13
    have F13 := Fit.int (n := 0) (by decide) (by decide)
    refine L.nil (hX _ _ ⟨.inr hS1, ?_⟩)
    refine D.many (rs := [4, 7]) (by decide +kernel) rfl ?_
    intro i_ hi_
    simp only [List.mem_cons, List.not_mem_nil, or_false] at hi_
    rcases hi_ with rfl | rfl
    ·
     refine ⟨_, rfl, fun hX => ?_⟩
     refine L.buildSlice (cells := [.int .i64 0, .bool (decide ((((1 : Int)) : Rat).num < 0)), .slice A7 (toL (((1 : Int)) : Rat).num.natAbs).length c7, .slice B7 (toL (((1 : Int)) : Rat).den).length e7, .int .i64 1, .bool (decide ((((-1 : Int)) : Rat).num < 0)), .slice A10 (toL (((-1 : Int)) : Rat).num.natAbs).length c10, .slice B10 (toL (((-1 : Int)) : Rat).den).length e10]) rfl tyS37 tyZ46 (fillT2 _ _ _ _ _ _ _ _ _ _ _ _ _ _ _ _) (by decide) (by decide) rfl ?_
     intro g12 w14 hN12
     replace hS1 := hS1.trans hN12.mod
     replace hbd := hbd.new hN12
     replace hm0 := hm0.trans (hN12.mod.mono (by simp))
     replace hn7 := hn7.new hN12
     replace hd7 := hd7.new hN12
     replace hb1 := Blk.gr hb1 hN12.mod
     replace hn10 := hn10.new hN12
     replace hd10 := hd10.new hN12
     replace hn13 := hn13.new hN12
     replace hd13 := hd13.new hN12
     have hb12 := hN12.blk
     clear hN12
     refine L.nil (hX _ _ ⟨.inr hS1, ?_⟩)
     refine D.take 6 rfl (by decide +kernel) (fun w_ hS => (R1.build (vs := [.slice (some ⟨g12, 0, none⟩) 2 2, .agg #[.bool (decide ((((0 : Int)) : Rat).num < 0)), .slice A13 (toL (((0 : Int)) : Rat).num.natAbs).length c13, .slice B13 (toL (((0 : Int)) : Rat).den).length e13]]) rfl (built_C12 _ _ _ _ _ _ _ _ _ _))) hS1 rfl <| D.one 7 rfl (by decide +kernel) (fun hX => ?_)
     refine L.alloc tyZ42 rfl ?_
     intro g2 w15 hN2
     replace hS1 := hS1.trans hN2.mod
     replace hbd := hbd.new hN2
     have hge_g2 := New.ge hN2 hm0.size
     replace hm0 := hm0.trans (hN2.mod.mono (by simp))
     replace hn7 := hn7.new hN2
     replace hd7 := hd7.new hN2
     have hne_g1_g2 := hb1.ne_ hN2
     replace hb1 := Blk.gr hb1 hN2.mod
     replace hn10 := hn10.new hN2
     replace hd10 := hd10.new hN2
     replace hn13 := hn13.new hN2
     replace hd13 := hd13.new hN2
     have hne_g12_g2 := hb12.ne_ hN2
     replace hb12 := Blk.gr hb12 hN2.mod
     have hb2 := hN2.blk
     clear hN2
     refine L.nil (hX _ _ ⟨.inr hS1, ?_⟩)
     refine D.one 8 rfl (by decide +kernel) (fun hX => ?_)
     refine L.storeBox rfl rfl hb2 rfl rfl tyG42 ?_
     intro w16 hb2' hm16
     replace hbd := hbd.gr hm16
     replace hm0 := hm0.old1 hm16 hge_g2
     replace hn7 := hn7.mod hm16 (by simp)
     replace hd7 := hd7.mod hm16 (by simp)
     replace hb1 := Blk.far hb1 hm16 (by first | exact hne_g1_g2 | exact (hne_g2_g1).symm)
     replace hn10 := hn10.mod hm16 (by simp)
     replace hd10 := hd10.mod hm16 (by simp)
     replace hn13 := hn13.mod hm16 (by simp)
     replace hd13 := hd13.mod hm16 (by simp)
     replace hb12 := Blk.far hb12 hm16 (by first | exact hne_g12_g2 | exact (hne_g2_g12).symm)
     clear hm16
     replace hb2 := hb2'; clear hb2'
     refine L.nil (hX _ _ ⟨.inl rfl, ?_⟩)
     refine D.done (by decide +kernel) ?_ _
     refine X.join (g1, g2, g12, A7, c7, B7, e7, A13, c13, B13, e13) ?_ ?_
     · exact ⟨rfl, rfl, trivial⟩
     ·
      have hTA : Lay rdT [] w16 (.slice (some ⟨g12, 0, none⟩) 2 2) kA.ts := Lay.of_blk (css := [[.int .i64 0, .bool (decide ((((1 : Int)) : Rat).num < 0)), .slice A7 (toL (((1 : Int)) : Rat).num.natAbs).length c7, .slice B7 (toL (((1 : Int)) : Rat).den).length e7], [.int .i64 1, .bool (decide ((((-1 : Int)) : Rat).num < 0)), .slice A10 (toL (((-1 : Int)) : Rat).num.natAbs).length c10, .slice B10 (toL (((-1 : Int)) : Rat).den).length e10]]) hb12 ((LayL.one _ (⟨0, QR.nf (((1 : Int)) : Rat)⟩ : TR) (rdT_mk (t := ⟨0, QR.nf (((1 : Int)) : Rat)⟩) (hn7.sub (M' := []) (fun b hb => by cases hb)) (hd7.sub (M' := []) (fun b hb => by cases hb)))).append (LayL.one _ (⟨1, QR.nf (((-1 : Int)) : Rat)⟩ : TR) (rdT_mk (t := ⟨1, QR.nf (((-1 : Int)) : Rat)⟩) (hn10.sub (M' := []) (fun b hb => by cases hb)) (hd10.sub (M' := []) (fun b hb => by cases hb))))) rfl rfl (by decide) (by simp)
      exact ⟨hn7.sub (fun b hb => by cases hb), hd7.sub (fun b hb => by cases hb), hb1, hTA.sub (fun b hb => by cases hb), hn13.sub (fun b hb => by cases hb), hd13.sub (fun b hb => by cases hb), hb2, hne_g1_g2, hbd.sub (fun b hb => by cases hb), hm0⟩
    ·
     refine ⟨_, rfl, fun hX => ?_⟩
     refine L.alloc tyZ42 rfl ?_
     intro g2 w17 hN2
     replace hS1 := hS1.trans hN2.mod
     replace hbd := hbd.new hN2
     have hge_g2 := New.ge hN2 hm0.size
     replace hm0 := hm0.trans (hN2.mod.mono (by simp))
     replace hn7 := hn7.new hN2
     replace hd7 := hd7.new hN2
     have hne_g1_g2 := hb1.ne_ hN2
     replace hb1 := Blk.gr hb1 hN2.mod
     replace hn10 := hn10.new hN2
     replace hd10 := hd10.new hN2
     replace hn13 := hn13.new hN2
     replace hd13 := hd13.new hN2
     have hb2 := hN2.blk
     clear hN2
     refine L.nil (hX _ _ ⟨.inr hS1, ?_⟩)
     refine D.one 4 rfl (by decide +kernel) (fun hX => ?_)
     refine L.buildSlice (cells := [.int .i64 0, .bool (decide ((((1 : Int)) : Rat).num < 0)), .slice A7 (toL (((1 : Int)) : Rat).num.natAbs).length c7, .slice B7 (toL (((1 : Int)) : Rat).den).length e7, .int .i64 1, .bool (decide ((((-1 : Int)) : Rat).num < 0)), .slice A10 (toL (((-1 : Int)) : Rat).num.natAbs).length c10, .slice B10 (toL (((-1 : Int)) : Rat).den).length e10]) rfl tyS37 tyZ46 (fillT2 _ _ _ _ _ _ _ _ _ _ _ _ _ _ _ _) (by decide) (by decide) rfl ?_
     intro g12 w18 hN12
     replace hS1 := hS1.trans hN12.mod
     replace hbd := hbd.new hN12
     replace hm0 := hm0.trans (hN12.mod.mono (by simp))
     replace hn7 := hn7.new hN12
     replace hd7 := hd7.new hN12
     replace hb1 := Blk.gr hb1 hN12.mod
     replace hn10 := hn10.new hN12
     replace hd10 := hd10.new hN12
     replace hn13 := hn13.new hN12
     replace hd13 := hd13.new hN12
     have hne_g2_g12 := hb2.ne_ hN12
     replace hb2 := Blk.gr hb2 hN12.mod
     have hb12 := hN12.blk
     clear hN12
     refine L.nil (hX _ _ ⟨.inr hS1, ?_⟩)
     refine D.take 6 rfl (by decide +kernel) (fun w_ hS => (R1.build (vs := [.slice (some ⟨g12, 0, none⟩) 2 2, .agg #[.bool (decide ((((0 : Int)) : Rat).num < 0)), .slice A13 (toL (((0 : Int)) : Rat).num.natAbs).length c13, .slice B13 (toL (((0 : Int)) : Rat).den).length e13]]) rfl (built_C12 _ _ _ _ _ _ _ _ _ _))) hS1 rfl <| D.one 8 rfl (by decide +kernel) (fun hX => ?_)
     refine L.storeBox rfl rfl hb2 rfl rfl tyG42 ?_
     intro w19 hb2' hm19
     replace hbd := hbd.gr hm19
     replace hm0 := hm0.old1 hm19 hge_g2
     replace hn7 := hn7.mod hm19 (by simp)
     replace hd7 := hd7.mod hm19 (by simp)
     replace hb1 := Blk.far hb1 hm19 (by first | exact hne_g1_g2 | exact (hne_g2_g1).symm)
     replace hn10 := hn10.mod hm19 (by simp)
     replace hd10 := hd10.mod hm19 (by simp)
     replace hn13 := hn13.mod hm19 (by simp)
     replace hd13 := hd13.mod hm19 (by simp)
     replace hb12 := Blk.far hb12 hm19 (by first | exact hne_g12_g2 | exact (hne_g2_g12).symm)
     clear hm19
     replace hb2 := hb2'; clear hb2'
     refine L.nil (hX _ _ ⟨.inl rfl, ?_⟩)
     refine D.done (by decide +kernel) ?_ _
     refine X.join (g1, g2, g12, A7, c7, B7, e7, A13, c13, B13, e13) ?_ ?_
     · exact ⟨rfl, rfl, trivial⟩
     ·
      have hTA : Lay rdT [] w19 (.slice (some ⟨g12, 0, none⟩) 2 2) kA.ts := Lay.of_blk (css := [[.int .i64 0, .bool (decide ((((1 : Int)) : Rat).num < 0)), .slice A7 (toL (((1 : Int)) : Rat).num.natAbs).length c7, .slice B7 (toL (((1 : Int)) : Rat).den).length e7], [.int .i64 1, .bool (decide ((((-1 : Int)) : Rat).num < 0)), .slice A10 (toL (((-1 : Int)) : Rat).num.natAbs).length c10, .slice B10 (toL (((-1 : Int)) : Rat).den).length e10]]) hb12 ((LayL.one _ (⟨0, QR.nf (((1 : Int)) : Rat)⟩ : TR) (rdT_mk (t := ⟨0, QR.nf (((1 : Int)) : Rat)⟩) (hn7.sub (M' := []) (fun b hb => by cases hb)) (hd7.sub (M' := []) (fun b hb => by cases hb)))).append (LayL.one _ (⟨1, QR.nf (((-1 : Int)) : Rat)⟩ : TR) (rdT_mk (t := ⟨1, QR.nf (((-1 : Int)) : Rat)⟩) (hn10.sub (M' := []) (fun b hb => by cases hb)) (hd10.sub (M' := []) (fun b hb => by cases hb))))) rfl rfl (by decide) (by simp)
      exact ⟨hn7.sub (fun b hb => by cases hb), hd7.sub (fun b hb => by cases hb), hb1, hTA.sub (fun b hb => by cases hb), hn13.sub (fun b hb => by cases hb), hd13.sub (fun b hb => by cases hb), hb2, hne_g1_g2, hbd.sub (fun b hb => by cases hb), hm0⟩
   ·
    refine ⟨_, rfl, fun hX => ?_⟩
    refine L.alloc tyZ42 rfl ?_
    intro g2 w20 hN2
    replace hS1 := hS1.trans hN2.mod
    replace hbd := hbd.new hN2
    have hge_g2 := New.ge hN2 hm0.size
    replace hm0 := hm0.trans (hN2.mod.mono (by simp))
    replace hn7 := hn7.new hN2
    replace hd7 := hd7.new hN2
    have hne_g1_g2 := hb1.ne_ hN2
    replace hb1 := Blk.gr hb1 hN2.mod
    replace hn10 := hn10.new hN2
    replace hd10 := hd10.new hN2
    have hb2 := hN2.blk
    clear hN2
    refine L.nil (hX _ _ ⟨.inr hS1, ?_⟩)
    refine D.many (rs := [4, 5]) (by decide +kernel) rfl ?_
    intro i_ hi_
    simp only [List.mem_cons, List.not_mem_nil, or_false] at hi_
    rcases hi_ with rfl | rfl
    ·
     refine ⟨_, rfl, fun hX => ?_⟩
     refine L.buildSlice (cells := [.int .i64 0, .bool (decide ((((1 : Int)) : Rat).num < 0)), .slice A7 (toL (((1 : Int)) : Rat).num.natAbs).length c7, .slice B7 (toL (((1 : Int)) : Rat).den).length e7, .int .i64 1, .bool (decide ((((-1 : Int)) : Rat).num < 0)), .slice A10 (toL (((-1 : Int)) : Rat).num.natAbs).length c10, .slice B10 (toL (((-1 : Int)) : Rat).den).length e10]) rfl tyS37 tyZ46 (fillT2 _ _ _ _ _ _ _ _ _ _ _ _ _ _ _ _) (by decide) (by decide) rfl ?_
     intro g12 w21 hN12
     replace hS1 := hS1.trans hN12.mod
     replace hbd := hbd.new hN12
     replace hm0 := hm0.trans (hN12.mod.mono (by simp))
     replace hn7 := hn7.new hN12
     replace hd7 := hd7.new hN12
     replace hb1 := Blk.gr hb1 hN12.mod
     replace hn10 := hn10.new hN12
     replace hd10 := hd10.new hN12
     have hne_g2_g12 := hb2.ne_ hN12
     replace hb2 := Blk.gr hb2 hN12.mod
     have hb12 := hN12.blk
     clear hN12
     refine L.nil (hX _ _ ⟨.inr hS1, ?_⟩)
     refine D.one 5 rfl (by decide +kernel) (fun hX => ?_)
     refine L.call rfl (c_ref2_Int (n := 0) (by decide) (by decide) hbd) rfl ?_
     rintro _ w22 ⟨⟨A13, c13, B13, e13, rfl, hn13, hd13⟩, hm22⟩
     replace hbd := hbd.gr hm22
     replace hm0 := hm0.trans hm22
     replace hn7 := hn7.gr hm22
     replace hd7 := hd7.gr hm22
     replace hb1 := Blk.gr hb1 hm22
     replace hn10 := hn10.gr hm22
     replace hd10 := hd10.gr hm22
     replace hb2 := Blk.gr hb2 hm22
     replace hb12 := Blk.gr hb12 hm22
     replace hS1 := hS1.trans hm22
     clear hm22
     have F13 := Fit.int (n := 0) (by decide) (by decide)
     refine L.nil (hX _ _ ⟨.inr hS1, ?_⟩)
     refine D.take 6 rfl (by decide +kernel) (fun w_ hS => (R1.build (vs := [.slice (some ⟨g12, 0, none⟩) 2 2, .agg #[.bool (decide ((((0 : Int)) : Rat).num < 0)), .slice A13 (toL (((0 : Int)) : Rat).num.natAbs).length c13, .slice B13 (toL (((0 : Int)) : Rat).den).length e13]]) rfl (built_C12 _ _ _ _ _ _ _ _ _ _))) hS1 rfl <| D.one 8 rfl (by decide +kernel) (fun hX => ?_)
     refine L.storeBox rfl rfl hb2 rfl rfl tyG42 ?_
     intro w23 hb2' hm23
     replace hbd := hbd.gr hm23
     replace hm0 := hm0.old1 hm23 hge_g2
     replace hn7 := hn7.mod hm23 (by simp)
     replace hd7 := hd7.mod hm23 (by simp)
     replace hb1 := Blk.far hb1 hm23 (by first | exact hne_g1_g2 | exact (hne_g2_g1).symm)
     replace hn10 := hn10.mod hm23 (by simp)
     replace hd10 := hd10.mod hm23 (by simp)
     replace hb12 := Blk.far hb12 hm23 (by first | exact hne_g12_g2 | exact (hne_g2_g12).symm)
     replace hn13 := hn13.mod hm23 (by simp)
     replace hd13 := hd13.mod hm23 (by simp)
     clear hm23
     replace hb2 := hb2'; clear hb2'
     refine L.nil (hX _ _ ⟨.inl rfl, ?_⟩)
     refine D.done (by decide +kernel) ?_ _
     refine X.join (g1, g2, g12, A7, c7, B7, e7, A13, c13, B13, e13) ?_ ?_
     · exact ⟨rfl, rfl, trivial⟩
     ·
      have hTA : Lay rdT [] w23 (.slice (some ⟨g12, 0, none⟩) 2 2) kA.ts := Lay.of_blk (css := [[.int .i64 0, .bool (decide ((((1 : Int)) : Rat).num < 0)), .slice A7 (toL (((1 : Int)) : Rat).num.natAbs).length c7, .slice B7 (toL (((1 : Int)) : Rat).den).length e7], [.int .i64 1, .bool (decide ((((-1 : Int)) : Rat).num < 0)), .slice A10 (toL (((-1 : Int)) : Rat).num.natAbs).length c10, .slice B10 (toL (((-1 : Int)) : Rat).den).length e10]]) hb12 ((LayL.one _ (⟨0, QR.nf (((1 : Int)) : Rat)⟩ : TR) (rdT_mk (t := ⟨0, QR.nf (((1 : Int)) : Rat)⟩) (hn7.sub (M' := []) (fun b hb => by cases hb)) (hd7.sub (M' := []) (fun b hb => by cases hb)))).append (LayL.one _ (⟨1, QR.nf (((-1 : Int)) : Rat)⟩ : TR) (rdT_mk (t := ⟨1, QR.nf (((-1 : Int)) : Rat)⟩) (hn10.sub (M' := []) (fun b hb => by cases hb)) (hd10.sub (M' := []) (fun b hb => by cases hb))))) rfl rfl (by decide) (by simp)
      exact ⟨hn7.sub (fun b hb => by cases hb), hd7.sub (fun b hb => by cases hb), hb1, hTA.sub (fun b hb => by cases hb), hn13.sub (fun b hb => by cases hb), hd13.sub (fun b hb => by cases hb), hb2, hne_g1_g2, hbd.sub (fun b hb => by cases hb), hm0⟩
    ·
     refine ⟨_, rfl, fun hX => ?_⟩
     refine L.call rfl (c_ref2_Int (n := 0) (by decide) (by decide) hbd) rfl ?_
     rintro _ w24 ⟨⟨A13, c13, B13, e13, rfl, hn13, hd13⟩, hm24⟩
     replace hbd := hbd.gr hm24
     replace hm0 := hm0.trans hm24
     replace hn7 := hn7.gr hm24
     replace hd7 := hd7.gr hm24
     replace hb1 := Blk.gr hb1 hm24
     replace hn10 := hn10.gr hm24
     replace hd10 := hd10.gr hm24
     replace hb2 := Blk.gr hb2 hm24
     replace hS1 := hS1.trans hm24
     clear hm24
     have F13 := Fit.int (n := 0) (by decide) (by decide)
     refine L.nil (hX _ _ ⟨.inr hS1, ?_⟩)
     refine D.one 4 rfl (by decide +kernel) (fun hX => ?_)
     refine L.buildSlice (cells := [.int .i64 0, .bool (decide ((((1 : Int)) : Rat).num < 0)), .slice A7 (toL (((1 : Int)) : Rat).num.natAbs).length c7, .slice B7 (toL (((1 : Int)) : Rat).den).length e7, .int .i64 1, .bool (decide ((((-1 : Int)) : Rat).num < 0)), .slice A10 (toL (((-1 : Int)) : Rat).num.natAbs).length c10, .slice B10 (toL (((-1 : Int)) : Rat).den).length e10]) rfl tyS37 tyZ46 (fillT2 _ _ _ _ _ _ _ _ _ _ _ _ _ _ _ _) (by decide) (by decide) rfl ?_
     intro g12 w25 hN12
     replace hS1 := hS1.trans hN12.mod
     replace hbd := hbd.new hN12
     replace hm0 := hm0.trans (hN12.mod.mono (by simp))
     replace hn7 := hn7.new hN12
     replace hd7 := hd7.new hN12
     replace hb1 := Blk.gr hb1 hN12.mod
     replace hn10 := hn10.new hN12
     replace hd10 := hd10.new hN12
     have hne_g2_g12 := hb2.ne_ hN12
     replace hb2 := Blk.gr hb2 hN12.mod
     replace hn13 := hn13.new hN12
     replace hd13 := hd13.new hN12
     have hb12 := hN12.blk
     clear hN12
     refine L.nil (hX _ _ ⟨.inr hS1, ?_⟩)
     refine D.take 6 rfl (by decide +kernel) (fun w_ hS => (R1.build (vs := [.slice (some ⟨g12, 0, none⟩) 2 2, .agg #[.bool (decide ((((0 : Int)) : Rat).num < 0)), .slice A13 (toL (((0 : Int)) : Rat).num.natAbs).length c13, .slice B13 (toL (((0 : Int)) : Rat).den).length e13]]) rfl (built_C12 _ _ _ _ _ _ _ _ _ _))) hS1 rfl <| D.one 8 rfl (by decide +kernel) (fun hX => ?_)
     refine L.storeBox rfl rfl hb2 rfl rfl tyG42 ?_
     intro w26 hb2' hm26
     replace hbd := hbd.gr hm26
     replace hm0 := hm0.old1 hm26 hge_g2
     replace hn7 := hn7.mod hm26 (by simp)
     replace hd7 := hd7.mod hm26 (by simp)
     replace hb1 := Blk.far hb1 hm26 (by first | exact hne_g1_g2 | exact (hne_g2_g1).symm)
     replace hn10 := hn10.mod hm26 (by simp)
     replace hd10 := hd10.mod hm26 (by simp)
     replace hn13 := hn13.mod hm26 (by simp)
     replace hd13 := hd13.mod hm26 (by simp)
     replace hb12 := Blk.far hb12 hm26 (by first | exact hne_g12_g2 | exact (hne_g2_g12).symm)
     clear hm26
     replace hb2 := hb2'; clear hb2'
     refine L.nil (hX _ _ ⟨.inl rfl, ?_⟩)
     refine D.done (by decide +kernel) ?_ _
     refine X.join (g1, g2, g12, A7, c7, B7, e7, A13, c13, B13, e13) ?_ ?_
     · exact ⟨rfl, rfl, trivial⟩
     ·
      have hTA : Lay rdT [] w26 (.slice (some ⟨g12, 0, none⟩) 2 2) kA.ts := Lay.of_blk (css := [[.int .i64 0, .bool (decide ((((1 : Int)) : Rat).num < 0)), .slice A7 (toL (((1 : Int)) : Rat).num.natAbs).length c7, .slice B7 (toL (((1 : Int)) : Rat).den).length e7], [.int .i64 1, .bool (decide ((((-1 : Int)) : Rat).num < 0)), .slice A10 (toL (((-1 : Int)) : Rat).num.natAbs).length c10, .slice B10 (toL (((-1 : Int)) : Rat).den).length e10]]) hb12 ((LayL.one _ (⟨0, QR.nf (((1 : Int)) : Rat)⟩ : TR) (rdT_mk (t := ⟨0, QR.nf (((1 : Int)) : Rat)⟩) (hn7.sub (M' := []) (fun b hb => by cases hb)) (hd7.sub (M' := []) (fun b hb => by cases hb)))).append (LayL.one _ (⟨1, QR.nf (((-1 : Int)) : Rat)⟩ : TR) (rdT_mk (t := ⟨1, QR.nf (((-1 : Int)) : Rat)⟩) (hn10.sub (M' := []) (fun b hb => by cases hb)) (hd10.sub (M' := []) (fun b hb => by cases hb))))) rfl rfl (by decide) (by simp)
      exact ⟨hn7.sub (fun b hb => by cases hb), hd7.sub (fun b hb => by cases hb), hb1, hTA.sub (fun b hb => by cases hb), hn13.sub (fun b hb => by cases hb), hd13.sub (fun b hb => by cases hb), hb2, hne_g1_g2, hbd.sub (fun b hb => by cases hb), hm0⟩
  ·
   refine ⟨_, rfl, fun hX => ?_⟩
   refine L.alloc tyZ42 rfl ?_
   intro g2 w27 hN2
   replace hS1 := hS1.trans hN2.mod
   replace hbd := hbd.new hN2
   have hge_g2 := New.ge hN2 hm0.size
   replace hm0 := hm0.trans (hN2.mod.mono (by simp))
   replace hn7 := hn7.new hN2
   replace hd7 := hd7.new hN2
   have hne_g1_g2 := hb1.ne_ hN2
   replace hb1 := Blk.gr hb1 hN2.mod
   have hb2 := hN2.blk
   clear hN2
   refine L.nil (hX _ _ ⟨.inr hS1, ?_⟩)
   refine D.one 2 rfl (by decide +kernel) (fun hX => ?_)
   refine L.call rfl (c_ref2_Int (n := -1) (by decide) (by decide) hbd) rfl ?_
   rintro _ w28 ⟨⟨A10, c10, B10, e10, rfl, hn10, hd10⟩, hm28⟩
   replace hbd := hbd.gr hm28
   replace hm0 := hm0.trans hm28
   replace hn7 := hn7.gr hm28
   replace hd7 := hd7.gr hm28
   replace hb1 := Blk.gr hb1 hm28
   replace hb2 := Blk.gr hb2 hm28
   replace hS1 := hS1.trans hm28
   clear hm28
   have F10 := Fit.int (n := -1) (by decide) (by decide)
   refine L.nil (hX _ _ ⟨.inr hS1, ?_⟩)
   refine D.take 3 rfl (by decide +kernel) (fun w_ hS => (R1.build (vs := [.int .i64 1, .agg #[.bool (decide ((((-1 : Int)) : Rat).num < 0)), .slice A10 (toL (((-1 : Int)) : Rat).num.natAbs).length c10, .slice B10 (toL (((-1 : Int)) : Rat).den).length e10]]) rfl (built_T01 _ _ _ _ _ _ _ _))) hS1 rfl <| D.many (rs := [4, 5]) (by decide +kernel) rfl ?_
   intro i_ hi_
   simp only [List.mem_cons, List.not_mem_nil, or_false] at hi_
   rcases hi_ with rfl | rfl
   ·
    refine ⟨_, rfl, fun hX => ?_⟩
    refine L.buildSlice (cells := [.int .i64 0, .bool (decide ((((1 : Int)) : Rat).num < 0)), .slice A7 (toL (((1 : Int)) : Rat).num.natAbs).length c7, .slice B7 (toL (((1 : Int)) : Rat).den).length e7, .int .i64 1, .bool (decide ((((-1 : Int)) : Rat).num < 0)), .slice A10 (toL (((-1 : Int)) : Rat).num.natAbs).length c10, .slice B10 (toL (((-1 : Int)) : Rat).den).length e10]) rfl tyS37 tyZ46 (fillT2 _ _ _ _ _ _ _ _ _ _ _ _ _ _ _ _) (by decide) (by decide) rfl ?_
    intro g12 w29 hN12
    replace hS1 := hS1.trans hN12.mod
    replace hbd := hbd.new hN12
    replace hm0 := hm0.trans (hN12.mod.mono (by simp))
    replace hn7 := hn7.new hN12
    replace hd7 := hd7.new hN12
    replace hb1 := Blk.gr hb1 hN12.mod
    have hne_g2_g12 := hb2.ne_ hN12
    replace hb2 := Blk.gr hb2 hN12.mod
    replace hn10 := hn10.new hN12
    replace hd10 := hd10.new hN12
    have hb12 := hN12.blk
    clear hN12
    refine L.nil (hX _ _ ⟨.inr hS1, ?_⟩)
    refine D.one 5 rfl (by decide +kernel) (fun hX => ?_)
    refine L.call rfl (c_ref2_Int (n := 0) (by decide) (by decide) hbd) rfl ?_
    rintro _ w30 ⟨⟨A13, c13, B13, e13, rfl, hn13, hd13⟩, hm30⟩
    replace hbd := hbd.gr hm30
    replace hm0 := hm0.trans hm30
    replace hn7 := hn7.gr hm30
    replace hd7 := hd7.gr hm30
    replace hb1 := Blk.gr hb1 hm30
    replace hb2 := Blk.gr hb2 hm30
    replace hn10 := hn10.gr hm30
    replace hd10 := hd10.gr hm30
    replace hb12 := Blk.gr hb12 hm30
    replace hS1 := hS1.trans hm30
    clear hm30
    have F13 := Fit.int (n := 0) (by decide) (by decide)
    refine L.nil (hX _ _ ⟨.inr hS1, ?_⟩)
    refine D.take 6 rfl (by decide +kernel) (fun w_ hS => (R1.build (vs := [.slice (some ⟨g12, 0, none⟩) 2 2, .agg #[.bool (decide ((((0 : Int)) : Rat).num < 0)), .slice A13 (toL (((0 : Int)) : Rat).num.natAbs).length c13, .slice B13 (toL (((0 : Int)) : Rat).den).length e13]]) rfl (built_C12 _ _ _ _ _ _ _ _ _ _))) hS1 rfl <| D.one 8 rfl (by decide +kernel) (fun hX => ?_)
    refine L.storeBox rfl rfl hb2 rfl rfl tyG42 ?_
    intro w31 hb2' hm31
    replace hbd := hbd.gr hm31
    replace hm0 := hm0.old1 hm31 hge_g2
    replace hn7 := hn7.mod hm31 (by simp)
    replace hd7 := hd7.mod hm31 (by simp)
    replace hb1 := Blk.far hb1 hm31 (by first | exact hne_g1_g2 | exact (hne_g2_g1).symm)
    replace hn10 := hn10.mod hm31 (by simp)
    replace hd10 := hd10.mod hm31 (by simp)
    replace hb12 := Blk.far hb12 hm31 (by first | exact hne_g12_g2 | exact (hne_g2_g12).symm)
    replace hn13 := hn13.mod hm31 (by simp)
    replace hd13 := hd13.mod hm31 (by simp)
    clear hm31
    replace hb2 := hb2'; clear hb2'
    refine L.nil (hX _ _ ⟨.inl rfl, ?_⟩)
    refine D.done (by decide +kernel) ?_ _
    refine X.join (g1, g2, g12, A7, c7, B7, e7, A13, c13, B13, e13) ?_ ?_
    · exact ⟨rfl, rfl, trivial⟩
    ·
     have hTA : Lay rdT [] w31 (.slice (some ⟨g12, 0, none⟩) 2 2) kA.ts := Lay.of_blk (css := [[.int .i64 0, .bool (decide ((((1 : Int)) : Rat).num < 0)), .slice A7 (toL (((1 : Int)) : Rat).num.natAbs).length c7, .slice B7 (toL (((1 : Int)) : Rat).den).length e7], [.int .i64 1, .bool (decide ((((-1 : Int)) : Rat).num < 0)), .slice A10 (toL (((-1 : Int)) : Rat).num.natAbs).length c10, .slice B10 (toL (((-1 : Int)) : Rat).den).length e10]]) hb12 ((LayL.one _ (⟨0, QR.nf (((1 : Int)) : Rat)⟩ : TR) (rdT_mk (t := ⟨0, QR.nf (((1 : Int)) : Rat)⟩) (hn7.sub (M' := []) (fun b hb => by cases hb)) (hd7.sub (M' := []) (fun b hb => by cases hb)))).append (LayL.one _ (⟨1, QR.nf (((-1 : Int)) : Rat)⟩ : TR) (rdT_mk (t := ⟨1, QR.nf (((-1 : Int)) : Rat)⟩) (hn10.sub (M' := []) (fun b hb => by cases hb)) (hd10.sub (M' := []) (fun b hb => by cases hb))))) rfl rfl (by decide) (by simp)
     exact ⟨hn7.sub (fun b hb => by cases hb), hd7.sub (fun b hb => by cases hb), hb1, hTA.sub (fun b hb => by cases hb), hn13.sub (fun b hb => by cases hb), hd13.sub (fun b hb => by cases hb), hb2, hne_g1_g2, hbd.sub (fun b hb => by cases hb), hm0⟩
   ·
    refine ⟨_, rfl, fun hX => ?_⟩
    refine L.call rfl (c_ref2_Int (n := 0) (by decide) (by decide) hbd) rfl ?_
    rintro _ w32 ⟨⟨A13, c13, B13, e13, rfl, hn13, hd13⟩, hm32⟩
    replace hbd := hbd.gr hm32
    replace hm0 := hm0.trans hm32
    replace hn7 := hn7.gr hm32
    replace hd7 := hd7.gr hm32
    replace hb1 := Blk.gr hb1 hm32
    replace hb2 := Blk.gr hb2 hm32
    replace hn10 := hn10.gr hm32
    replace hd10 := hd10.gr hm32
    replace hS1 := hS1.trans hm32
    clear hm32
    have F13 := Fit.int (n := 0) (by decide) (by decide)
    refine L.nil (hX _ _ ⟨.inr hS1, ?_⟩)
    refine D.one 4 rfl (by decide +kernel) (fun hX => ?_)
    refine L.buildSlice (cells := [.int .i64 0, .bool (decide ((((1 : Int)) : Rat).num < 0)), .slice A7 (toL (((1 : Int)) : Rat).num.natAbs).length c7, .slice B7 (toL (((1 : Int)) : Rat).den).length e7, .int .i64 1, .bool (decide ((((-1 : Int)) : Rat).num < 0)), .slice A10 (toL (((-1 : Int)) : Rat).num.natAbs).length c10, .slice B10 (toL (((-1 : Int)) : Rat).den).length e10]) rfl tyS37 tyZ46 (fillT2 _ _ _ _ _ _ _ _ _ _ _ _ _ _ _ _) (by decide) (by decide) rfl ?_
    intro g12 w33 hN12
    replace hS1 := hS1.trans hN12.mod
    replace hbd := hbd.new hN12
    replace hm0 := hm0.trans (hN12.mod.mono (by simp))
    replace hn7 := hn7.new hN12
    replace hd7 := hd7.new hN12
    replace hb1 := Blk.gr hb1 hN12.mod
    have hne_g2_g12 := hb2.ne_ hN12
    replace hb2 := Blk.gr hb2 hN12.mod
    replace hn10 := hn10.new hN12
    replace hd10 := hd10.new hN12
    replace hn13 := hn13.new hN12
    replace hd13 := hd13.new hN12
    have hb12 := hN12.blk
    clear hN12
    refine L.nil (hX _ _ ⟨.inr hS1, ?_⟩)
    refine D.take 6 rfl (by decide +kernel) (fun w_ hS => (R1.build (vs := [.slice (some ⟨g12, 0, none⟩) 2 2, .agg #[.bool (decide ((((0 : Int)) : Rat).num < 0)), .slice A13 (toL (((0 : Int)) : Rat).num.natAbs).length c13, .slice B13 (toL (((0 : Int)) : Rat).den).length e13]]) rfl (built_C12 _ _ _ _ _ _ _ _ _ _))) hS1 rfl <| D.one 8 rfl (by decide +kernel) (fun hX => ?_)
    refine L.storeBox rfl rfl hb2 rfl rfl tyG42 ?_
    intro w34 hb2' hm34
    replace hbd := hbd.gr hm34
    replace hm0 := hm0.old1 hm34 hge_g2
    replace hn7 := hn7.mod hm34 (by simp)
    replace hd7 := hd7.mod hm34 (by simp)
    replace hb1 := Blk.far hb1 hm34 (by first | exact hne_g1_g2 | exact (hne_g2_g1).symm)
    replace hn10 := hn10.mod hm34 (by simp)
    replace hd10 := hd10.mod hm34 (by simp)
    replace hn13 := hn13.mod hm34 (by simp)
    replace hd13 := hd13.mod hm34 (by simp)
    replace hb12 := Blk.far hb12 hm34 (by first | exact hne_g12_g2 | exact (hne_g2_g12).symm)
    clear hm34
    replace hb2 := hb2'; clear hb2'
    refine L.nil (hX _ _ ⟨.inl rfl, ?_⟩)
    refine D.done (by decide +kernel) ?_ _
    refine X.join (g1, g2, g12, A7, c7, B7, e7, A13, c13, B13, e13) ?_ ?_
    · exact ⟨rfl, rfl, trivial⟩
    ·
     have hTA : Lay rdT [] w34 (.slice (some ⟨g12, 0, none⟩) 2 2) kA.ts := Lay.of_blk (css := [[.int .i64 0, .bool (decide ((((1 : Int)) : Rat).num < 0)), .slice A7 (toL (((1 : Int)) : Rat).num.natAbs).length c7, .slice B7 (toL (((1 : Int)) : Rat).den).length e7], [.int .i64 1, .bool (decide ((((-1 : Int)) : Rat).num < 0)), .slice A10 (toL (((-1 : Int)) : Rat).num.natAbs).length c10, .slice B10 (toL (((-1 : Int)) : Rat).den).length e10]]) hb12 ((LayL.one _ (⟨0, QR.nf (((1 : Int)) : Rat)⟩ : TR) (rdT_mk (t := ⟨0, QR.nf (((1 : Int)) : Rat)⟩) (hn7.sub (M' := []) (fun b hb => by cases hb)) (hd7.sub (M' := []) (fun b hb => by cases hb)))).append (LayL.one _ (⟨1, QR.nf (((-1 : Int)) : Rat)⟩ : TR) (rdT_mk (t := ⟨1, QR.nf (((-1 : Int)) : Rat)⟩) (hn10.sub (M' := []) (fun b hb => by cases hb)) (hd10.sub (M' := []) (fun b hb => by cases hb))))) rfl rfl (by decide) (by simp)
     exact ⟨hn7.sub (fun b hb => by cases hb), hd7.sub (fun b hb => by cases hb), hb1, hTA.sub (fun b hb => by cases hb), hn13.sub (fun b hb => by cases hb), hd13.sub (fun b hb => by cases hb), hb2, hne_g1_g2, hbd.sub (fun b hb => by cases hb), hm0⟩
 ·
  rintro ⟨g1, g2, g12, A7, c7, B7, e7, A13, c13, B13, e13⟩ wj ⟨hn7, hd7, hb1, hTA, hn13, hd13, hb2, hne_g1_g2, hbd, hm0⟩
  refine X.seq <| W.seq <| W.cut (ι := Nat × Nat × Nat × Nat × Nat × Option Addr × Nat × Option Addr × Nat × Option Addr × Nat × Option Addr × Nat × Option Addr × Nat × Option Addr × Nat) (fun (g1, g2, g12, g3, g17, A7, c7, B7, e7, A13, c13, B13, e13, A18, c18, B18, e18) => [(1, .pointer (some ⟨g1, 0, none⟩)), (2, .pointer (some ⟨g2, 0, none⟩)), (3, .pointer (some ⟨g3, 0, none⟩))]) (fun (g1, g2, g12, g3, g17, A7, c7, B7, e7, A13, c13, B13, e13, A18, c18, B18, e18) w_ => U32 [] w_ (.slice A7 (toL (((1 : Int)) : Rat).num.natAbs).length c7) (toL (((1 : Int)) : Rat).num.natAbs) ∧ U32 [] w_ (.slice B7 (toL (((1 : Int)) : Rat).den).length e7) (toL (((1 : Int)) : Rat).den) ∧ Blk w_ g1 40 #[.bool (decide ((((1 : Int)) : Rat).num < 0)), .slice A7 (toL (((1 : Int)) : Rat).num.natAbs).length c7, .slice B7 (toL (((1 : Int)) : Rat).den).length e7] ∧ Lay rdT [] w_ (.slice (some ⟨g12, 0, none⟩) 2 2) kA.ts ∧ U32 [] w_ (.slice A13 (toL (((0 : Int)) : Rat).num.natAbs).length c13) (toL (((0 : Int)) : Rat).num.natAbs) ∧ U32 [] w_ (.slice B13 (toL (((0 : Int)) : Rat).den).length e13) (toL (((0 : Int)) : Rat).den) ∧ Blk w_ g2 42 #[.int .i64 0, .slice (some ⟨g12, 0, none⟩) 2 2, .bool (decide ((((0 : Int)) : Rat).num < 0)), .slice A13 (toL (((0 : Int)) : Rat).num.natAbs).length c13, .slice B13 (toL (((0 : Int)) : Rat).den).length e13] ∧ g1 ≠ g2 ∧ Lay rdT [] w_ (.slice (some ⟨g17, 0, none⟩) 1 1) kB.ts ∧ U32 [] w_ (.slice A18 (toL (((-5 : Int)) : Rat).num.natAbs).length c18) (toL (((-5 : Int)) : Rat).num.natAbs) ∧ U32 [] w_ (.slice B18 (toL (((-5 : Int)) : Rat).den).length e18) (toL (((-5 : Int)) : Rat).den) ∧ Blk w_ g3 42 #[.int .i64 0, .slice (some ⟨g17, 0, none⟩) 1 1, .bool (decide ((((-5 : Int)) : Rat).num < 0)), .slice A18 (toL (((-5 : Int)) : Rat).num.natAbs).length c18, .slice B18 (toL (((-5 : Int)) : Rat).den).length e18] ∧ Bd [] w_ ∧ Mod [] w w_) ?_ ?_
  ·
   have F7 : Fit (((1 : Int)) : Rat) 2 := Fit.int (by decide) (by decide)
   refine W.drawW (T := [6]) rfl (by decide +kernel) (NoHang.join (NoHang.then NoHang.post)) (fun w35 hm35 => ?_)
   replace hn7 := hn7.gr hm35
   replace hd7 := hd7.gr hm35
   replace hb1 := Blk.gr hb1 hm35
   replace hTA := hTA.gr hm35
   replace hn13 := hn13.gr hm35
   replace hd13 := hd13.gr hm35
   replace hb2 := Blk.gr hb2 hm35
   replace hbd := hbd.gr hm35
   replace hm0 := hm0.trans hm35
   have hS2 : Mod [] w35 w35 := Mod.refl _ _
   clear hm35
   have hb1_s := hb1
   refine D.take 0 rfl (by decide +kernel) (fun w_ hS => (R1.loadBox rfl (Blk.gr hb1_s hS) tyG40)) hS2 rfl <| D.take 1 rfl (by decide +kernel) (fun w_ hS => (R1.build (vs := [.int .i64 0, .agg #[.bool (decide ((((1 : Int)) : Rat).num < 0)), .slice A7 (toL (((1 : Int)) : Rat).num.natAbs).length c7, .slice B7 (toL (((1 : Int)) : Rat).den).length e7]]) rfl (built_T01 _ _ _ _ _ _ _ _))) hS2 rfl <| D.many (rs := [2, 3, 5]) (by decide +kernel) rfl ?_
   intro i_ hi_
   simp only [List.mem_cons, List.not_mem_nil, or_false] at hi_
   rcases hi_ with rfl | rfl | rfl
   ·
    refine ⟨_, rfl, fun hX => ?_⟩
    refine L.buildSlice (cells := [.int .i64 0, .bool (decide ((((1 : Int)) : Rat).num < 0)), .slice A7 (toL (((1 : Int)) : Rat).num.natAbs).length c7, .slice B7 (toL (((1 : Int)) : Rat).den).length e7]) rfl tyS37 tyZ46 (fillN1 _ _ _ _ _ _ _ _) (by decide) (by decide) rfl ?_
    intro g17 w36 hN17
    replace hS2 := hS2.trans hN17.mod
    replace hn7 := hn7.new hN17
    replace hd7 := hd7.new hN17
    replace hb1 := Blk.gr hb1 hN17.mod
    replace hTA := hTA.new hN17
    replace hn13 := hn13.new hN17
    replace hd13 := hd13.new hN17
    replace hb2 := Blk.gr hb2 hN17.mod
    replace hbd := hbd.new hN17
    replace hm0 := hm0.trans (hN17.mod.mono (by simp))
    have hb17 := hN17.blk
    clear hN17
    refine L.nil (hX _ _ ⟨.inr hS2, ?_⟩)
    refine D.many (rs := [3, 5]) (by decide +kernel) rfl ?_
    intro i_ hi_
    simp only [List.mem_cons, List.not_mem_nil, or_false] at hi_
    rcases hi_ with rfl | rfl
    ·
     refine ⟨_, rfl, fun hX => ?_⟩
     refine L.call rfl (c_ref2_Int (n := -5) (by decide) (by decide) hbd) rfl ?_
     rintro _ w37 ⟨⟨A18, c18, B18, e18, rfl, hn18, hd18⟩, hm37⟩
     replace hn7 := hn7.gr hm37
     replace hd7 := hd7.gr hm37
     replace hb1 := Blk.gr hb1 hm37
     replace hTA := hTA.gr hm37
     replace hn13 := hn13.gr hm37
     replace hd13 := hd13.gr hm37
     replace hb2 := Blk.gr hb2 hm37
     replace hbd := hbd.gr hm37
     replace hm0 := hm0.trans hm37
     replace hb17 := Blk.gr hb17 hm37
     replace hS2 := hS2.trans hm37
     clear hm37
     have F18 := Fit.int (n := -5) (by decide) (by decide)
     refine L.nil (hX _ _ ⟨.inr hS2, ?_⟩)
     refine D.take 4 rfl (by decide +kernel) (fun w_ hS => (R1.build (vs := [.slice (some ⟨g17, 0, none⟩) 1 1, .agg #[.bool (decide ((((-5 : Int)) : Rat).num < 0)), .slice A18 (toL (((-5 : Int)) : Rat).num.natAbs).length c18, .slice B18 (toL (((-5 : Int)) : Rat).den).length e18]]) rfl (built_C12 _ _ _ _ _ _ _ _ _ _))) hS2 rfl <| D.one 5 rfl (by decide +kernel) (fun hX => ?_)
     refine L.alloc tyZ42 rfl ?_
     intro g3 w38 hN3
     replace hS2 := hS2.trans hN3.mod
     replace hn7 := hn7.new hN3
     replace hd7 := hd7.new hN3
     have hne_g1_g3 := hb1.ne_ hN3
     replace hb1 := Blk.gr hb1 hN3.mod
     replace hTA := hTA.new hN3
     replace hn13 := hn13.new hN3
     replace hd13 := hd13.new hN3
     have hne_g2_g3 := hb2.ne_ hN3
     replace hb2 := Blk.gr hb2 hN3.mod
     replace hbd := hbd.new hN3
     have hge_g3 := New.ge hN3 hm0.size
     replace hm0 := hm0.trans (hN3.mod.mono (by simp))
     have hne_g17_g3 := hb17.ne_ hN3
     replace hb17 := Blk.gr hb17 hN3.mod
     replace hn18 := hn18.new hN3
     replace hd18 := hd18.new hN3
     have hb3 := hN3.blk
     clear hN3
     refine L.nil (hX _ _ ⟨.inr hS2, ?_⟩)
     refine D.one 6 rfl (by decide +kernel) (fun hX => ?_)
     refine L.storeBox rfl rfl hb3 rfl rfl tyG42 ?_
     intro w39 hb3' hm39
     replace hn7 := hn7.mod hm39 (by simp)
     replace hd7 := hd7.mod hm39 (by simp)
     replace hb1 := Blk.far hb1 hm39 (by first | exact hne_g1_g3 | exact (hne_g3_g1).symm)
     replace hTA := hTA.mod hm39 (by simp)
     replace hn13 := hn13.mod hm39 (by simp)
     replace hd13 := hd13.mod hm39 (by simp)
     replace hb2 := Blk.far hb2 hm39 (by first | exact hne_g2_g3 | exact (hne_g3_g2).symm)
     replace hbd := hbd.gr hm39
     replace hm0 := hm0.old1 hm39 hge_g3
     replace hb17 := Blk.far hb17 hm39 (by first | exact hne_g17_g3 | exact (hne_g3_g17).symm)
     replace hn18 := hn18.mod hm39 (by simp)
     replace hd18 := hd18.mod hm39 (by simp)
     clear hm39
     replace hb3 := hb3'; clear hb3'
     refine L.nil (hX _ _ ⟨.inl rfl, ?_⟩)
     refine D.done (by decide +kernel) ?_ _
     refine X.join (g1, g2, g12, g3, g17, A7, c7, B7, e7, A13, c13, B13, e13, A18, c18, B18, e18) ?_ ?_
     · exact ⟨rfl, rfl, rfl, trivial⟩
     ·
      have hTB : Lay rdT [] w39 (.slice (some ⟨g17, 0, none⟩) 1 1) kB.ts := Lay.of_blk (css := [[.int .i64 0, .bool (decide ((((1 : Int)) : Rat).num < 0)), .slice A7 (toL (((1 : Int)) : Rat).num.natAbs).length c7, .slice B7 (toL (((1 : Int)) : Rat).den).length e7]]) hb17 (LayL.one _ (⟨0, QR.nf (((1 : Int)) : Rat)⟩ : TR) (rdT_mk (t := ⟨0, QR.nf (((1 : Int)) : Rat)⟩) (hn7.sub (M' := []) (fun b hb => by cases hb)) (hd7.sub (M' := []) (fun b hb => by cases hb)))) rfl rfl (by decide) (by simp)
      exact ⟨hn7.sub (fun b hb => by cases hb), hd7.sub (fun b hb => by cases hb), hb1, hTA.sub (fun b hb => by cases hb), hn13.sub (fun b hb => by cases hb), hd13.sub (fun b hb => by cases hb), hb2, hne_g1_g2, hTB.sub (fun b hb => by cases hb), hn18.sub (fun b hb => by cases hb), hd18.sub (fun b hb => by cases hb), hb3, hbd.sub (fun b hb => by cases hb), hm0⟩
    ·
     refine ⟨_, rfl, fun hX => ?_⟩
     refine L.alloc tyZ42 rfl ?_
     intro g3 w40 hN3
     replace hS2 := hS2.trans hN3.mod
     replace hn7 := hn7.new hN3
     replace hd7 := hd7.new hN3
     have hne_g1_g3 := hb1.ne_ hN3
     replace hb1 := Blk.gr hb1 hN3.mod
     replace hTA := hTA.new hN3
     replace hn13 := hn13.new hN3
     replace hd13 := hd13.new hN3
     have hne_g2_g3 := hb2.ne_ hN3
     replace hb2 := Blk.gr hb2 hN3.mod
     replace hbd := hbd.new hN3
     have hge_g3 := New.ge hN3 hm0.size
     replace hm0 := hm0.trans (hN3.mod.mono (by simp))
     have hne_g17_g3 := hb17.ne_ hN3
     replace hb17 := Blk.gr hb17 hN3.mod
     have hb3 := hN3.blk
     clear hN3
     refine L.nil (hX _ _ ⟨.inr hS2, ?_⟩)
     refine D.one 3 rfl (by decide +kernel) (fun hX => ?_)
     refine L.call rfl (c_ref2_Int (n := -5) (by decide) (by decide) hbd) rfl ?_
     rintro _ w41 ⟨⟨A18, c18, B18, e18, rfl, hn18, hd18⟩, hm41⟩
     replace hn7 := hn7.gr hm41
     replace hd7 := hd7.gr hm41
     replace hb1 := Blk.gr hb1 hm41
     replace hTA := hTA.gr hm41
     replace hn13 := hn13.gr hm41
     replace hd13 := hd13.gr hm41
     replace hb2 := Blk.gr hb2 hm41
     replace hbd := hbd.gr hm41
     replace hm0 := hm0.trans hm41
     replace hb17 := Blk.gr hb17 hm41
     replace hb3 := Blk.gr hb3 hm41
     replace hS2 := hS2.trans hm41
     clear hm41
     have F18 := Fit.int (n := -5) (by decide) (by decide)
     refine L.nil (hX _ _ ⟨.inr hS2, ?_⟩)
     refine D.take 4 rfl (by decide +kernel) (fun w_ hS => (R1.build (vs := [.slice (some ⟨g17, 0, none⟩) 1 1, .agg #[.bool (decide ((((-5 : Int)) : Rat).num < 0)), .slice A18 (toL (((-5 : Int)) : Rat).num.natAbs).length c18, .slice B18 (toL (((-5 : Int)) : Rat).den).length e18]]) rfl (built_C12 _ _ _ _ _ _ _ _ _ _))) hS2 rfl <| D.one 6 rfl (by decide +kernel) (fun hX => ?_)
     refine L.storeBox rfl rfl hb3 rfl rfl tyG42 ?_
     intro w42 hb3' hm42
     replace hn7 := hn7.mod hm42 (by simp)
     replace hd7 := hd7.mod hm42 (by simp)
     replace hb1 := Blk.far hb1 hm42 (by first | exact hne_g1_g3 | exact (hne_g3_g1).symm)
     replace hTA := hTA.mod hm42 (by simp)
     replace hn13 := hn13.mod hm42 (by simp)
     replace hd13 := hd13.mod hm42 (by simp)
     replace hb2 := Blk.far hb2 hm42 (by first | exact hne_g2_g3 | exact (hne_g3_g2).symm)
     replace hbd := hbd.gr hm42
     replace hm0 := hm0.old1 hm42 hge_g3
     replace hb17 := Blk.far hb17 hm42 (by first | exact hne_g17_g3 | exact (hne_g3_g17).symm)
     replace hn18 := hn18.mod hm42 (by simp)
     replace hd18 := hd18.mod hm42 (by simp)
     clear hm42
     replace hb3 := hb3'; clear hb3'
     refine L.nil (hX _ _ ⟨.inl rfl, ?_⟩)
     refine D.done (by decide +kernel) ?_ _
     refine X.join (g1, g2, g12, g3, g17, A7, c7, B7, e7, A13, c13, B13, e13, A18, c18, B18, e18) ?_ ?_
     · exact ⟨rfl, rfl, rfl, trivial⟩
     ·
      have hTB : Lay rdT [] w42 (.slice (some ⟨g17, 0, none⟩) 1 1) kB.ts := Lay.of_blk (css := [[.int .i64 0, .bool (decide ((((1 : Int)) : Rat).num < 0)), .slice A7 (toL (((1 : Int)) : Rat).num.natAbs).length c7, .slice B7 (toL (((1 : Int)) : Rat).den).length e7]]) hb17 (LayL.one _ (⟨0, QR.nf (((1 : Int)) : Rat)⟩ : TR) (rdT_mk (t := ⟨0, QR.nf (((1 : Int)) : Rat)⟩) (hn7.sub (M' := []) (fun b hb => by cases hb)) (hd7.sub (M' := []) (fun b hb => by cases hb)))) rfl rfl (by decide) (by simp)
      exact ⟨hn7.sub (fun b hb => by cases hb), hd7.sub (fun b hb => by cases hb), hb1, hTA.sub (fun b hb => by cases hb), hn13.sub (fun b hb => by cases hb), hd13.sub (fun b hb => by cases hb), hb2, hne_g1_g2, hTB.sub (fun b hb => by cases hb), hn18.sub (fun b hb => by cases hb), hd18.sub (fun b hb => by cases hb), hb3, hbd.sub (fun b hb => by cases hb), hm0⟩
   ·
    refine ⟨_, rfl, fun hX => ?_⟩
    refine L.call rfl (c_ref2_Int (n := -5) (by decide) (by decide) hbd) rfl ?_
    rintro _ w43 ⟨⟨A18, c18, B18, e18, rfl, hn18, hd18⟩, hm43⟩
    replace hn7 := hn7.gr hm43
    replace hd7 := hd7.gr hm43
    replace hb1 := Blk.gr hb1 hm43
    replace hTA := hTA.gr hm43
    replace hn13 := hn13.gr hm43
    replace hd13 := hd13.gr hm43
    replace hb2 := Blk.gr hb2 hm43
    replace hbd := hbd.gr hm43
    replace hm0 := hm0.trans hm43
    replace hS2 := hS2.trans hm43
    clear hm43
    have F18 := Fit.int (n := -5) (by decide) (by decide)
    refine L.nil (hX _ _ ⟨.inr hS2, ?_⟩)
    refine D.many (rs := [2, 5]) (by decide +kernel) rfl ?_
    intro i_ hi_
    simp only [List.mem_cons, List.not_mem_nil, or_false] at hi_
    rcases hi_ with rfl | rfl
    ·
     refine ⟨_, rfl, fun hX => ?_⟩
     refine L.buildSlice (cells := [.int .i64 0, .bool (decide ((((1 : Int)) : Rat).num < 0)), .slice A7 (toL (((1 : Int)) : Rat).num.natAbs).length c7, .slice B7 (toL (((1 : Int)) : Rat).den).length e7]) rfl tyS37 tyZ46 (fillN1 _ _ _ _ _ _ _ _) (by decide) (by decide) rfl ?_
     intro g17 w44 hN17
     replace hS2 := hS2.trans hN17.mod
     replace hn7 := hn7.new hN17
     replace hd7 := hd7.new hN17
     replace hb1 := Blk.gr hb1 hN17.mod
     replace hTA := hTA.new hN17
     replace hn13 := hn13.new hN17
     replace hd13 := hd13.new hN17
     replace hb2 := Blk.gr hb2 hN17.mod
     replace hbd := hbd.new hN17
     replace hm0 := hm0.trans (hN17.mod.mono (by simp))
     replace hn18 := hn18.new hN17
     replace hd18 := hd18.new hN17
     have hb17 := hN17.blk
     clear hN17
     refine L.nil (hX _ _ ⟨.inr hS2, ?_⟩)
     refine D.take 4 rfl (by decide +kernel) (fun w_ hS => (R1.build (vs := [.slice (some ⟨g17, 0, none⟩) 1 1, .agg #[.bool (decide ((((-5 : Int)) : Rat).num < 0)), .slice A18 (toL (((-5 : Int)) : Rat).num.natAbs).length c18, .slice B18 (toL (((-5 : Int)) : Rat).den).length e18]]) rfl (built_C12 _ _ _ _ _ _ _ _ _ _))) hS2 rfl <| D.one 5 rfl (by decide +kernel) (fun hX => ?_)
     refine L.alloc tyZ42 rfl ?_
     intro g3 w45 hN3
     replace hS2 := hS2.trans hN3.mod
     replace hn7 := hn7.new hN3
     replace hd7 := hd7.new hN3
     have hne_g1_g3 := hb1.ne_ hN3
     replace hb1 := Blk.gr hb1 hN3.mod
     replace hTA := hTA.new hN3
     replace hn13 := hn13.new hN3
     replace hd13 := hd13.new hN3
     have hne_g2_g3 := hb2.ne_ hN3
     replace hb2 := Blk.gr hb2 hN3.mod
     replace hbd := hbd.new hN3
     have hge_g3 := New.ge hN3 hm0.size
     replace hm0 := hm0.trans (hN3.mod.mono (by simp))
     replace hn18 := hn18.new hN3
     replace hd18 := hd18.new hN3
     have hne_g17_g3 := hb17.ne_ hN3
     replace hb17 := Blk.gr hb17 hN3.mod
     have hb3 := hN3.blk
     clear hN3
     refine L.nil (hX _ _ ⟨.inr hS2, ?_⟩)
     refine D.one 6 rfl (by decide +kernel) (fun hX => ?_)
     refine L.storeBox rfl rfl hb3 rfl rfl tyG42 ?_
     intro w46 hb3' hm46
     replace hn7 := hn7.mod hm46 (by simp)
     replace hd7 := hd7.mod hm46 (by simp)
     replace hb1 := Blk.far hb1 hm46 (by first | exact hne_g1_g3 | exact (hne_g3_g1).symm)
     replace hTA := hTA.mod hm46 (by simp)
     replace hn13 := hn13.mod hm46 (by simp)
     replace hd13 := hd13.mod hm46 (by simp)
     replace hb2 := Blk.far hb2 hm46 (by first | exact hne_g2_g3 | exact (hne_g3_g2).symm)
     replace hbd := hbd.gr hm46
     replace hm0 := hm0.old1 hm46 hge_g3
     replace hn18 := hn18.mod hm46 (by simp)
     replace hd18 := hd18.mod hm46 (by simp)
     replace hb17 := Blk.far hb17 hm46 (by first | exact hne_g17_g3 | exact (hne_g3_g17).symm)
     clear hm46
     replace hb3 := hb3'; clear hb3'
     refine L.nil (hX _ _ ⟨.inl rfl, ?_⟩)
     refine D.done (by decide +kernel) ?_ _
     refine X.join (g1, g2, g12, g3, g17, A7, c7, B7, e7, A13, c13, B13, e13, A18, c18, B18, e18) ?_ ?_
     · exact ⟨rfl, rfl, rfl, trivial⟩
     ·
      have hTB : Lay rdT [] w46 (.slice (some ⟨g17, 0, none⟩) 1 1) kB.ts := Lay.of_blk (css := [[.int .i64 0, .bool (decide ((((1 : Int)) : Rat).num < 0)), .slice A7 (toL (((1 : Int)) : Rat).num.natAbs).length c7, .slice B7 (toL (((1 : Int)) : Rat).den).length e7]]) hb17 (LayL.one _ (⟨0, QR.nf (((1 : Int)) : Rat)⟩ : TR) (rdT_mk (t := ⟨0, QR.nf (((1 : Int)) : Rat)⟩) (hn7.sub (M' := []) (fun b hb => by cases hb)) (hd7.sub (M' := []) (fun b hb => by cases hb)))) rfl rfl (by decide) (by simp)
      exact ⟨hn7.sub (fun b hb => by cases hb), hd7.sub (fun b hb => by cases hb), hb1, hTA.sub (fun b hb => by cases hb), hn13.sub (fun b hb => by cases hb), hd13.sub (fun b hb => by cases hb), hb2, hne_g1_g2, hTB.sub (fun b hb => by cases hb), hn18.sub (fun b hb => by cases hb), hd18.sub (fun b hb => by cases hb), hb3, hbd.sub (fun b hb => by cases hb), hm0⟩
    ·
     refine ⟨_, rfl, fun hX => ?_⟩
     refine L.alloc tyZ42 rfl ?_
     intro g3 w47 hN3
     replace hS2 := hS2.trans hN3.mod
     replace hn7 := hn7.new hN3
     replace hd7 := hd7.new hN3
     have hne_g1_g3 := hb1.ne_ hN3
     replace hb1 := Blk.gr hb1 hN3.mod
     replace hTA := hTA.new hN3
     replace hn13 := hn13.new hN3
     replace hd13 := hd13.new hN3
     have hne_g2_g3 := hb2.ne_ hN3
     replace hb2 := Blk.gr hb2 hN3.mod
     replace hbd := hbd.new hN3
     have hge_g3 := New.ge hN3 hm0.size
     replace hm0 := hm0.trans (hN3.mod.mono (by simp))
     replace hn18 := hn18.new hN3
     replace hd18 := hd18.new hN3
     have hb3 := hN3.blk
     clear hN3
     refine L.nil (hX _ _ ⟨.inr hS2, ?_⟩)
     refine D.one 2 rfl (by decide +kernel) (fun hX => ?_)
     refine L.buildSlice (cells := [.int .i64 0, .bool (decide ((((1 : Int)) : Rat).num < 0)), .slice A7 (toL (((1 : Int)) : Rat).num.natAbs).length c7, .slice B7 (toL (((1 : Int)) : Rat).den).length e7]) rfl tyS37 tyZ46 (fillN1 _ _ _ _ _ _ _ _) (by decide) (by decide) rfl ?_
     intro g17 w48 hN17
     replace hS2 := hS2.trans hN17.mod
     replace hn7 := hn7.new hN17
     replace hd7 := hd7.new hN17
     replace hb1 := Blk.gr hb1 hN17.mod
     replace hTA := hTA.new hN17
     replace hn13 := hn13.new hN17
     replace hd13 := hd13.new hN17
     replace hb2 := Blk.gr hb2 hN17.mod
     replace hbd := hbd.new hN17
     replace hm0 := hm0.trans (hN17.mod.mono (by simp))
     replace hn18 := hn18.new hN17
     replace hd18 := hd18.new hN17
     have hne_g3_g17 := hb3.ne_ hN17
     replace hb3 := Blk.gr hb3 hN17.mod
     have hb17 := hN17.blk
     clear hN17
     refine L.nil (hX _ _ ⟨.inr hS2, ?_⟩)
     refine D.take 4 rfl (by decide +kernel) (fun w_ hS => (R1.build (vs := [.slice (some ⟨g17, 0, none⟩) 1 1, .agg #[.bool (decide ((((-5 : Int)) : Rat).num < 0)), .slice A18 (toL (((-5 : Int)) : Rat).num.natAbs).length c18, .slice B18 (toL (((-5 : Int)) : Rat).den).length e18]]) rfl (built_C12 _ _ _ _ _ _ _ _ _ _))) hS2 rfl <| D.one 6 rfl (by decide +kernel) (fun hX => ?_)
     refine L.storeBox rfl rfl hb3 rfl rfl tyG42 ?_
     intro w49 hb3' hm49
     replace hn7 := hn7.mod hm49 (by simp)
     replace hd7 := hd7.mod hm49 (by simp)
     replace hb1 := Blk.far hb1 hm49 (by first | exact hne_g1_g3 | exact (hne_g3_g1).symm)
     replace hTA := hTA.mod hm49 (by simp)
     replace hn13 := hn13.mod hm49 (by simp)
     replace hd13 := hd13.mod hm49 (by simp)
     replace hb2 := Blk.far hb2 hm49 (by first | exact hne_g2_g3 | exact (hne_g3_g2).symm)
     replace hbd := hbd.gr hm49
     replace hm0 := hm0.old1 hm49 hge_g3
     replace hn18 := hn18.mod hm49 (by simp)
     replace hd18 := hd18.mod hm49 (by simp)
     replace hb17 := Blk.far hb17 hm49 (by first | exact hne_g17_g3 | exact (hne_g3_g17).symm)
     clear hm49
     replace hb3 := hb3'; clear hb3'
     refine L.nil (hX _ _ ⟨.inl rfl, ?_⟩)
     refine D.done (by decide +kernel) ?_ _
     refine X.join (g1, g2, g12, g3, g17, A7, c7, B7, e7, A13, c13, B13, e13, A18, c18, B18, e18) ?_ ?_
     · exact ⟨rfl, rfl, rfl, trivial⟩
     ·
      have hTB : Lay rdT [] w49 (.slice (some ⟨g17, 0, none⟩) 1 1) kB.ts := Lay.of_blk (css := [[.int .i64 0, .bool (decide ((((1 : Int)) : Rat).num < 0)), .slice A7 (toL (((1 : Int)) : Rat).num.natAbs).length c7, .slice B7 (toL (((1 : Int)) : Rat).den).length e7]]) hb17 (LayL.one _ (⟨0, QR.nf (((1 : Int)) : Rat)⟩ : TR) (rdT_mk (t := ⟨0, QR.nf (((1 : Int)) : Rat)⟩) (hn7.sub (M' := []) (fun b hb => by cases hb)) (hd7.sub (M' := []) (fun b hb => by cases hb)))) rfl rfl (by decide) (by simp)
      exact ⟨hn7.sub (fun b hb => by cases hb), hd7.sub (fun b hb => by cases hb), hb1, hTA.sub (fun b hb => by cases hb), hn13.sub (fun b hb => by cases hb), hd13.sub (fun b hb => by cases hb), hb2, hne_g1_g2, hTB.sub (fun b hb => by cases hb), hn18.sub (fun b hb => by cases hb), hd18.sub (fun b hb => by cases hb), hb3, hbd.sub (fun b hb => by cases hb), hm0⟩
   ·
    refine ⟨_, rfl, fun hX => ?_⟩
    refine L.alloc tyZ42 rfl ?_
    intro g3 w50 hN3
    replace hS2 := hS2.trans hN3.mod
    replace hn7 := hn7.new hN3
    replace hd7 := hd7.new hN3
    have hne_g1_g3 := hb1.ne_ hN3
    replace hb1 := Blk.gr hb1 hN3.mod
    replace hTA := hTA.new hN3
    replace hn13 := hn13.new hN3
    replace hd13 := hd13.new hN3
    have hne_g2_g3 := hb2.ne_ hN3
    replace hb2 := Blk.gr hb2 hN3.mod
    replace hbd := hbd.new hN3
    have hge_g3 := New.ge hN3 hm0.size
    replace hm0 := hm0.trans (hN3.mod.mono (by simp))
    have hb3 := hN3.blk
    clear hN3
    refine L.nil (hX _ _ ⟨.inr hS2, ?_⟩)
    refine D.many (rs := [2, 3]) (by decide +kernel) rfl ?_
    intro i_ hi_
    simp only [List.mem_cons, List.not_mem_nil, or_false] at hi_
    rcases hi_ with rfl | rfl
    ·
     refine ⟨_, rfl, fun hX => ?_⟩
     refine L.buildSlice (cells := [.int .i64 0, .bool (decide ((((1 : Int)) : Rat).num < 0)), .slice A7 (toL (((1 : Int)) : Rat).num.natAbs).length c7, .slice B7 (toL (((1 : Int)) : Rat).den).length e7]) rfl tyS37 tyZ46 (fillN1 _ _ _ _ _ _ _ _) (by decide) (by decide) rfl ?_
     intro g17 w51 hN17
     replace hS2 := hS2.trans hN17.mod
     replace hn7 := hn7.new hN17
     replace hd7 := hd7.new hN17
     replace hb1 := Blk.gr hb1 hN17.mod
     replace hTA := hTA.new hN17
     replace hn13 := hn13.new hN17
     replace hd13 := hd13.new hN17
     replace hb2 := Blk.gr hb2 hN17.mod
     replace hbd := hbd.new hN17
     replace hm0 := hm0.trans (hN17.mod.mono (by simp))
     have hne_g3_g17 := hb3.ne_ hN17
     replace hb3 := Blk.gr hb3 hN17.mod
     have hb17 := hN17.blk
     clear hN17
     refine L.nil (hX _ _ ⟨.inr hS2, ?_⟩)
     refine D.one 3 rfl (by decide +kernel) (fun hX => ?_)
     refine L.call rfl (c_ref2_Int (n := -5) (by decide) (by decide) hbd) rfl ?_
     rintro _ w52 ⟨⟨A18, c18, B18, e18, rfl, hn18, hd18⟩, hm52⟩
     replace hn7 := hn7.gr hm52
     replace hd7 := hd7.gr hm52
     replace hb1 := Blk.gr hb1 hm52
     replace hTA := hTA.gr hm52
     replace hn13 := hn13.gr hm52
     replace hd13 := hd13.gr hm52
     replace hb2 := Blk.gr hb2 hm52
     replace hbd := hbd.gr hm52
     replace hm0 := hm0.trans hm52
     replace hb3 := Blk.gr hb3 hm52
     replace hb17 := Blk.gr hb17 hm52
     replace hS2 := hS2.trans hm52
     clear hm52
     have F18 := Fit.int (n := -5) (by decide) (by decide)
     refine L.nil (hX _ _ ⟨.inr hS2, ?_⟩)
     refine D.take 4 rfl (by decide +kernel) (fun w_ hS => (R1.build (vs := [.slice (some ⟨g17, 0, none⟩) 1 1, .agg #[.bool (decide ((((-5 : Int)) : Rat).num < 0)), .slice A18 (toL (((-5 : Int)) : Rat).num.natAbs).length c18, .slice B18 (toL (((-5 : Int)) : Rat).den).length e18]]) rfl (built_C12 _ _ _ _ _ _ _ _ _ _))) hS2 rfl <| D.one 6 rfl (by decide +kernel) (fun hX => ?_)
     refine L.storeBox rfl rfl hb3 rfl rfl tyG42 ?_
     intro w53 hb3' hm53
     replace hn7 := hn7.mod hm53 (by simp)
     replace hd7 := hd7.mod hm53 (by simp)
     replace hb1 := Blk.far hb1 hm53 (by first | exact hne_g1_g3 | exact (hne_g3_g1).symm)
     replace hTA := hTA.mod hm53 (by simp)
     replace hn13 := hn13.mod hm53 (by simp)
     replace hd13 := hd13.mod hm53 (by simp)
     replace hb2 := Blk.far hb2 hm53 (by first | exact hne_g2_g3 | exact (hne_g3_g2).symm)
     replace hbd := hbd.gr hm53
     replace hm0 := hm0.old1 hm53 hge_g3
     replace hb17 := Blk.far hb17 hm53 (by first | exact hne_g17_g3 | exact (hne_g3_g17).symm)
     replace hn18 := hn18.mod hm53 (by simp)
     replace hd18 := hd18.mod hm53 (by simp)
     clear hm53
     replace hb3 := hb3'; clear hb3'
     refine L.nil (hX _ _ ⟨.inl rfl, ?_⟩)
     refine D.done (by decide +kernel) ?_ _
     refine X.join (g1, g2, g12, g3, g17, A7, c7, B7, e7, A13, c13, B13, e13, A18, c18, B18, e18) ?_ ?_
     · exact ⟨rfl, rfl, rfl, trivial⟩
     ·
      have hTB : Lay rdT [] w53 (.slice (some ⟨g17, 0, none⟩) 1 1) kB.ts := Lay.of_blk (css := [[.int .i64 0, .bool (decide ((((1 : Int)) : Rat).num < 0)), .slice A7 (toL (((1 : Int)) : Rat).num.natAbs).length c7, .slice B7 (toL (((1 : Int)) : Rat).den).length e7]]) hb17 (LayL.one _ (⟨0, QR.nf (((1 : Int)) : Rat)⟩ : TR) (rdT_mk (t := ⟨0, QR.nf (((1 : Int)) : Rat)⟩) (hn7.sub (M' := []) (fun b hb => by cases hb)) (hd7.sub (M' := []) (fun b hb => by cases hb)))) rfl rfl (by decide) (by simp)
      exact ⟨hn7.sub (fun b hb => by cases hb), hd7.sub (fun b hb => by cases hb), hb1, hTA.sub (fun b hb => by cases hb), hn13.sub (fun b hb => by cases hb), hd13.sub (fun b hb => by cases hb), hb2, hne_g1_g2, hTB.sub (fun b hb => by cases hb), hn18.sub (fun b hb => by cases hb), hd18.sub (fun b hb => by cases hb), hb3, hbd.sub (fun b hb => by cases hb), hm0⟩
    ·
     refine ⟨_, rfl, fun hX => ?_⟩
     refine L.call rfl (c_ref2_Int (n := -5) (by decide) (by decide) hbd) rfl ?_
     rintro _ w54 ⟨⟨A18, c18, B18, e18, rfl, hn18, hd18⟩, hm54⟩
     replace hn7 := hn7.gr hm54
     replace hd7 := hd7.gr hm54
     replace hb1 := Blk.gr hb1 hm54
     replace hTA := hTA.gr hm54
     replace hn13 := hn13.gr hm54
     replace hd13 := hd13.gr hm54
     replace hb2 := Blk.gr hb2 hm54
     replace hbd := hbd.gr hm54
     replace hm0 := hm0.trans hm54
     replace hb3 := Blk.gr hb3 hm54
     replace hS2 := hS2.trans hm54
     clear hm54
     have F18 := Fit.int (n := -5) (by decide) (by decide)
     refine L.nil (hX _ _ ⟨.inr hS2, ?_⟩)
     refine D.one 2 rfl (by decide +kernel) (fun hX => ?_)
     refine L.buildSlice (cells := [.int .i64 0, .bool (decide ((((1 : Int)) : Rat).num < 0)), .slice A7 (toL (((1 : Int)) : Rat).num.natAbs).length c7, .slice B7 (toL (((1 : Int)) : Rat).den).length e7]) rfl tyS37 tyZ46 (fillN1 _ _ _ _ _ _ _ _) (by decide) (by decide) rfl ?_
     intro g17 w55 hN17
     replace hS2 := hS2.trans hN17.mod
     replace hn7 := hn7.new hN17
     replace hd7 := hd7.new hN17
     replace hb1 := Blk.gr hb1 hN17.mod
     replace hTA := hTA.new hN17
     replace hn13 := hn13.new hN17
     replace hd13 := hd13.new hN17
     replace hb2 := Blk.gr hb2 hN17.mod
     replace hbd := hbd.new hN17
     replace hm0 := hm0.trans (hN17.mod.mono (by simp))
     have hne_g3_g17 := hb3.ne_ hN17
     replace hb3 := Blk.gr hb3 hN17.mod
     replace hn18 := hn18.new hN17
     replace hd18 := hd18.new hN17
     have hb17 := hN17.blk
     clear hN17
     refine L.nil (hX _ _ ⟨.inr hS2, ?_⟩)
     refine D.take 4 rfl (by decide +kernel) (fun w_ hS => (R1.build (vs := [.slice (some ⟨g17, 0, none⟩) 1 1, .agg #[.bool (decide ((((-5 : Int)) : Rat).num < 0)), .slice A18 (toL (((-5 : Int)) : Rat).num.natAbs).length c18, .slice B18 (toL (((-5 : Int)) : Rat).den).length e18]]) rfl (built_C12 _ _ _ _ _ _ _ _ _ _))) hS2 rfl <| D.one 6 rfl (by decide +kernel) (fun hX => ?_)
     refine L.storeBox rfl rfl hb3 rfl rfl tyG42 ?_
     intro w56 hb3' hm56
     replace hn7 := hn7.mod hm56 (by simp)
     replace hd7 := hd7.mod hm56 (by simp)
     replace hb1 := Blk.far hb1 hm56 (by first | exact hne_g1_g3 | exact (hne_g3_g1).symm)
     replace hTA := hTA.mod hm56 (by simp)
     replace hn13 := hn13.mod hm56 (by simp)
     replace hd13 := hd13.mod hm56 (by simp)
     replace hb2 := Blk.far hb2 hm56 (by first | exact hne_g2_g3 | exact (hne_g3_g2).symm)
     replace hbd := hbd.gr hm56
     replace hm0 := hm0.old1 hm56 hge_g3
     replace hn18 := hn18.mod hm56 (by simp)
     replace hd18 := hd18.mod hm56 (by simp)
     replace hb17 := Blk.far hb17 hm56 (by first | exact hne_g17_g3 | exact (hne_g3_g17).symm)
     clear hm56
     replace hb3 := hb3'; clear hb3'
     refine L.nil (hX _ _ ⟨.inl rfl, ?_⟩)
     refine D.done (by decide +kernel) ?_ _
     refine X.join (g1, g2, g12, g3, g17, A7, c7, B7, e7, A13, c13, B13, e13, A18, c18, B18, e18) ?_ ?_
     · exact ⟨rfl, rfl, rfl, trivial⟩
     ·
      have hTB : Lay rdT [] w56 (.slice (some ⟨g17, 0, none⟩) 1 1) kB.ts := Lay.of_blk (css := [[.int .i64 0, .bool (decide ((((1 : Int)) : Rat).num < 0)), .slice A7 (toL (((1 : Int)) : Rat).num.natAbs).length c7, .slice B7 (toL (((1 : Int)) : Rat).den).length e7]]) hb17 (LayL.one _ (⟨0, QR.nf (((1 : Int)) : Rat)⟩ : TR) (rdT_mk (t := ⟨0, QR.nf (((1 : Int)) : Rat)⟩) (hn7.sub (M' := []) (fun b hb => by cases hb)) (hd7.sub (M' := []) (fun b hb => by cases hb)))) rfl rfl (by decide) (by simp)
      exact ⟨hn7.sub (fun b hb => by cases hb), hd7.sub (fun b hb => by cases hb), hb1, hTA.sub (fun b hb => by cases hb), hn13.sub (fun b hb => by cases hb), hd13.sub (fun b hb => by cases hb), hb2, hne_g1_g2, hTB.sub (fun b hb => by cases hb), hn18.sub (fun b hb => by cases hb), hd18.sub (fun b hb => by cases hb), hb3, hbd.sub (fun b hb => by cases hb), hm0⟩
  ·
   rintro ⟨g1, g2, g12, g3, g17, A7, c7, B7, e7, A13, c13, B13, e13, A18, c18, B18, e18⟩ wk ⟨hn7, hd7, hb1, hTA, hn13, hd13, hb2, hne_g1_g2, hTB, hn18, hd18, hb3, hbd, hm0⟩
   refine X.seq <| W.seq <| W.region <| L.v (R1.loadBox rfl hb2 tyG42) rfl <| L.v (R1.loadBox rfl hb3 tyG42) rfl <| L.buildSlice (cells := [.int .i64 0, .slice (some ⟨g12, 0, none⟩) 2 2, .bool (decide ((((0 : Int)) : Rat).num < 0)), .slice A13 (toL (((0 : Int)) : Rat).num.natAbs).length c13, .slice B13 (toL (((0 : Int)) : Rat).den).length e13, .int .i64 0, .slice (some ⟨g17, 0, none⟩) 1 1, .bool (decide ((((-5 : Int)) : Rat).num < 0)), .slice A18 (toL (((-5 : Int)) : Rat).num.natAbs).length c18, .slice B18 (toL (((-5 : Int)) : Rat).den).length e18]) rfl tyS22 tyZ42 (fillK2 _ _ _ _ _ _ _ _ _ _ _ _ _ _ _ _ _ _ _ _ _ _) (by decide) (by decide) rfl ?_
   intro g23 w57 hN23
   replace hn7 := hn7.new hN23
   replace hd7 := hd7.new hN23
   replace hb1 := Blk.gr hb1 hN23.mod
   replace hTA := hTA.new hN23
   replace hn13 := hn13.new hN23
   replace hd13 := hd13.new hN23
   replace hb2 := Blk.gr hb2 hN23.mod
   replace hTB := hTB.new hN23
   replace hn18 := hn18.new hN23
   replace hd18 := hd18.new hN23
   replace hb3 := Blk.gr hb3 hN23.mod
   replace hbd := hbd.new hN23
   replace hm0 := hm0.trans (hN23.mod.mono (by simp))
   have hb23 := hN23.blk
   clear hN23
   have hL23 : Lay rdC [] w57 (.slice (some ⟨g23, 0, none⟩) 2 2) [kA, kB] := Lay.of_blk (css := [[.int .i64 0, .slice (some ⟨g12, 0, none⟩) 2 2, .bool (decide ((((0 : Int)) : Rat).num < 0)), .slice A13 (toL (((0 : Int)) : Rat).num.natAbs).length c13, .slice B13 (toL (((0 : Int)) : Rat).den).length e13], [.int .i64 0, .slice (some ⟨g17, 0, none⟩) 1 1, .bool (decide ((((-5 : Int)) : Rat).num < 0)), .slice A18 (toL (((-5 : Int)) : Rat).num.natAbs).length c18, .slice B18 (toL (((-5 : Int)) : Rat).den).length e18]]) hb23 ((LayL.one _ kA (rdC_mk (c := kA) (vt := .slice (some ⟨g12, 0, none⟩) 2 2) (hTA.sub (M' := []) (fun b hb => by cases hb)) (hn13.sub (M' := []) (fun b hb => by cases hb)) (hd13.sub (M' := []) (fun b hb => by cases hb)))).append (LayL.one _ kB (rdC_mk (c := kB) (vt := .slice (some ⟨g17, 0, none⟩) 1 1) (hTB.sub (M' := []) (fun b hb => by cases hb)) (hn18.sub (M' := []) (fun b hb => by cases hb)) (hd18.sub (M' := []) (fun b hb => by cases hb))))) rfl rfl (by decide) (by simp)
   refine L.buildSlice (cells := [.int .i64 1, .int .i64 0]) rfl tyS26 tyZ3 (fillI2 _ _) (by decide) (by decide) rfl ?_
   intro g24 w58 hN24
   replace hn7 := hn7.new hN24
   replace hd7 := hd7.new hN24
   replace hb1 := Blk.gr hb1 hN24.mod
   replace hTA := hTA.new hN24
   replace hn13 := hn13.new hN24
   replace hd13 := hd13.new hN24
   replace hb2 := Blk.gr hb2 hN24.mod
   replace hTB := hTB.new hN24
   replace hn18 := hn18.new hN24
   replace hd18 := hd18.new hN24
   replace hb3 := Blk.gr hb3 hN24.mod
   replace hbd := hbd.new hN24
   replace hm0 := hm0.trans (hN24.mod.mono (by simp))
   replace hL23 := hL23.new hN24
   have hb24 := hN24.blk
   clear hN24
   have hO24 : Lay rdI [] w58 (.slice (some ⟨g24, 0, none⟩) 2 2) [1, 0] := Lay.of_blk (css := [[.int .i64 1], [.int .i64 0]]) hb24 (LayL.ints [1, 0]) rfl rfl (by decide) (by simp)
   refine L.v (R1.loadBox rfl hb1 tyG40) rfl <| L.v (R1.loadBox rfl hb1 tyG40) rfl <| L.buildSlice (cells := [.bool (decide ((((1 : Int)) : Rat).num < 0)), .slice A7 (toL (((1 : Int)) : Rat).num.natAbs).length c7, .slice B7 (toL (((1 : Int)) : Rat).den).length e7, .bool (decide ((((1 : Int)) : Rat).num < 0)), .slice A7 (toL (((1 : Int)) : Rat).num.natAbs).length c7, .slice B7 (toL (((1 : Int)) : Rat).den).length e7]) rfl tyS23 tyZ40 (fillQ2b _ _ _ _ _ _ _ _ _ _ _ _ _ _) (by decide) (by decide) rfl ?_
   intro g27 w59 hN27
   replace hn7 := hn7.new hN27
   replace hd7 := hd7.new hN27
   replace hTA := hTA.new hN27
   replace hn13 := hn13.new hN27
   replace hd13 := hd13.new hN27
   replace hb2 := Blk.gr hb2 hN27.mod
   replace hTB := hTB.new hN27
   replace hn18 := hn18.new hN27
   replace hd18 := hd18.new hN27
   replace hb3 := Blk.gr hb3 hN27.mod
   replace hbd := hbd.new hN27
   replace hm0 := hm0.trans (hN27.mod.mono (by simp))
   replace hL23 := hL23.new hN27
   replace hO24 := hO24.new hN27
   have hb27 := hN27.blk
   clear hN27
   have hV : Lay rdQ [] w59 (.slice (some ⟨g27, 0, none⟩) 2 2) (kV 1 1) := Lay.of_blk (css := [[.bool (decide ((((1 : Int)) : Rat).num < 0)), .slice A7 (toL (((1 : Int)) : Rat).num.natAbs).length c7, .slice B7 (toL (((1 : Int)) : Rat).den).length e7], [.bool (decide ((((1 : Int)) : Rat).num < 0)), .slice A7 (toL (((1 : Int)) : Rat).num.natAbs).length c7, .slice B7 (toL (((1 : Int)) : Rat).den).length e7]]) hb27 ((LayL.one _ (QR.nf (((1 : Int)) : Rat)) (rdQ_mk (q := QR.nf (((1 : Int)) : Rat)) (hn7.sub (M' := []) (fun b hb => by cases hb)) (hd7.sub (M' := []) (fun b hb => by cases hb)))).append (LayL.one _ (QR.nf (((1 : Int)) : Rat)) (rdQ_mk (q := QR.nf (((1 : Int)) : Rat)) (hn7.sub (M' := []) (fun b hb => by cases hb)) (hd7.sub (M' := []) (fun b hb => by cases hb))))) rfl rfl (by decide) (by simp)
   refine L.call rfl (c_Run (M := []) (cs := [kA, kB]) (os := [1, 0]) (val := kV 1 1) (hL23.sub (M' := []) (fun b hb => by cases hb)) (hO24.sub (M' := []) (fun b hb => by cases hb)) (hV.sub (M' := []) (fun b hb => by cases hb)) (hbd.sub (fun b hb => by cases hb)) k_sm k_smV) rfl ?_
   rintro _ w60 ⟨v28, rfl, hR, hm60⟩
   replace hTA := hTA.gr hm60
   replace hn13 := hn13.gr hm60
   replace hd13 := hd13.gr hm60
   replace hb2 := Blk.gr hb2 hm60
   replace hTB := hTB.gr hm60
   replace hn18 := hn18.gr hm60
   replace hd18 := hd18.gr hm60
   replace hb3 := Blk.gr hb3 hm60
   replace hbd := hbd.gr hm60
   replace hm0 := hm0.trans hm60
   clear hm60
   rw [k_run] at hR ⊢
   replace hR : Lay rdQ [] _ v28 (kV 5 5) := hR
   refine L.v (R1.move rfl) rfl <| L.v (R1.extract rfl rfl) rfl <| L.v (R1.extract rfl rfl) rfl <| L.v (R1.extract rfl rfl) rfl <| L.v (R1.assign rfl) rfl <| L.v (R1.assign rfl) rfl <| L.v (R1.assign rfl) rfl <| L.nil <| X.seq <| W.seq <| W.drawW (T := []) rfl (by decide +kernel) (NoHang.then NoHang.post) (fun w61 hm61 => ?_)
   replace hTA := hTA.gr hm61
   replace hn13 := hn13.gr hm61
   replace hd13 := hd13.gr hm61
   replace hb2 := Blk.gr hb2 hm61
   replace hTB := hTB.gr hm61
   replace hn18 := hn18.gr hm61
   replace hd18 := hd18.gr hm61
   replace hb3 := Blk.gr hb3 hm61
   replace hbd := hbd.gr hm61
   replace hm0 := hm0.trans hm61
   replace hR := hR.gr hm61
   have hS3 : Mod [] w61 w61 := Mod.refl _ _
   clear hm61
   have hb2_s := hb2
   have hb3_s := hb3
   have hR_s := hR
   refine D.take 0 rfl (by decide +kernel) (fun w_ hS => (R1.loadBox rfl (Blk.gr hb2_s hS) tyG42)) hS3 rfl <| D.take 1 rfl (by decide +kernel) (fun w_ hS => (R1.loadBox rfl (Blk.gr hb3_s hS) tyG42)) hS3 rfl <| D.many (rs := [2, 3, 5]) (by decide +kernel) rfl ?_
   intro i_ hi_
   simp only [List.mem_cons, List.not_mem_nil, or_false] at hi_
   rcases hi_ with rfl | rfl | rfl
   ·
    refine ⟨_, rfl, fun hX => ?_⟩
    refine L.buildSlice (cells := [.int .i64 0, .slice (some ⟨g12, 0, none⟩) 2 2, .bool (decide ((((0 : Int)) : Rat).num < 0)), .slice A13 (toL (((0 : Int)) : Rat).num.natAbs).length c13, .slice B13 (toL (((0 : Int)) : Rat).den).length e13, .int .i64 0, .slice (some ⟨g17, 0, none⟩) 1 1, .bool (decide ((((-5 : Int)) : Rat).num < 0)), .slice A18 (toL (((-5 : Int)) : Rat).num.natAbs).length c18, .slice B18 (toL (((-5 : Int)) : Rat).den).length e18]) rfl tyS22 tyZ42 (fillK2 _ _ _ _ _ _ _ _ _ _ _ _ _ _ _ _ _ _ _ _ _ _) (by decide) (by decide) rfl ?_
    intro g34 w62 hN34
    replace hS3 := hS3.trans hN34.mod
    replace hTA := hTA.new hN34
    replace hn13 := hn13.new hN34
    replace hd13 := hd13.new hN34
    replace hTB := hTB.new hN34
    replace hn18 := hn18.new hN34
    replace hd18 := hd18.new hN34
    replace hbd := hbd.new hN34
    replace hm0 := hm0.trans (hN34.mod.mono (by simp))
    have hb34 := hN34.blk
    clear hN34
    refine L.nil (hX _ _ ⟨.inr hS3, ?_⟩)
    have hL34 : Lay rdC [] w62 (.slice (some ⟨g34, 0, none⟩) 2 2) [kA, kB] := Lay.of_blk (css := [[.int .i64 0, .slice (some ⟨g12, 0, none⟩) 2 2, .bool (decide ((((0 : Int)) : Rat).num < 0)), .slice A13 (toL (((0 : Int)) : Rat).num.natAbs).length c13, .slice B13 (toL (((0 : Int)) : Rat).den).length e13], [.int .i64 0, .slice (some ⟨g17, 0, none⟩) 1 1, .bool (decide ((((-5 : Int)) : Rat).num < 0)), .slice A18 (toL (((-5 : Int)) : Rat).num.natAbs).length c18, .slice B18 (toL (((-5 : Int)) : Rat).den).length e18]]) hb34 ((LayL.one _ kA (rdC_mk (c := kA) (vt := .slice (some ⟨g12, 0, none⟩) 2 2) (hTA.sub (M' := []) (fun b hb => by cases hb)) (hn13.sub (M' := []) (fun b hb => by cases hb)) (hd13.sub (M' := []) (fun b hb => by cases hb)))).append (LayL.one _ kB (rdC_mk (c := kB) (vt := .slice (some ⟨g17, 0, none⟩) 1 1) (hTB.sub (M' := []) (fun b hb => by cases hb)) (hn18.sub (M' := []) (fun b hb => by cases hb)) (hd18.sub (M' := []) (fun b hb => by cases hb))))) rfl rfl (by decide) (by simp)
    refine D.many (rs := [3, 5]) (by decide +kernel) rfl ?_
    intro i_ hi_
    simp only [List.mem_cons, List.not_mem_nil, or_false] at hi_
    rcases hi_ with rfl | rfl
    ·
     refine ⟨_, rfl, fun hX => ?_⟩
     refine L.buildSlice (cells := [.int .i64 1, .int .i64 0]) rfl tyS26 tyZ3 (fillI2 _ _) (by decide) (by decide) rfl ?_
     intro g35 w63 hN35
     replace hS3 := hS3.trans hN35.mod
     replace hbd := hbd.new hN35
     replace hm0 := hm0.trans (hN35.mod.mono (by simp))
     replace hL34 := hL34.new hN35
     have hb35 := hN35.blk
     clear hN35
     refine L.nil (hX _ _ ⟨.inr hS3, ?_⟩)
     have hO35 : Lay rdI [] w63 (.slice (some ⟨g35, 0, none⟩) 2 2) [1, 0] := Lay.of_blk (css := [[.int .i64 1], [.int .i64 0]]) hb35 (LayL.ints [1, 0]) rfl rfl (by decide) (by simp)
     refine D.many (rs := [4, 5]) (by decide +kernel) rfl ?_
     intro i_ hi_
     simp only [List.mem_cons, List.not_mem_nil, or_false] at hi_
     rcases hi_ with rfl | rfl
     ·
      refine ⟨_, rfl, fun hX => ?_⟩
      refine L.call rfl (c_OrderL (M := []) (z0 := 2) (cs := [kA, kB]) (os := [1, 0]) (hL34.sub (M' := []) (fun b hb => by cases hb)) (hO35.sub (M' := []) (fun b hb => by cases hb)) (hbd.sub (fun b hb => by cases hb)) k_smL) rfl ?_
      rintro v36 w64 ⟨hP36, hm64⟩
      replace hbd := hbd.gr hm64
      replace hm0 := hm0.trans hm64
      replace hS3 := hS3.trans hm64
      clear hm64
      rw [k_ordZ] at hP36
      refine L.nil (hX _ _ ⟨.inr hS3, ?_⟩)
      refine D.one 5 rfl (by decide +kernel) (fun hX => ?_)
      refine L.buildSlice (cells := [.int .i64 1, .int .i64 0]) rfl tyS26 tyZ3 (fillI2 _ _) (by decide) (by decide) rfl ?_
      intro g37 w65 hN37
      replace hS3 := hS3.trans hN37.mod
      replace hbd := hbd.new hN37
      replace hm0 := hm0.trans (hN37.mod.mono (by simp))
      replace hP36 := hP36.new hN37
      have hb37 := hN37.blk
      clear hN37
      refine L.nil (hX _ _ ⟨.inr hS3, ?_⟩)
      have hO37 : Lay rdI [] w65 (.slice (some ⟨g37, 0, none⟩) 2 2) [1, 0] := Lay.of_blk (css := [[.int .i64 1], [.int .i64 0]]) hb37 (LayL.ints [1, 0]) rfl rfl (by decide) (by simp)
      refine D.one 6 rfl (by decide +kernel) (fun hX => ?_)
      refine L.call rfl (c_numbersEq hP36 hO37 rfl) rfl ?_
      rintro _ w66 ⟨rfl, hm66⟩
      replace hbd := hbd.gr hm66
      replace hm0 := hm0.trans hm66
      replace hS3 := hS3.trans hm66
      clear hm66
      refine L.nil (hX _ _ ⟨.inr hS3, ?_⟩)
      refine D.take 7 rfl (by decide +kernel) (fun w_ hS => (R1.move rfl)) hS3 rfl <| D.takeOn 8 rfl rfl rfl rfl (by decide +kernel) (fun w_ hS => (R1.move rfl)) hS3 rfl <| D.takeOn 9 rfl rfl rfl rfl (by decide +kernel) (fun w_ hS => ((R1.eq rfl rfl).asB (c := true) (by rfl))) hS3 rfl <| D.take 10 rfl (by decide +kernel) (fun w_ hS => (R1.pickT rfl rfl)) hS3 rfl <| D.take 11 rfl (by decide +kernel) (fun w_ hS => (R1.move rfl)) hS3 rfl <| D.takeOn 12 rfl rfl rfl rfl (by decide +kernel) (fun w_ hS => (R1.move rfl)) hS3 rfl <| D.takeOn 13 rfl rfl rfl rfl (by decide +kernel) (fun w_ hS => ((R1.eq rfl rfl).asB (c := true) (by rfl))) hS3 rfl <| D.take 14 rfl (by decide +kernel) (fun w_ hS => (R1.pickT rfl rfl)) hS3 rfl <| D.take 15 rfl (by decide +kernel) (fun w_ hS => (R1.move rfl)) hS3 rfl <| D.takeOn 16 rfl rfl rfl rfl (by decide +kernel) (fun w_ hS => (R1.move rfl)) hS3 rfl <| D.takeOn 17 rfl rfl rfl rfl (by decide +kernel) (fun w_ hS => (R1.lenLay rfl (Lay.gr hR_s hS) tyS23)) hS3 rfl ?_
      refine D.takeOn 18 rfl rfl rfl rfl (by decide +kernel) (fun w_ hS => ((R1.eq rfl rfl).asB (c := true) (by rfl))) hS3 rfl <| D.take 19 rfl (by decide +kernel) (fun w_ hS => (R1.pickT rfl rfl)) hS3 rfl <| D.take 20 rfl (by decide +kernel) (fun w_ hS => (R1.move rfl)) hS3 rfl <| D.takeOn 21 rfl rfl rfl rfl (by decide +kernel) (fun w_ hS => (R1.move rfl)) hS3 rfl <| D.takeOn 22 rfl rfl rfl rfl (by decide +kernel) (fun w_ hS => (R1.atLay (j := 1) rfl rfl (Lay.gr hR_s hS) tyS23 rfl (by decide))) hS3 rfl ?_
      obtain ⟨z55, cs55, hz55, hE55, vn55, vd55, rfl, hn55, hd55⟩ := Lay.elemQ hR_s (j := 1) (by decide)
      obtain rfl : QR.nf (((5 : Int)) : Rat) = z55 := by injection hz55
      obtain ⟨A55, c55, rfl⟩ := hn55.form
      obtain ⟨B55, e55, rfl⟩ := hd55.form
      replace hn55 := hn55.gr hS3
      replace hd55 := hd55.gr hS3
      refine D.takeOn 23 rfl rfl rfl rfl (by decide +kernel) (fun w_ hS => (R1.loadE rfl (SlE.gr hE55 hS) tyG40)) hS3 rfl <| D.one 24 rfl (by decide +kernel) (fun hX => ?_)
      refine L.callOn rfl rfl rfl rfl (c_ref2_Int (n := 5) (by decide) (by decide) hbd) rfl ?_
      rintro _ w67 ⟨⟨A56, c56, B56, e56, rfl, hn56, hd56⟩, hm67⟩
      replace hbd := hbd.gr hm67
      replace hm0 := hm0.trans hm67
      replace hn55 := hn55.gr hm67
      replace hd55 := hd55.gr hm67
      replace hS3 := hS3.trans hm67
      clear hm67
      have F56 := Fit.int (n := 5) (by decide) (by decide)
      refine L.nil (hX _ _ ⟨.inr hS3, ?_⟩)
      refine D.one 25 rfl (by decide +kernel) (fun hX => ?_)
      refine L.callOn rfl rfl rfl rfl (c_ref2_Same (qa := (QR.val (QR.nf (((5 : Int)) : Rat)))) (qb := (((5 : Int)) : Rat)) rfl (rv_toL _) hn55 hd55 hn56 hd56 hbd (Nat.le_trans (nf_sm2 (z := 5) (by decide)).1 (by decide)) (Nat.le_trans (nf_sm2 (z := 5) (by decide)).2 (by decide)) (Nat.le_trans F56.1 (by decide)) (Nat.le_trans F56.2 (by decide))) rfl ?_
      rintro _ w68 ⟨rfl, hm68⟩
      replace hm0 := hm0.trans hm68
      replace hS3 := hS3.trans hm68
      clear hm68
      refine L.nil (hX _ _ ⟨.inr hS3, ?_⟩)
      refine D.take 26 rfl (by decide +kernel) (fun w_ hS => (R1.pickT rfl rfl)) hS3 rfl <| D.take 27 rfl (by decide +kernel) (fun w_ hS => (R1.assign rfl)) hS3 rfl <| D.done (by decide +kernel) ?_ _
      refine X.seq <| W.ret <| X.result1 rfl (.tmp rfl .nil) ?_
      exact ⟨by rw [QR.nf_val]; simp, hm0⟩
     ·
      refine ⟨_, rfl, fun hX => ?_⟩
      refine L.buildSlice (cells := [.int .i64 1, .int .i64 0]) rfl tyS26 tyZ3 (fillI2 _ _) (by decide) (by decide) rfl ?_
      intro g37 w69 hN37
      replace hS3 := hS3.trans hN37.mod
      replace hbd := hbd.new hN37
      replace hm0 := hm0.trans (hN37.mod.mono (by simp))
      replace hL34 := hL34.new hN37
      replace hO35 := hO35.new hN37
      have hb37 := hN37.blk
      clear hN37
      refine L.nil (hX _ _ ⟨.inr hS3, ?_⟩)
      have hO37 : Lay rdI [] w69 (.slice (some ⟨g37, 0, none⟩) 2 2) [1, 0] := Lay.of_blk (css := [[.int .i64 1], [.int .i64 0]]) hb37 (LayL.ints [1, 0]) rfl rfl (by decide) (by simp)
      refine D.one 4 rfl (by decide +kernel) (fun hX => ?_)
      refine L.call rfl (c_OrderL (M := []) (z0 := 2) (cs := [kA, kB]) (os := [1, 0]) (hL34.sub (M' := []) (fun b hb => by cases hb)) (hO35.sub (M' := []) (fun b hb => by cases hb)) (hbd.sub (fun b hb => by cases hb)) k_smL) rfl ?_
      rintro v36 w70 ⟨hP36, hm70⟩
      replace hbd := hbd.gr hm70
      replace hm0 := hm0.trans hm70
      replace hO37 := hO37.gr hm70
      replace hS3 := hS3.trans hm70
      clear hm70
      rw [k_ordZ] at hP36
      refine L.nil (hX _ _ ⟨.inr hS3, ?_⟩)
      refine D.one 6 rfl (by decide +kernel) (fun hX => ?_)
      refine L.call rfl (c_numbersEq hP36 hO37 rfl) rfl ?_
      rintro _ w71 ⟨rfl, hm71⟩
      replace hbd := hbd.gr hm71
      replace hm0 := hm0.trans hm71
      replace hS3 := hS3.trans hm71
      clear hm71
      refine L.nil (hX _ _ ⟨.inr hS3, ?_⟩)
      refine D.take 7 rfl (by decide +kernel) (fun w_ hS => (R1.move rfl)) hS3 rfl <| D.takeOn 8 rfl rfl rfl rfl (by decide +kernel) (fun w_ hS => (R1.move rfl)) hS3 rfl <| D.takeOn 9 rfl rfl rfl rfl (by decide +kernel) (fun w_ hS => ((R1.eq rfl rfl).asB (c := true) (by rfl))) hS3 rfl <| D.take 10 rfl (by decide +kernel) (fun w_ hS => (R1.pickT rfl rfl)) hS3 rfl <| D.take 11 rfl (by decide +kernel) (fun w_ hS => (R1.move rfl)) hS3 rfl <| D.takeOn 12 rfl rfl rfl rfl (by decide +kernel) (fun w_ hS => (R1.move rfl)) hS3 rfl <| D.takeOn 13 rfl rfl rfl rfl (by decide +kernel) (fun w_ hS => ((R1.eq rfl rfl).asB (c := true) (by rfl))) hS3 rfl <| D.take 14 rfl (by decide +kernel) (fun w_ hS => (R1.pickT rfl rfl)) hS3 rfl <| D.take 15 rfl (by decide +kernel) (fun w_ hS => (R1.move rfl)) hS3 rfl <| D.takeOn 16 rfl rfl rfl rfl (by decide +kernel) (fun w_ hS => (R1.move rfl)) hS3 rfl <| D.takeOn 17 rfl rfl rfl rfl (by decide +kernel) (fun w_ hS => (R1.lenLay rfl (Lay.gr hR_s hS) tyS23)) hS3 rfl ?_
      refine D.takeOn 18 rfl rfl rfl rfl (by decide +kernel) (fun w_ hS => ((R1.eq rfl rfl).asB (c := true) (by rfl))) hS3 rfl <| D.take 19 rfl (by decide +kernel) (fun w_ hS => (R1.pickT rfl rfl)) hS3 rfl <| D.take 20 rfl (by decide +kernel) (fun w_ hS => (R1.move rfl)) hS3 rfl <| D.takeOn 21 rfl rfl rfl rfl (by decide +kernel) (fun w_ hS => (R1.move rfl)) hS3 rfl <| D.takeOn 22 rfl rfl rfl rfl (by decide +kernel) (fun w_ hS => (R1.atLay (j := 1) rfl rfl (Lay.gr hR_s hS) tyS23 rfl (by decide))) hS3 rfl ?_
      obtain ⟨z55, cs55, hz55, hE55, vn55, vd55, rfl, hn55, hd55⟩ := Lay.elemQ hR_s (j := 1) (by decide)
      obtain rfl : QR.nf (((5 : Int)) : Rat) = z55 := by injection hz55
      obtain ⟨A55, c55, rfl⟩ := hn55.form
      obtain ⟨B55, e55, rfl⟩ := hd55.form
      replace hn55 := hn55.gr hS3
      replace hd55 := hd55.gr hS3
      refine D.takeOn 23 rfl rfl rfl rfl (by decide +kernel) (fun w_ hS => (R1.loadE rfl (SlE.gr hE55 hS) tyG40)) hS3 rfl <| D.one 24 rfl (by decide +kernel) (fun hX => ?_)
      refine L.callOn rfl rfl rfl rfl (c_ref2_Int (n := 5) (by decide) (by decide) hbd) rfl ?_
      rintro _ w72 ⟨⟨A56, c56, B56, e56, rfl, hn56, hd56⟩, hm72⟩
      replace hbd := hbd.gr hm72
      replace hm0 := hm0.trans hm72
      replace hn55 := hn55.gr hm72
      replace hd55 := hd55.gr hm72
      replace hS3 := hS3.trans hm72
      clear hm72
      have F56 := Fit.int (n := 5) (by decide) (by decide)
      refine L.nil (hX _ _ ⟨.inr hS3, ?_⟩)
      refine D.one 25 rfl (by decide +kernel) (fun hX => ?_)
      refine L.callOn rfl rfl rfl rfl (c_ref2_Same (qa := (QR.val (QR.nf (((5 : Int)) : Rat)))) (qb := (((5 : Int)) : Rat)) rfl (rv_toL _) hn55 hd55 hn56 hd56 hbd (Nat.le_trans (nf_sm2 (z := 5) (by decide)).1 (by decide)) (Nat.le_trans (nf_sm2 (z := 5) (by decide)).2 (by decide)) (Nat.le_trans F56.1 (by decide)) (Nat.le_trans F56.2 (by decide))) rfl ?_
      rintro _ w73 ⟨rfl, hm73⟩
      replace hm0 := hm0.trans hm73
      replace hS3 := hS3.trans hm73
      clear hm73
      refine L.nil (hX _ _ ⟨.inr hS3, ?_⟩)
      refine D.take 26 rfl (by decide +kernel) (fun w_ hS => (R1.pickT rfl rfl)) hS3 rfl <| D.take 27 rfl (by decide +kernel) (fun w_ hS => (R1.assign rfl)) hS3 rfl <| D.done (by decide +kernel) ?_ _
      refine X.seq <| W.ret <| X.result1 rfl (.tmp rfl .nil) ?_
      exact ⟨by rw [QR.nf_val]; simp, hm0⟩
    ·
     refine ⟨_, rfl, fun hX => ?_⟩
     refine L.buildSlice (cells := [.int .i64 1, .int .i64 0]) rfl tyS26 tyZ3 (fillI2 _ _) (by decide) (by decide) rfl ?_
     intro g37 w74 hN37
     replace hS3 := hS3.trans hN37.mod
     replace hbd := hbd.new hN37
     replace hm0 := hm0.trans (hN37.mod.mono (by simp))
     replace hL34 := hL34.new hN37
     have hb37 := hN37.blk
     clear hN37
     refine L.nil (hX _ _ ⟨.inr hS3, ?_⟩)
     have hO37 : Lay rdI [] w74 (.slice (some ⟨g37, 0, none⟩) 2 2) [1, 0] := Lay.of_blk (css := [[.int .i64 1], [.int .i64 0]]) hb37 (LayL.ints [1, 0]) rfl rfl (by decide) (by simp)
     refine D.one 3 rfl (by decide +kernel) (fun hX => ?_)
     refine L.buildSlice (cells := [.int .i64 1, .int .i64 0]) rfl tyS26 tyZ3 (fillI2 _ _) (by decide) (by decide) rfl ?_
     intro g35 w75 hN35
     replace hS3 := hS3.trans hN35.mod
     replace hbd := hbd.new hN35
     replace hm0 := hm0.trans (hN35.mod.mono (by simp))
     replace hL34 := hL34.new hN35
     replace hO37 := hO37.new hN35
     have hb35 := hN35.blk
     clear hN35
     refine L.nil (hX _ _ ⟨.inr hS3, ?_⟩)
     have hO35 : Lay rdI [] w75 (.slice (some ⟨g35, 0, none⟩) 2 2) [1, 0] := Lay.of_blk (css := [[.int .i64 1], [.int .i64 0]]) hb35 (LayL.ints [1, 0]) rfl rfl (by decide) (by simp)
     refine D.one 4 rfl (by decide +kernel) (fun hX => ?_)
     refine L.call rfl (c_OrderL (M := []) (z0 := 2) (cs := [kA, kB]) (os := [1, 0]) (hL34.sub (M' := []) (fun b hb => by cases hb)) (hO35.sub (M' := []) (fun b hb => by cases hb)) (hbd.sub (fun b hb => by cases hb)) k_smL) rfl ?_
     rintro v36 w76 ⟨hP36, hm76⟩
     replace hbd := hbd.gr hm76
     replace hm0 := hm0.trans hm76
     replace hO37 := hO37.gr hm76
     replace hS3 := hS3.trans hm76
     clear hm76
     rw [k_ordZ] at hP36
     refine L.nil (hX _ _ ⟨.inr hS3, ?_⟩)
     refine D.one 6 rfl (by decide +kernel) (fun hX => ?_)
     refine L.call rfl (c_numbersEq hP36 hO37 rfl) rfl ?_
     rintro _ w77 ⟨rfl, hm77⟩
     replace hbd := hbd.gr hm77
     replace hm0 := hm0.trans hm77
     replace hS3 := hS3.trans hm77
     clear hm77
     refine L.nil (hX _ _ ⟨.inr hS3, ?_⟩)
     refine D.take 7 rfl (by decide +kernel) (fun w_ hS => (R1.move rfl)) hS3 rfl <| D.takeOn 8 rfl rfl rfl rfl (by decide +kernel) (fun w_ hS => (R1.move rfl)) hS3 rfl <| D.takeOn 9 rfl rfl rfl rfl (by decide +kernel) (fun w_ hS => ((R1.eq rfl rfl).asB (c := true) (by rfl))) hS3 rfl <| D.take 10 rfl (by decide +kernel) (fun w_ hS => (R1.pickT rfl rfl)) hS3 rfl <| D.take 11 rfl (by decide +kernel) (fun w_ hS => (R1.move rfl)) hS3 rfl <| D.takeOn 12 rfl rfl rfl rfl (by decide +kernel) (fun w_ hS => (R1.move rfl)) hS3 rfl <| D.takeOn 13 rfl rfl rfl rfl (by decide +kernel) (fun w_ hS => ((R1.eq rfl rfl).asB (c := true) (by rfl))) hS3 rfl <| D.take 14 rfl (by decide +kernel) (fun w_ hS => (R1.pickT rfl rfl)) hS3 rfl <| D.take 15 rfl (by decide +kernel) (fun w_ hS => (R1.move rfl)) hS3 rfl <| D.takeOn 16 rfl rfl rfl rfl (by decide +kernel) (fun w_ hS => (R1.move rfl)) hS3 rfl <| D.takeOn 17 rfl rfl rfl rfl (by decide +kernel) (fun w_ hS => (R1.lenLay rfl (Lay.gr hR_s hS) tyS23)) hS3 rfl ?_
     refine D.takeOn 18 rfl rfl rfl rfl (by decide +kernel) (fun w_ hS => ((R1.eq rfl rfl).asB (c := true) (by rfl))) hS3 rfl <| D.take 19 rfl (by decide +kernel) (fun w_ hS => (R1.pickT rfl rfl)) hS3 rfl <| D.take 20 rfl (by decide +kernel) (fun w_ hS => (R1.move rfl)) hS3 rfl <| D.takeOn 21 rfl rfl rfl rfl (by decide +kernel) (fun w_ hS => (R1.move rfl)) hS3 rfl <| D.takeOn 22 rfl rfl rfl rfl (by decide +kernel) (fun w_ hS => (R1.atLay (j := 1) rfl rfl (Lay.gr hR_s hS) tyS23 rfl (by decide))) hS3 rfl ?_
     obtain ⟨z55, cs55, hz55, hE55, vn55, vd55, rfl, hn55, hd55⟩ := Lay.elemQ hR_s (j := 1) (by decide)
     obtain rfl : QR.nf (((5 : Int)) : Rat) = z55 := by injection hz55
     obtain ⟨A55, c55, rfl⟩ := hn55.form
     obtain ⟨B55, e55, rfl⟩ := hd55.form
     replace hn55 := hn55.gr hS3
     replace hd55 := hd55.gr hS3
     refine D.takeOn 23 rfl rfl rfl rfl (by decide +kernel) (fun w_ hS => (R1.loadE rfl (SlE.gr hE55 hS) tyG40)) hS3 rfl <| D.one 24 rfl (by decide +kernel) (fun hX => ?_)
     refine L.callOn rfl rfl rfl rfl (c_ref2_Int (n := 5) (by decide) (by decide) hbd) rfl ?_
     rintro _ w78 ⟨⟨A56, c56, B56, e56, rfl, hn56, hd56⟩, hm78⟩
     replace hbd := hbd.gr hm78
     replace hm0 := hm0.trans hm78
     replace hn55 := hn55.gr hm78
     replace hd55 := hd55.gr hm78
     replace hS3 := hS3.trans hm78
     clear hm78
     have F56 := Fit.int (n := 5) (by decide) (by decide)
     refine L.nil (hX _ _ ⟨.inr hS3, ?_⟩)
     refine D.one 25 rfl (by decide +kernel) (fun hX => ?_)
     refine L.callOn rfl rfl rfl rfl (c_ref2_Same (qa := (QR.val (QR.nf (((5 : Int)) : Rat)))) (qb := (((5 : Int)) : Rat)) rfl (rv_toL _) hn55 hd55 hn56 hd56 hbd (Nat.le_trans (nf_sm2 (z := 5) (by decide)).1 (by decide)) (Nat.le_trans (nf_sm2 (z := 5) (by decide)).2 (by decide)) (Nat.le_trans F56.1 (by decide)) (Nat.le_trans F56.2 (by decide))) rfl ?_
     rintro _ w79 ⟨rfl, hm79⟩
     replace hm0 := hm0.trans hm79
     replace hS3 := hS3.trans hm79
     clear hm79
     refine L.nil (hX _ _ ⟨.inr hS3, ?_⟩)
     refine D.take 26 rfl (by decide +kernel) (fun w_ hS => (R1.pickT rfl rfl)) hS3 rfl <| D.take 27 rfl (by decide +kernel) (fun w_ hS => (R1.assign rfl)) hS3 rfl <| D.done (by decide +kernel) ?_ _
     refine X.seq <| W.ret <| X.result1 rfl (.tmp rfl .nil) ?_
     exact ⟨by rw [QR.nf_val]; simp, hm0⟩
   ·
    refine ⟨_, rfl, fun hX => ?_⟩
    refine L.buildSlice (cells := [.int .i64 1, .int .i64 0]) rfl tyS26 tyZ3 (fillI2 _ _) (by decide) (by decide) rfl ?_
    intro g35 w80 hN35
    replace hS3 := hS3.trans hN35.mod
    replace hTA := hTA.new hN35
    replace hn13 := hn13.new hN35
    replace hd13 := hd13.new hN35
    replace hTB := hTB.new hN35
    replace hn18 := hn18.new hN35
    replace hd18 := hd18.new hN35
    replace hbd := hbd.new hN35
    replace hm0 := hm0.trans (hN35.mod.mono (by simp))
    have hb35 := hN35.blk
    clear hN35
    refine L.nil (hX _ _ ⟨.inr hS3, ?_⟩)
    have hO35 : Lay rdI [] w80 (.slice (some ⟨g35, 0, none⟩) 2 2) [1, 0] := Lay.of_blk (css := [[.int .i64 1], [.int .i64 0]]) hb35 (LayL.ints [1, 0]) rfl rfl (by decide) (by simp)
    refine D.many (rs := [2, 5]) (by decide +kernel) rfl ?_
    intro i_ hi_
    simp only [List.mem_cons, List.not_mem_nil, or_false] at hi_
    rcases hi_ with rfl | rfl
    ·
     refine ⟨_, rfl, fun hX => ?_⟩
     refine L.buildSlice (cells := [.int .i64 0, .slice (some ⟨g12, 0, none⟩) 2 2, .bool (decide ((((0 : Int)) : Rat).num < 0)), .slice A13 (toL (((0 : Int)) : Rat).num.natAbs).length c13, .slice B13 (toL (((0 : Int)) : Rat).den).length e13, .int .i64 0, .slice (some ⟨g17, 0, none⟩) 1 1, .bool (decide ((((-5 : Int)) : Rat).num < 0)), .slice A18 (toL (((-5 : Int)) : Rat).num.natAbs).length c18, .slice B18 (toL (((-5 : Int)) : Rat).den).length e18]) rfl tyS22 tyZ42 (fillK2 _ _ _ _ _ _ _ _ _ _ _ _ _ _ _ _ _ _ _ _ _ _) (by decide) (by decide) rfl ?_
     intro g34 w81 hN34
     replace hS3 := hS3.trans hN34.mod
     replace hTA := hTA.new hN34
     replace hn13 := hn13.new hN34
     replace hd13 := hd13.new hN34
     replace hTB := hTB.new hN34
     replace hn18 := hn18.new hN34
     replace hd18 := hd18.new hN34
     replace hbd := hbd.new hN34
     replace hm0 := hm0.trans (hN34.mod.mono (by simp))
     replace hO35 := hO35.new hN34
     have hb34 := hN34.blk
     clear hN34
     refine L.nil (hX _ _ ⟨.inr hS3, ?_⟩)
     have hL34 : Lay rdC [] w81 (.slice (some ⟨g34, 0, none⟩) 2 2) [kA, kB] := Lay.of_blk (css := [[.int .i64 0, .slice (some ⟨g12, 0, none⟩) 2 2, .bool (decide ((((0 : Int)) : Rat).num < 0)), .slice A13 (toL (((0 : Int)) : Rat).num.natAbs).length c13, .slice B13 (toL (((0 : Int)) : Rat).den).length e13], [.int .i64 0, .slice (some ⟨g17, 0, none⟩) 1 1, .bool (decide ((((-5 : Int)) : Rat).num < 0)), .slice A18 (toL (((-5 : Int)) : Rat).num.natAbs).length c18, .slice B18 (toL (((-5 : Int)) : Rat).den).length e18]]) hb34 ((LayL.one _ kA (rdC_mk (c := kA) (vt := .slice (some ⟨g12, 0, none⟩) 2 2) (hTA.sub (M' := []) (fun b hb => by cases hb)) (hn13.sub (M' := []) (fun b hb => by cases hb)) (hd13.sub (M' := []) (fun b hb => by cases hb)))).append (LayL.one _ kB (rdC_mk (c := kB) (vt := .slice (some ⟨g17, 0, none⟩) 1 1) (hTB.sub (M' := []) (fun b hb => by cases hb)) (hn18.sub (M' := []) (fun b hb => by cases hb)) (hd18.sub (M' := []) (fun b hb => by cases hb))))) rfl rfl (by decide) (by simp)
     refine D.many (rs := [4, 5]) (by decide +kernel) rfl ?_
     intro i_ hi_
     simp only [List.mem_cons, List.not_mem_nil, or_false] at hi_
     rcases hi_ with rfl | rfl
     ·
      refine ⟨_, rfl, fun hX => ?_⟩
      refine L.call rfl (c_OrderL (M := []) (z0 := 2) (cs := [kA, kB]) (os := [1, 0]) (hL34.sub (M' := []) (fun b hb => by cases hb)) (hO35.sub (M' := []) (fun b hb => by cases hb)) (hbd.sub (fun b hb => by cases hb)) k_smL) rfl ?_
      rintro v36 w82 ⟨hP36, hm82⟩
      replace hbd := hbd.gr hm82
      replace hm0 := hm0.trans hm82
      replace hS3 := hS3.trans hm82
      clear hm82
      rw [k_ordZ] at hP36
      refine L.nil (hX _ _ ⟨.inr hS3, ?_⟩)
      refine D.one 5 rfl (by decide +kernel) (fun hX => ?_)
      refine L.buildSlice (cells := [.int .i64 1, .int .i64 0]) rfl tyS26 tyZ3 (fillI2 _ _) (by decide) (by decide) rfl ?_
      intro g37 w83 hN37
      replace hS3 := hS3.trans hN37.mod
      replace hbd := hbd.new hN37
      replace hm0 := hm0.trans (hN37.mod.mono (by simp))
      replace hP36 := hP36.new hN37
      have hb37 := hN37.blk
      clear hN37
      refine L.nil (hX _ _ ⟨.inr hS3, ?_⟩)
      have hO37 : Lay rdI [] w83 (.slice (some ⟨g37, 0, none⟩) 2 2) [1, 0] := Lay.of_blk (css := [[.int .i64 1], [.int .i64 0]]) hb37 (LayL.ints [1, 0]) rfl rfl (by decide) (by simp)
      refine D.one 6 rfl (by decide +kernel) (fun hX => ?_)
      refine L.call rfl (c_numbersEq hP36 hO37 rfl) rfl ?_
      rintro _ w84 ⟨rfl, hm84⟩
      replace hbd := hbd.gr hm84
      replace hm0 := hm0.trans hm84
      replace hS3 := hS3.trans hm84
      clear hm84
      refine L.nil (hX _ _ ⟨.inr hS3, ?_⟩)
      refine D.take 7 rfl (by decide +kernel) (fun w_ hS => (R1.move rfl)) hS3 rfl <| D.takeOn 8 rfl rfl rfl rfl (by decide +kernel) (fun w_ hS => (R1.move rfl)) hS3 rfl <| D.takeOn 9 rfl rfl rfl rfl (by decide +kernel) (fun w_ hS => ((R1.eq rfl rfl).asB (c := true) (by rfl))) hS3 rfl <| D.take 10 rfl (by decide +kernel) (fun w_ hS => (R1.pickT rfl rfl)) hS3 rfl <| D.take 11 rfl (by decide +kernel) (fun w_ hS => (R1.move rfl)) hS3 rfl <| D.takeOn 12 rfl rfl rfl rfl (by decide +kernel) (fun w_ hS => (R1.move rfl)) hS3 rfl <| D.takeOn 13 rfl rfl rfl rfl (by decide +kernel) (fun w_ hS => ((R1.eq rfl rfl).asB (c := true) (by rfl))) hS3 rfl <| D.take 14 rfl (by decide +kernel) (fun w_ hS => (R1.pickT rfl rfl)) hS3 rfl <| D.take 15 rfl (by decide +kernel) (fun w_ hS => (R1.move rfl)) hS3 rfl <| D.takeOn 16 rfl rfl rfl rfl (by decide +kernel) (fun w_ hS => (R1.move rfl)) hS3 rfl <| D.takeOn 17 rfl rfl rfl rfl (by decide +kernel) (fun w_ hS => (R1.lenLay rfl (Lay.gr hR_s hS) tyS23)) hS3 rfl ?_
      refine D.takeOn 18 rfl rfl rfl rfl (by decide +kernel) (fun w_ hS => ((R1.eq rfl rfl).asB (c := true) (by rfl))) hS3 rfl <| D.take 19 rfl (by decide +kernel) (fun w_ hS => (R1.pickT rfl rfl)) hS3 rfl <| D.take 20 rfl (by decide +kernel) (fun w_ hS => (R1.move rfl)) hS3 rfl <| D.takeOn 21 rfl rfl rfl rfl (by decide +kernel) (fun w_ hS => (R1.move rfl)) hS3 rfl <| D.takeOn 22 rfl rfl rfl rfl (by decide +kernel) (fun w_ hS => (R1.atLay (j := 1) rfl rfl (Lay.gr hR_s hS) tyS23 rfl (by decide))) hS3 rfl ?_
      obtain ⟨z55, cs55, hz55, hE55, vn55, vd55, rfl, hn55, hd55⟩ := Lay.elemQ hR_s (j := 1) (by decide)
      obtain rfl : QR.nf (((5 : Int)) : Rat) = z55 := by injection hz55
      obtain ⟨A55, c55, rfl⟩ := hn55.form
      obtain ⟨B55, e55, rfl⟩ := hd55.form
      replace hn55 := hn55.gr hS3
      replace hd55 := hd55.gr hS3
      refine D.takeOn 23 rfl rfl rfl rfl (by decide +kernel) (fun w_ hS => (R1.loadE rfl (SlE.gr hE55 hS) tyG40)) hS3 rfl <| D.one 24 rfl (by decide +kernel) (fun hX => ?_)
      refine L.callOn rfl rfl rfl rfl (c_ref2_Int (n := 5) (by decide) (by decide) hbd) rfl ?_
      rintro _ w85 ⟨⟨A56, c56, B56, e56, rfl, hn56, hd56⟩, hm85⟩
      replace hbd := hbd.gr hm85
      replace hm0 := hm0.trans hm85
      replace hn55 := hn55.gr hm85
      replace hd55 := hd55.gr hm85
      replace hS3 := hS3.trans hm85
      clear hm85
      have F56 := Fit.int (n := 5) (by decide) (by decide)
      refine L.nil (hX _ _ ⟨.inr hS3, ?_⟩)
      refine D.one 25 rfl (by decide +kernel) (fun hX => ?_)
      refine L.callOn rfl rfl rfl rfl (c_ref2_Same (qa := (QR.val (QR.nf (((5 : Int)) : Rat)))) (qb := (((5 : Int)) : Rat)) rfl (rv_toL _) hn55 hd55 hn56 hd56 hbd (Nat.le_trans (nf_sm2 (z := 5) (by decide)).1 (by decide)) (Nat.le_trans (nf_sm2 (z := 5) (by decide)).2 (by decide)) (Nat.le_trans F56.1 (by decide)) (Nat.le_trans F56.2 (by decide))) rfl ?_
      rintro _ w86 ⟨rfl, hm86⟩
      replace hm0 := hm0.trans hm86
      replace hS3 := hS3.trans hm86
      clear hm86
      refine L.nil (hX _ _ ⟨.inr hS3, ?_⟩)
      refine D.take 26 rfl (by decide +kernel) (fun w_ hS => (R1.pickT rfl rfl)) hS3 rfl <| D.take 27 rfl (by decide +kernel) (fun w_ hS => (R1.assign rfl)) hS3 rfl <| D.done (by decide +kernel) ?_ _
      refine X.seq <| W.ret <| X.result1 rfl (.tmp rfl .nil) ?_
      exact ⟨by rw [QR.nf_val]; simp, hm0⟩
     ·
      refine ⟨_, rfl, fun hX => ?_⟩
      refine L.buildSlice (cells := [.int .i64 1, .int .i64 0]) rfl tyS26 tyZ3 (fillI2 _ _) (by decide) (by decide) rfl ?_
      intro g37 w87 hN37
      replace hS3 := hS3.trans hN37.mod
      replace hbd := hbd.new hN37
      replace hm0 := hm0.trans (hN37.mod.mono (by simp))
      replace hO35 := hO35.new hN37
      replace hL34 := hL34.new hN37
      have hb37 := hN37.blk
      clear hN37
      refine L.nil (hX _ _ ⟨.inr hS3, ?_⟩)
      have hO37 : Lay rdI [] w87 (.slice (some ⟨g37, 0, none⟩) 2 2) [1, 0] := Lay.of_blk (css := [[.int .i64 1], [.int .i64 0]]) hb37 (LayL.ints [1, 0]) rfl rfl (by decide) (by simp)
      refine D.one 4 rfl (by decide +kernel) (fun hX => ?_)
      refine L.call rfl (c_OrderL (M := []) (z0 := 2) (cs := [kA, kB]) (os := [1, 0]) (hL34.sub (M' := []) (fun b hb => by cases hb)) (hO35.sub (M' := []) (fun b hb => by cases hb)) (hbd.sub (fun b hb => by cases hb)) k_smL) rfl ?_
      rintro v36 w88 ⟨hP36, hm88⟩
      replace hbd := hbd.gr hm88
      replace hm0 := hm0.trans hm88
      replace hO37 := hO37.gr hm88
      replace hS3 := hS3.trans hm88
      clear hm88
      rw [k_ordZ] at hP36
      refine L.nil (hX _ _ ⟨.inr hS3, ?_⟩)
      refine D.one 6 rfl (by decide +kernel) (fun hX => ?_)
      refine L.call rfl (c_numbersEq hP36 hO37 rfl) rfl ?_
      rintro _ w89 ⟨rfl, hm89⟩
      replace hbd := hbd.gr hm89
      replace hm0 := hm0.trans hm89
      replace hS3 := hS3.trans hm89
      clear hm89
      refine L.nil (hX _ _ ⟨.inr hS3, ?_⟩)
      refine D.take 7 rfl (by decide +kernel) (fun w_ hS => (R1.move rfl)) hS3 rfl <| D.takeOn 8 rfl rfl rfl rfl (by decide +kernel) (fun w_ hS => (R1.move rfl)) hS3 rfl <| D.takeOn 9 rfl rfl rfl rfl (by decide +kernel) (fun w_ hS => ((R1.eq rfl rfl).asB (c := true) (by rfl))) hS3 rfl <| D.take 10 rfl (by decide +kernel) (fun w_ hS => (R1.pickT rfl rfl)) hS3 rfl <| D.take 11 rfl (by decide +kernel) (fun w_ hS => (R1.move rfl)) hS3 rfl <| D.takeOn 12 rfl rfl rfl rfl (by decide +kernel) (fun w_ hS => (R1.move rfl)) hS3 rfl <| D.takeOn 13 rfl rfl rfl rfl (by decide +kernel) (fun w_ hS => ((R1.eq rfl rfl).asB (c := true) (by rfl))) hS3 rfl <| D.take 14 rfl (by decide +kernel) (fun w_ hS => (R1.pickT rfl rfl)) hS3 rfl <| D.take 15 rfl (by decide +kernel) (fun w_ hS => (R1.move rfl)) hS3 rfl <| D.takeOn 16 rfl rfl rfl rfl (by decide +kernel) (fun w_ hS => (R1.move rfl)) hS3 rfl <| D.takeOn 17 rfl rfl rfl rfl (by decide +kernel) (fun w_ hS => (R1.lenLay rfl (Lay.gr hR_s hS) tyS23)) hS3 rfl ?_
      refine D.takeOn 18 rfl rfl rfl rfl (by decide +kernel) (fun w_ hS => ((R1.eq rfl rfl).asB (c := true) (by rfl))) hS3 rfl <| D.take 19 rfl (by decide +kernel) (fun w_ hS => (R1.pickT rfl rfl)) hS3 rfl <| D.take 20 rfl (by decide +kernel) (fun w_ hS => (R1.move rfl)) hS3 rfl <| D.takeOn 21 rfl rfl rfl rfl (by decide +kernel) (fun w_ hS => (R1.move rfl)) hS3 rfl <| D.takeOn 22 rfl rfl rfl rfl (by decide +kernel) (fun w_ hS => (R1.atLay (j := 1) rfl rfl (Lay.gr hR_s hS) tyS23 rfl (by decide))) hS3 rfl ?_
      obtain ⟨z55, cs55, hz55, hE55, vn55, vd55, rfl, hn55, hd55⟩ := Lay.elemQ hR_s (j := 1) (by decide)
      obtain rfl : QR.nf (((5 : Int)) : Rat) = z55 := by injection hz55
      obtain ⟨A55, c55, rfl⟩ := hn55.form
      obtain ⟨B55, e55, rfl⟩ := hd55.form
      replace hn55 := hn55.gr hS3
      replace hd55 := hd55.gr hS3
      refine D.takeOn 23 rfl rfl rfl rfl (by decide +kernel) (fun w_ hS => (R1.loadE rfl (SlE.gr hE55 hS) tyG40)) hS3 rfl <| D.one 24 rfl (by decide +kernel) (fun hX => ?_)
      refine L.callOn rfl rfl rfl rfl (c_ref2_Int (n := 5) (by decide) (by decide) hbd) rfl ?_
      rintro _ w90 ⟨⟨A56, c56, B56, e56, rfl, hn56, hd56⟩, hm90⟩
      replace hbd := hbd.gr hm90
      replace hm0 := hm0.trans hm90
      replace hn55 := hn55.gr hm90
      replace hd55 := hd55.gr hm90
      replace hS3 := hS3.trans hm90
      clear hm90
      have F56 := Fit.int (n := 5) (by decide) (by decide)
      refine L.nil (hX _ _ ⟨.inr hS3, ?_⟩)
      refine D.one 25 rfl (by decide +kernel) (fun hX => ?_)
      refine L.callOn rfl rfl rfl rfl (c_ref2_Same (qa := (QR.val (QR.nf (((5 : Int)) : Rat)))) (qb := (((5 : Int)) : Rat)) rfl (rv_toL _) hn55 hd55 hn56 hd56 hbd (Nat.le_trans (nf_sm2 (z := 5) (by decide)).1 (by decide)) (Nat.le_trans (nf_sm2 (z := 5) (by decide)).2 (by decide)) (Nat.le_trans F56.1 (by decide)) (Nat.le_trans F56.2 (by decide))) rfl ?_
      rintro _ w91 ⟨rfl, hm91⟩
      replace hm0 := hm0.trans hm91
      replace hS3 := hS3.trans hm91
      clear hm91
      refine L.nil (hX _ _ ⟨.inr hS3, ?_⟩)
      refine D.take 26 rfl (by decide +kernel) (fun w_ hS => (R1.pickT rfl rfl)) hS3 rfl <| D.take 27 rfl (by decide +kernel) (fun w_ hS => (R1.assign rfl)) hS3 rfl <| D.done (by decide +kernel) ?_ _
      refine X.seq <| W.ret <| X.result1 rfl (.tmp rfl .nil) ?_
      exact ⟨by rw [QR.nf_val]; simp, hm0⟩
    ·
     refine ⟨_, rfl, fun hX => ?_⟩
     refine L.buildSlice (cells := [.int .i64 1, .int .i64 0]) rfl tyS26 tyZ3 (fillI2 _ _) (by decide) (by decide) rfl ?_
     intro g37 w92 hN37
     replace hS3 := hS3.trans hN37.mod
     replace hTA := hTA.new hN37
     replace hn13 := hn13.new hN37
     replace hd13 := hd13.new hN37
     replace hTB := hTB.new hN37
     replace hn18 := hn18.new hN37
     replace hd18 := hd18.new hN37
     replace hbd := hbd.new hN37
     replace hm0 := hm0.trans (hN37.mod.mono (by simp))
     replace hO35 := hO35.new hN37
     have hb37 := hN37.blk
     clear hN37
     refine L.nil (hX _ _ ⟨.inr hS3, ?_⟩)
     have hO37 : Lay rdI [] w92 (.slice (some ⟨g37, 0, none⟩) 2 2) [1, 0] := Lay.of_blk (css := [[.int .i64 1], [.int .i64 0]]) hb37 (LayL.ints [1, 0]) rfl rfl (by decide) (by simp)
     refine D.one 2 rfl (by decide +kernel) (fun hX => ?_)
     refine L.buildSlice (cells := [.int .i64 0, .slice (some ⟨g12, 0, none⟩) 2 2, .bool (decide ((((0 : Int)) : Rat).num < 0)), .slice A13 (toL (((0 : Int)) : Rat).num.natAbs).length c13, .slice B13 (toL (((0 : Int)) : Rat).den).length e13, .int .i64 0, .slice (some ⟨g17, 0, none⟩) 1 1, .bool (decide ((((-5 : Int)) : Rat).num < 0)), .slice A18 (toL (((-5 : Int)) : Rat).num.natAbs).length c18, .slice B18 (toL (((-5 : Int)) : Rat).den).length e18]) rfl tyS22 tyZ42 (fillK2 _ _ _ _ _ _ _ _ _ _ _ _ _ _ _ _ _ _ _ _ _ _) (by decide) (by decide) rfl ?_
     intro g34 w93 hN34
     replace hS3 := hS3.trans hN34.mod
     replace hTA := hTA.new hN34
     replace hn13 := hn13.new hN34
     replace hd13 := hd13.new hN34
     replace hTB := hTB.new hN34
     replace hn18 := hn18.new hN34
     replace hd18 := hd18.new hN34
     replace hbd := hbd.new hN34
     replace hm0 := hm0.trans (hN34.mod.mono (by simp))
     replace hO35 := hO35.new hN34
     replace hO37 := hO37.new hN34
     have hb34 := hN34.blk
     clear hN34
     refine L.nil (hX _ _ ⟨.inr hS3, ?_⟩)
     have hL34 : Lay rdC [] w93 (.slice (some ⟨g34, 0, none⟩) 2 2) [kA, kB] := Lay.of_blk (css := [[.int .i64 0, .slice (some ⟨g12, 0, none⟩) 2 2, .bool (decide ((((0 : Int)) : Rat).num < 0)), .slice A13 (toL (((0 : Int)) : Rat).num.natAbs).length c13, .slice B13 (toL (((0 : Int)) : Rat).den).length e13], [.int .i64 0, .slice (some ⟨g17, 0, none⟩) 1 1, .bool (decide ((((-5 : Int)) : Rat).num < 0)), .slice A18 (toL (((-5 : Int)) : Rat).num.natAbs).length c18, .slice B18 (toL (((-5 : Int)) : Rat).den).length e18]]) hb34 ((LayL.one _ kA (rdC_mk (c := kA) (vt := .slice (some ⟨g12, 0, none⟩) 2 2) (hTA.sub (M' := []) (fun b hb => by cases hb)) (hn13.sub (M' := []) (fun b hb => by cases hb)) (hd13.sub (M' := []) (fun b hb => by cases hb)))).append (LayL.one _ kB (rdC_mk (c := kB) (vt := .slice (some ⟨g17, 0, none⟩) 1 1) (hTB.sub (M' := []) (fun b hb => by cases hb)) (hn18.sub (M' := []) (fun b hb => by cases hb)) (hd18.sub (M' := []) (fun b hb => by cases hb))))) rfl rfl (by decide) (by simp)
     refine D.one 4 rfl (by decide +kernel) (fun hX => ?_)
     refine L.call rfl (c_OrderL (M := []) (z0 := 2) (cs := [kA, kB]) (os := [1, 0]) (hL34.sub (M' := []) (fun b hb => by cases hb)) (hO35.sub (M' := []) (fun b hb => by cases hb)) (hbd.sub (fun b hb => by cases hb)) k_smL) rfl ?_
     rintro v36 w94 ⟨hP36, hm94⟩
     replace hbd := hbd.gr hm94
     replace hm0 := hm0.trans hm94
     replace hO37 := hO37.gr hm94
     replace hS3 := hS3.trans hm94
     clear hm94
     rw [k_ordZ] at hP36
     refine L.nil (hX _ _ ⟨.inr hS3, ?_⟩)
     refine D.one 6 rfl (by decide +kernel) (fun hX => ?_)
     refine L.call rfl (c_numbersEq hP36 hO37 rfl) rfl ?_
     rintro _ w95 ⟨rfl, hm95⟩
     replace hbd := hbd.gr hm95
     replace hm0 := hm0.trans hm95
     replace hS3 := hS3.trans hm95
     clear hm95
     refine L.nil (hX _ _ ⟨.inr hS3, ?_⟩)
     refine D.take 7 rfl (by decide +kernel) (fun w_ hS => (R1.move rfl)) hS3 rfl <| D.takeOn 8 rfl rfl rfl rfl (by decide +kernel) (fun w_ hS => (R1.move rfl)) hS3 rfl <| D.takeOn 9 rfl rfl rfl rfl (by decide +kernel) (fun w_ hS => ((R1.eq rfl rfl).asB (c := true) (by rfl))) hS3 rfl <| D.take 10 rfl (by decide +kernel) (fun w_ hS => (R1.pickT rfl rfl)) hS3 rfl <| D.take 11 rfl (by decide +kernel) (fun w_ hS => (R1.move rfl)) hS3 rfl <| D.takeOn 12 rfl rfl rfl rfl (by decide +kernel) (fun w_ hS => (R1.move rfl)) hS3 rfl <| D.takeOn 13 rfl rfl rfl rfl (by decide +kernel) (fun w_ hS => ((R1.eq rfl rfl).asB (c := true) (by rfl))) hS3 rfl <| D.take 14 rfl (by decide +kernel) (fun w_ hS => (R1.pickT rfl rfl)) hS3 rfl <| D.take 15 rfl (by decide +kernel) (fun w_ hS => (R1.move rfl)) hS3 rfl <| D.takeOn 16 rfl rfl rfl rfl (by decide +kernel) (fun w_ hS => (R1.move rfl)) hS3 rfl <| D.takeOn 17 rfl rfl rfl rfl (by decide +kernel) (fun w_ hS => (R1.lenLay rfl (Lay.gr hR_s hS) tyS23)) hS3 rfl ?_
     refine D.takeOn 18 rfl rfl rfl rfl (by decide +kernel) (fun w_ hS => ((R1.eq rfl rfl).asB (c := true) (by rfl))) hS3 rfl <| D.take 19 rfl (by decide +kernel) (fun w_ hS => (R1.pickT rfl rfl)) hS3 rfl <| D.take 20 rfl (by decide +kernel) (fun w_ hS => (R1.move rfl)) hS3 rfl <| D.takeOn 21 rfl rfl rfl rfl (by decide +kernel) (fun w_ hS => (R1.move rfl)) hS3 rfl <| D.takeOn 22 rfl rfl rfl rfl (by decide +kernel) (fun w_ hS => (R1.atLay (j := 1) rfl rfl (Lay.gr hR_s hS) tyS23 rfl (by decide))) hS3 rfl ?_
     obtain ⟨z55, cs55, hz55, hE55, vn55, vd55, rfl, hn55, hd55⟩ := Lay.elemQ hR_s (j := 1) (by decide)
     obtain rfl : QR.nf (((5 : Int)) : Rat) = z55 := by injection hz55
     obtain ⟨A55, c55, rfl⟩ := hn55.form
     obtain ⟨B55, e55, rfl⟩ := hd55.form
     replace hn55 := hn55.gr hS3
     replace hd55 := hd55.gr hS3
     refine D.takeOn 23 rfl rfl rfl rfl (by decide +kernel) (fun w_ hS => (R1.loadE rfl (SlE.gr hE55 hS) tyG40)) hS3 rfl <| D.one 24 rfl (by decide +kernel) (fun hX => ?_)
     refine L.callOn rfl rfl rfl rfl (c_ref2_Int (n := 5) (by decide) (by decide) hbd) rfl ?_
     rintro _ w96 ⟨⟨A56, c56, B56, e56, rfl, hn56, hd56⟩, hm96⟩
     replace hbd := hbd.gr hm96
     replace hm0 := hm0.trans hm96
     replace hn55 := hn55.gr hm96
     replace hd55 := hd55.gr hm96
     replace hS3 := hS3.trans hm96
     clear hm96
     have F56 := Fit.int (n := 5) (by decide) (by decide)
     refine L.nil (hX _ _ ⟨.inr hS3, ?_⟩)
     refine D.one 25 rfl (by decide +kernel) (fun hX => ?_)
     refine L.callOn rfl rfl rfl rfl (c_ref2_Same (qa := (QR.val (QR.nf (((5 : Int)) : Rat)))) (qb := (((5 : Int)) : Rat)) rfl (rv_toL _) hn55 hd55 hn56 hd56 hbd (Nat.le_trans (nf_sm2 (z := 5) (by decide)).1 (by decide)) (Nat.le_trans (nf_sm2 (z := 5) (by decide)).2 (by decide)) (Nat.le_trans F56.1 (by decide)) (Nat.le_trans F56.2 (by decide))) rfl ?_
     rintro _ w97 ⟨rfl, hm97⟩
     replace hm0 := hm0.trans hm97
     replace hS3 := hS3.trans hm97
     clear hm97
     refine L.nil (hX _ _ ⟨.inr hS3, ?_⟩)
     refine D.take 26 rfl (by decide +kernel) (fun w_ hS => (R1.pickT rfl rfl)) hS3 rfl <| D.take 27 rfl (by decide +kernel) (fun w_ hS => (R1.assign rfl)) hS3 rfl <| D.done (by decide +kernel) ?_ _
     refine X.seq <| W.ret <| X.result1 rfl (.tmp rfl .nil) ?_
     exact ⟨by rw [QR.nf_val]; simp, hm0⟩
   ·
    refine ⟨_, rfl, fun hX => ?_⟩
    refine L.buildSlice (cells := [.int .i64 1, .int .i64 0]) rfl tyS26 tyZ3 (fillI2 _ _) (by decide) (by decide) rfl ?_
    intro g37 w98 hN37
    replace hS3 := hS3.trans hN37.mod
    replace hTA := hTA.new hN37
    replace hn13 := hn13.new hN37
    replace hd13 := hd13.new hN37
    replace hTB := hTB.new hN37
    replace hn18 := hn18.new hN37
    replace hd18 := hd18.new hN37
    replace hbd := hbd.new hN37
    replace hm0 := hm0.trans (hN37.mod.mono (by simp))
    have hb37 := hN37.blk
    clear hN37
    refine L.nil (hX _ _ ⟨.inr hS3, ?_⟩)
    have hO37 : Lay rdI [] w98 (.slice (some ⟨g37, 0, none⟩) 2 2) [1, 0] := Lay.of_blk (css := [[.int .i64 1], [.int .i64 0]]) hb37 (LayL.ints [1, 0]) rfl rfl (by decide) (by simp)
    refine D.many (rs := [2, 3]) (by decide +kernel) rfl ?_
    intro i_ hi_
    simp only [List.mem_cons, List.not_mem_nil, or_false] at hi_
    rcases hi_ with rfl | rfl
    ·
     refine ⟨_, rfl, fun hX => ?_⟩
     refine L.buildSlice (cells := [.int .i64 0, .slice (some ⟨g12, 0, none⟩) 2 2, .bool (decide ((((0 : Int)) : Rat).num < 0)), .slice A13 (toL (((0 : Int)) : Rat).num.natAbs).length c13, .slice B13 (toL (((0 : Int)) : Rat).den).length e13, .int .i64 0, .slice (some ⟨g17, 0, none⟩) 1 1, .bool (decide ((((-5 : Int)) : Rat).num < 0)), .slice A18 (toL (((-5 : Int)) : Rat).num.natAbs).length c18, .slice B18 (toL (((-5 : Int)) : Rat).den).length e18]) rfl tyS22 tyZ42 (fillK2 _ _ _ _ _ _ _ _ _ _ _ _ _ _ _ _ _ _ _ _ _ _) (by decide) (by decide) rfl ?_
     intro g34 w99 hN34
     replace hS3 := hS3.trans hN34.mod
     replace hTA := hTA.new hN34
     replace hn13 := hn13.new hN34
     replace hd13 := hd13.new hN34
     replace hTB := hTB.new hN34
     replace hn18 := hn18.new hN34
     replace hd18 := hd18.new hN34
     replace hbd := hbd.new hN34
     replace hm0 := hm0.trans (hN34.mod.mono (by simp))
     replace hO37 := hO37.new hN34
     have hb34 := hN34.blk
     clear hN34
     refine L.nil (hX _ _ ⟨.inr hS3, ?_⟩)
     have hL34 : Lay rdC [] w99 (.slice (some ⟨g34, 0, none⟩) 2 2) [kA, kB] := Lay.of_blk (css := [[.int .i64 0, .slice (some ⟨g12, 0, none⟩) 2 2, .bool (decide ((((0 : Int)) : Rat).num < 0)), .slice A13 (toL (((0 : Int)) : Rat).num.natAbs).length c13, .slice B13 (toL (((0 : Int)) : Rat).den).length e13], [.int .i64 0, .slice (some ⟨g17, 0, none⟩) 1 1, .bool (decide ((((-5 : Int)) : Rat).num < 0)), .slice A18 (toL (((-5 : Int)) : Rat).num.natAbs).length c18, .slice B18 (toL (((-5 : Int)) : Rat).den).length e18]]) hb34 ((LayL.one _ kA (rdC_mk (c := kA) (vt := .slice (some ⟨g12, 0, none⟩) 2 2) (hTA.sub (M' := []) (fun b hb => by cases hb)) (hn13.sub (M' := []) (fun b hb => by cases hb)) (hd13.sub (M' := []) (fun b hb => by cases hb)))).append (LayL.one _ kB (rdC_mk (c := kB) (vt := .slice (some ⟨g17, 0, none⟩) 1 1) (hTB.sub (M' := []) (fun b hb => by cases hb)) (hn18.sub (M' := []) (fun b hb => by cases hb)) (hd18.sub (M' := []) (fun b hb => by cases hb))))) rfl rfl (by decide) (by simp)
     refine D.one 3 rfl (by decide +kernel) (fun hX => ?_)
     refine L.buildSlice (cells := [.int .i64 1, .int .i64 0]) rfl tyS26 tyZ3 (fillI2 _ _) (by decide) (by decide) rfl ?_
     intro g35 w100 hN35
     replace hS3 := hS3.trans hN35.mod
     replace hbd := hbd.new hN35
     replace hm0 := hm0.trans (hN35.mod.mono (by simp))
     replace hO37 := hO37.new hN35
     replace hL34 := hL34.new hN35
     have hb35 := hN35.blk
     clear hN35
     refine L.nil (hX _ _ ⟨.inr hS3, ?_⟩)
     have hO35 : Lay rdI [] w100 (.slice (some ⟨g35, 0, none⟩) 2 2) [1, 0] := Lay.of_blk (css := [[.int .i64 1], [.int .i64 0]]) hb35 (LayL.ints [1, 0]) rfl rfl (by decide) (by simp)
     refine D.one 4 rfl (by decide +kernel) (fun hX => ?_)
     refine L.call rfl (c_OrderL (M := []) (z0 := 2) (cs := [kA, kB]) (os := [1, 0]) (hL34.sub (M' := []) (fun b hb => by cases hb)) (hO35.sub (M' := []) (fun b hb => by cases hb)) (hbd.sub (fun b hb => by cases hb)) k_smL) rfl ?_
     rintro v36 w101 ⟨hP36, hm101⟩
     replace hbd := hbd.gr hm101
     replace hm0 := hm0.trans hm101
     replace hO37 := hO37.gr hm101
     replace hS3 := hS3.trans hm101
     clear hm101
     rw [k_ordZ] at hP36
     refine L.nil (hX _ _ ⟨.inr hS3, ?_⟩)
     refine D.one 6 rfl (by decide +kernel) (fun hX => ?_)
     refine L.call rfl (c_numbersEq hP36 hO37 rfl) rfl ?_
     rintro _ w102 ⟨rfl, hm102⟩
     replace hbd := hbd.gr hm102
     replace hm0 := hm0.trans hm102
     replace hS3 := hS3.trans hm102
     clear hm102
     refine L.nil (hX _ _ ⟨.inr hS3, ?_⟩)
     refine D.take 7 rfl (by decide +kernel) (fun w_ hS => (R1.move rfl)) hS3 rfl <| D.takeOn 8 rfl rfl rfl rfl (by decide +kernel) (fun w_ hS => (R1.move rfl)) hS3 rfl <| D.takeOn 9 rfl rfl rfl rfl (by decide +kernel) (fun w_ hS => ((R1.eq rfl rfl).asB (c := true) (by rfl))) hS3 rfl <| D.take 10 rfl (by decide +kernel) (fun w_ hS => (R1.pickT rfl rfl)) hS3 rfl <| D.take 11 rfl (by decide +kernel) (fun w_ hS => (R1.move rfl)) hS3 rfl <| D.takeOn 12 rfl rfl rfl rfl (by decide +kernel) (fun w_ hS => (R1.move rfl)) hS3 rfl <| D.takeOn 13 rfl rfl rfl rfl (by decide +kernel) (fun w_ hS => ((R1.eq rfl rfl).asB (c := true) (by rfl))) hS3 rfl <| D.take 14 rfl (by decide +kernel) (fun w_ hS => (R1.pickT rfl rfl)) hS3 rfl <| D.take 15 rfl (by decide +kernel) (fun w_ hS => (R1.move rfl)) hS3 rfl <| D.takeOn 16 rfl rfl rfl rfl (by decide +kernel) (fun w_ hS => (R1.move rfl)) hS3 rfl <| D.takeOn 17 rfl rfl rfl rfl (by decide +kernel) (fun w_ hS => (R1.lenLay rfl (Lay.gr hR_s hS) tyS23)) hS3 rfl ?_
     refine D.takeOn 18 rfl rfl rfl rfl (by decide +kernel) (fun w_ hS => ((R1.eq rfl rfl).asB (c := true) (by rfl))) hS3 rfl <| D.take 19 rfl (by decide +kernel) (fun w_ hS => (R1.pickT rfl rfl)) hS3 rfl <| D.take 20 rfl (by decide +kernel) (fun w_ hS => (R1.move rfl)) hS3 rfl <| D.takeOn 21 rfl rfl rfl rfl (by decide +kernel) (fun w_ hS => (R1.move rfl)) hS3 rfl <| D.takeOn 22 rfl rfl rfl rfl (by decide +kernel) (fun w_ hS => (R1.atLay (j := 1) rfl rfl (Lay.gr hR_s hS) tyS23 rfl (by decide))) hS3 rfl ?_
     obtain ⟨z55, cs55, hz55, hE55, vn55, vd55, rfl, hn55, hd55⟩ := Lay.elemQ hR_s (j := 1) (by decide)
     obtain rfl : QR.nf (((5 : Int)) : Rat) = z55 := by injection hz55
     obtain ⟨A55, c55, rfl⟩ := hn55.form
     obtain ⟨B55, e55, rfl⟩ := hd55.form
     replace hn55 := hn55.gr hS3
     replace hd55 := hd55.gr hS3
     refine D.takeOn 23 rfl rfl rfl rfl (by decide +kernel) (fun w_ hS => (R1.loadE rfl (SlE.gr hE55 hS) tyG40)) hS3 rfl <| D.one 24 rfl (by decide +kernel) (fun hX => ?_)
     refine L.callOn rfl rfl rfl rfl (c_ref2_Int (n := 5) (by decide) (by decide) hbd) rfl ?_
     rintro _ w103 ⟨⟨A56, c56, B56, e56, rfl, hn56, hd56⟩, hm103⟩
     replace hbd := hbd.gr hm103
     replace hm0 := hm0.trans hm103
     replace hn55 := hn55.gr hm103
     replace hd55 := hd55.gr hm103
     replace hS3 := hS3.trans hm103
     clear hm103
     have F56 := Fit.int (n := 5) (by decide) (by decide)
     refine L.nil (hX _ _ ⟨.inr hS3, ?_⟩)
     refine D.one 25 rfl (by decide +kernel) (fun hX => ?_)
     refine L.callOn rfl rfl rfl rfl (c_ref2_Same (qa := (QR.val (QR.nf (((5 : Int)) : Rat)))) (qb := (((5 : Int)) : Rat)) rfl (rv_toL _) hn55 hd55 hn56 hd56 hbd (Nat.le_trans (nf_sm2 (z := 5) (by decide)).1 (by decide)) (Nat.le_trans (nf_sm2 (z := 5) (by decide)).2 (by decide)) (Nat.le_trans F56.1 (by decide)) (Nat.le_trans F56.2 (by decide))) rfl ?_
     rintro _ w104 ⟨rfl, hm104⟩
     replace hm0 := hm0.trans hm104
     replace hS3 := hS3.trans hm104
     clear hm104
     refine L.nil (hX _ _ ⟨.inr hS3, ?_⟩)
     refine D.take 26 rfl (by decide +kernel) (fun w_ hS => (R1.pickT rfl rfl)) hS3 rfl <| D.take 27 rfl (by decide +kernel) (fun w_ hS => (R1.assign rfl)) hS3 rfl <| D.done (by decide +kernel) ?_ _
     refine X.seq <| W.ret <| X.result1 rfl (.tmp rfl .nil) ?_
     exact ⟨by rw [QR.nf_val]; simp, hm0⟩
    ·
     refine ⟨_, rfl, fun hX => ?_⟩
     refine L.buildSlice (cells := [.int .i64 1, .int .i64 0]) rfl tyS26 tyZ3 (fillI2 _ _) (by decide) (by decide) rfl ?_
     intro g35 w105 hN35
     replace hS3 := hS3.trans hN35.mod
     replace hTA := hTA.new hN35
     replace hn13 := hn13.new hN35
     replace hd13 := hd13.new hN35
     replace hTB := hTB.new hN35
     replace hn18 := hn18.new hN35
     replace hd18 := hd18.new hN35
     replace hbd := hbd.new hN35
     replace hm0 := hm0.trans (hN35.mod.mono (by simp))
     replace hO37 := hO37.new hN35
     have hb35 := hN35.blk
     clear hN35
     refine L.nil (hX _ _ ⟨.inr hS3, ?_⟩)
     have hO35 : Lay rdI [] w105 (.slice (some ⟨g35, 0, none⟩) 2 2) [1, 0] := Lay.of_blk (css := [[.int .i64 1], [.int .i64 0]]) hb35 (LayL.ints [1, 0]) rfl rfl (by decide) (by simp)
     refine D.one 2 rfl (by decide +kernel) (fun hX => ?_)
     refine L.buildSlice (cells := [.int .i64 0, .slice (some ⟨g12, 0, none⟩) 2 2, .bool (decide ((((0 : Int)) : Rat).num < 0)), .slice A13 (toL (((0 : Int)) : Rat).num.natAbs).length c13, .slice B13 (toL (((0 : Int)) : Rat).den).length e13, .int .i64 0, .slice (some ⟨g17, 0, none⟩) 1 1, .bool (decide ((((-5 : Int)) : Rat).num < 0)), .slice A18 (toL (((-5 : Int)) : Rat).num.natAbs).length c18, .slice B18 (toL (((-5 : Int)) : Rat).den).length e18]) rfl tyS22 tyZ42 (fillK2 _ _ _ _ _ _ _ _ _ _ _ _ _ _ _ _ _ _ _ _ _ _) (by decide) (by decide) rfl ?_
     intro g34 w106 hN34
     replace hS3 := hS3.trans hN34.mod
     replace hTA := hTA.new hN34
     replace hn13 := hn13.new hN34
     replace hd13 := hd13.new hN34
     replace hTB := hTB.new hN34
     replace hn18 := hn18.new hN34
     replace hd18 := hd18.new hN34
     replace hbd := hbd.new hN34
     replace hm0 := hm0.trans (hN34.mod.mono (by simp))
     replace hO37 := hO37.new hN34
     replace hO35 := hO35.new hN34
     have hb34 := hN34.blk
     clear hN34
     refine L.nil (hX _ _ ⟨.inr hS3, ?_⟩)
     have hL34 : Lay rdC [] w106 (.slice (some ⟨g34, 0, none⟩) 2 2) [kA, kB] := Lay.of_blk (css := [[.int .i64 0, .slice (some ⟨g12, 0, none⟩) 2 2, .bool (decide ((((0 : Int)) : Rat).num < 0)), .slice A13 (toL (((0 : Int)) : Rat).num.natAbs).length c13, .slice B13 (toL (((0 : Int)) : Rat).den).length e13], [.int .i64 0, .slice (some ⟨g17, 0, none⟩) 1 1, .bool (decide ((((-5 : Int)) : Rat).num < 0)), .slice A18 (toL (((-5 : Int)) : Rat).num.natAbs).length c18, .slice B18 (toL (((-5 : Int)) : Rat).den).length e18]]) hb34 ((LayL.one _ kA (rdC_mk (c := kA) (vt := .slice (some ⟨g12, 0, none⟩) 2 2) (hTA.sub (M' := []) (fun b hb => by cases hb)) (hn13.sub (M' := []) (fun b hb => by cases hb)) (hd13.sub (M' := []) (fun b hb => by cases hb)))).append (LayL.one _ kB (rdC_mk (c := kB) (vt := .slice (some ⟨g17, 0, none⟩) 1 1) (hTB.sub (M' := []) (fun b hb => by cases hb)) (hn18.sub (M' := []) (fun b hb => by cases hb)) (hd18.sub (M' := []) (fun b hb => by cases hb))))) rfl rfl (by decide) (by simp)
     refine D.one 4 rfl (by decide +kernel) (fun hX => ?_)
     refine L.call rfl (c_OrderL (M := []) (z0 := 2) (cs := [kA, kB]) (os := [1, 0]) (hL34.sub (M' := []) (fun b hb => by cases hb)) (hO35.sub (M' := []) (fun b hb => by cases hb)) (hbd.sub (fun b hb => by cases hb)) k_smL) rfl ?_
     rintro v36 w107 ⟨hP36, hm107⟩
     replace hbd := hbd.gr hm107
     replace hm0 := hm0.trans hm107
     replace hO37 := hO37.gr hm107
     replace hS3 := hS3.trans hm107
     clear hm107
     rw [k_ordZ] at hP36
     refine L.nil (hX _ _ ⟨.inr hS3, ?_⟩)
     refine D.one 6 rfl (by decide +kernel) (fun hX => ?_)
     refine L.call rfl (c_numbersEq hP36 hO37 rfl) rfl ?_
     rintro _ w108 ⟨rfl, hm108⟩
     replace hbd := hbd.gr hm108
     replace hm0 := hm0.trans hm108
     replace hS3 := hS3.trans hm108
     clear hm108
     refine L.nil (hX _ _ ⟨.inr hS3, ?_⟩)
     refine D.take 7 rfl (by decide +kernel) (fun w_ hS => (R1.move rfl)) hS3 rfl <| D.takeOn 8 rfl rfl rfl rfl (by decide +kernel) (fun w_ hS => (R1.move rfl)) hS3 rfl <| D.takeOn 9 rfl rfl rfl rfl (by decide +kernel) (fun w_ hS => ((R1.eq rfl rfl).asB (c := true) (by rfl))) hS3 rfl <| D.take 10 rfl (by decide +kernel) (fun w_ hS => (R1.pickT rfl rfl)) hS3 rfl <| D.take 11 rfl (by decide +kernel) (fun w_ hS => (R1.move rfl)) hS3 rfl <| D.takeOn 12 rfl rfl rfl rfl (by decide +kernel) (fun w_ hS => (R1.move rfl)) hS3 rfl <| D.takeOn 13 rfl rfl rfl rfl (by decide +kernel) (fun w_ hS => ((R1.eq rfl rfl).asB (c := true) (by rfl))) hS3 rfl <| D.take 14 rfl (by decide +kernel) (fun w_ hS => (R1.pickT rfl rfl)) hS3 rfl <| D.take 15 rfl (by decide +kernel) (fun w_ hS => (R1.move rfl)) hS3 rfl <| D.takeOn 16 rfl rfl rfl rfl (by decide +kernel) (fun w_ hS => (R1.move rfl)) hS3 rfl <| D.takeOn 17 rfl rfl rfl rfl (by decide +kernel) (fun w_ hS => (R1.lenLay rfl (Lay.gr hR_s hS) tyS23)) hS3 rfl ?_
     refine D.takeOn 18 rfl rfl rfl rfl (by decide +kernel) (fun w_ hS => ((R1.eq rfl rfl).asB (c := true) (by rfl))) hS3 rfl <| D.take 19 rfl (by decide +kernel) (fun w_ hS => (R1.pickT rfl rfl)) hS3 rfl <| D.take 20 rfl (by decide +kernel) (fun w_ hS => (R1.move rfl)) hS3 rfl <| D.takeOn 21 rfl rfl rfl rfl (by decide +kernel) (fun w_ hS => (R1.move rfl)) hS3 rfl <| D.takeOn 22 rfl rfl rfl rfl (by decide +kernel) (fun w_ hS => (R1.atLay (j := 1) rfl rfl (Lay.gr hR_s hS) tyS23 rfl (by decide))) hS3 rfl ?_
     obtain ⟨z55, cs55, hz55, hE55, vn55, vd55, rfl, hn55, hd55⟩ := Lay.elemQ hR_s (j := 1) (by decide)
     obtain rfl : QR.nf (((5 : Int)) : Rat) = z55 := by injection hz55
     obtain ⟨A55, c55, rfl⟩ := hn55.form
     obtain ⟨B55, e55, rfl⟩ := hd55.form
     replace hn55 := hn55.gr hS3
     replace hd55 := hd55.gr hS3
     refine D.takeOn 23 rfl rfl rfl rfl (by decide +kernel) (fun w_ hS => (R1.loadE rfl (SlE.gr hE55 hS) tyG40)) hS3 rfl <| D.one 24 rfl (by decide +kernel) (fun hX => ?_)
     refine L.callOn rfl rfl rfl rfl (c_ref2_Int (n := 5) (by decide) (by decide) hbd) rfl ?_
     rintro _ w109 ⟨⟨A56, c56, B56, e56, rfl, hn56, hd56⟩, hm109⟩
     replace hbd := hbd.gr hm109
     replace hm0 := hm0.trans hm109
     replace hn55 := hn55.gr hm109
     replace hd55 := hd55.gr hm109
     replace hS3 := hS3.trans hm109
     clear hm109
     have F56 := Fit.int (n := 5) (by decide) (by decide)
     refine L.nil (hX _ _ ⟨.inr hS3, ?_⟩)
     refine D.one 25 rfl (by decide +kernel) (fun hX => ?_)
     refine L.callOn rfl rfl rfl rfl (c_ref2_Same (qa := (QR.val (QR.nf (((5 : Int)) : Rat)))) (qb := (((5 : Int)) : Rat)) rfl (rv_toL _) hn55 hd55 hn56 hd56 hbd (Nat.le_trans (nf_sm2 (z := 5) (by decide)).1 (by decide)) (Nat.le_trans (nf_sm2 (z := 5) (by decide)).2 (by decide)) (Nat.le_trans F56.1 (by decide)) (Nat.le_trans F56.2 (by decide))) rfl ?_
     rintro _ w110 ⟨rfl, hm110⟩
     replace hm0 := hm0.trans hm110
     replace hS3 := hS3.trans hm110
     clear hm110
     refine L.nil (hX _ _ ⟨.inr hS3, ?_⟩)
     refine D.take 26 rfl (by decide +kernel) (fun w_ hS => (R1.pickT rfl rfl)) hS3 rfl <| D.take 27 rfl (by decide +kernel) (fun w_ hS => (R1.assign rfl)) hS3 rfl <| D.done (by decide +kernel) ?_ _
     refine X.seq <| W.ret <| X.result1 rfl (.tmp rfl .nil) ?_
     exact ⟨by rw [QR.nf_val]; simp, hm0⟩
end Go.Proofs.YtdfnkbdnnflcpaaGreat
end
