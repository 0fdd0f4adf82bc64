/- Walks: what the functions compute. -/
import Derived.Test.YtdfnkbdnnflcpaaRuD
import Derived.Test.YtdfnkbdnnflcpaaSzA
namespace Go.Proofs.Ytdfnkbdnnflcpaa
open Go.RowKit
set_option linter.unusedVariables false
set_option linter.unusedSimpArgs false
set_option maxRecDepth 10000

theorem sm150 {cs : List CR} (h : ¬ 150 < szCs cs) : ∀ c ∈ cs, SmC 150 c := fun c hc => sm_of_all (L := 150) (by omega) c hc
def szQs (qs : List QR) : Nat := (qs.map fun q => szQ q + 1).sum
theorem szQs_len (qs : List QR) : qs.length ≤ szQs qs := by
  unfold szQs
  induction qs with
  | nil => simp
  | cons t r ih => simp only [List.map_cons, List.sum_cons, List.length_cons]; omega
theorem all_take {α : Type} {P : α → Prop} {l : List α} {i : Nat} {z : α} (hz : l[i]? = some z) (h : ∀ s ∈ l.take i, P s) (h2 : P z) : ∀ s ∈ l.take (i + 1), P s := by
  obtain ⟨hi, rfl⟩ := List.getElem?_eq_some_iff.1 hz
  intro s hs
  rw [List.take_succ_eq_append_getElem hi] at hs
  rcases List.mem_append.1 hs with h1 | h1
  · exact h s h1
  · rw [List.mem_singleton.1 h1]; exact h2

theorem c_heavy_pantographlaw14 {N9 : List Nat} {w : World} {vl : Value} {cs : List CR} (hL : Lay rdC N9 w vl cs) (hb : szCs cs ≤ 4194304) :
    Ret Try.prog 5 #[vl] w (fun x w' => x = .bool (decide (150 < szCs cs)) ∧ Mod [] w w') := by
 obtain ⟨TL, tL, rfl⟩ := hL.form
 have hcl := cs_len cs
 refine Ret.of (vs := [.slice TL cs.length tL]) (n := 68) Try.func5 rfl rfl rfl rfl ?_
 have hm0 : Mod [] w w := Mod.refl _ _
 refine W.seq <| W.region <| L.v (R1.assign rfl) rfl <| L.nil <| X.seq <| W.seq <| W.region <| L.v (R1.assign rfl) rfl <| L.nil <| X.seq <| W.seq ?_
 refine W.seq <| W.region <| L.v (R1.assign rfl) rfl <| L.nil <| X.seq <| W.block <| W.loop (ι := Nat) (fun i => [(0, .slice TL cs.length tL), (3, .int .i64 (((szCs (cs.take i)) : Nat) : Int)), (4, .int .i64 ((i : Nat) : Int))]) (fun i w_ => i ≤ cs.length ∧ (szCs (cs.take i)) ≤ 150 ∧ Lay rdC N9 w_ (.slice TL cs.length tL) cs ∧ Mod [] w w_) (fun i => cs.length - i) 0 ?_ ?_ ?_
 · exact ⟨rfl, rfl, rfl, trivial⟩
 ·
  exact ⟨Nat.zero_le _, by simp [szCs], hL, hm0⟩
 ·
  rintro i w1 ⟨hi, hs, hL, hm0⟩
  refine W.seq <| W.seq <| W.region <| L.v (R1.move rfl) rfl <| L.v (R1.move rfl) rfl <| L.v (R1.lenLay rfl hL tyS22) rfl <| L.v (R1.lt rfl rfl) rfl <| L.nil <| X.seq <| W.cond rfl ?_ ?_
  ·
   intro hc9
   try simp only [bq, ne_eq] at hc9
   refine W.skip <| X.seq <| W.seq <| W.block <| W.seq <| W.drawW (T := []) rfl (by decide +kernel) (NoHang.then (NoHang.block (NoHang.then (NoHang.next (NoHang.block (NoHang.then NoHang.post)))))) (fun w2 hm2 => ?_)
   replace hL := hL.gr hm2
   replace hm0 := hm0.trans hm2
   have hS1 : Mod [] w2 w2 := Mod.refl _ _
   clear hm2
   refine D.take 0 rfl (by decide +kernel) (fun w_ hS => (R1.move rfl)) hS1 rfl <| D.take 1 rfl (by decide +kernel) (fun w_ hS => (R1.addI (b := 2) rfl rfl (by omega))) hS1 rfl <| D.take 2 rfl (by decide +kernel) (fun w_ hS => (R1.move rfl)) hS1 rfl <| D.take 3 rfl (by decide +kernel) (fun w_ hS => (R1.move rfl)) hS1 rfl <| D.take 4 rfl (by decide +kernel) (fun w_ hS => (R1.atLay (j := i) rfl rfl (Lay.gr hL hS) tyS22 rfl (by omega))) hS1 rfl <| D.take 5 rfl (by decide +kernel) (fun w_ hS => (R1.fieldAddr rfl tyF43_2)) hS1 rfl <| D.take 6 rfl (by decide +kernel) (fun w_ hS => (R1.fieldAddrE rfl tyF41_1)) hS1 rfl ?_
   obtain ⟨z19, cs19, hz19, hE19, vt19, ds19, rfl, ht19, vn19, vd19, rfl, hn19, hd19⟩ := Lay.elemQ hL (j := i) (by omega)
   obtain ⟨T19, t19, rfl⟩ := ht19.form
   obtain ⟨A19, c19, rfl⟩ := hn19.form
   obtain ⟨B19, e19, rfl⟩ := hd19.form
   refine D.take 7 rfl (by decide +kernel) (fun w_ hS => (R1.loadEF rfl (SlE.gr hE19 hS) rfl tyP39)) hS1 rfl <| D.take 8 rfl (by decide +kernel) (fun w_ hS => (R1.len rfl tyS39)) hS1 rfl ?_
   have q19 := sum_elem_le szC hz19; have q19b : szC z19 = 2 + (z19.k.n.length + z19.k.d.length) + szTs z19.ts := rfl; change szCs (cs.take i) + szC z19 ≤ szCs cs at q19
   refine D.take 9 rfl (by decide +kernel) (fun w_ hS => (R1.addI rfl rfl (by omega))) hS1 rfl <| D.take 10 rfl (by decide +kernel) (fun w_ hS => (R1.move rfl)) hS1 rfl <| D.take 11 rfl (by decide +kernel) (fun w_ hS => (R1.move rfl)) hS1 rfl <| D.take 12 rfl (by decide +kernel) (fun w_ hS => (R1.atLay (j := i) rfl rfl (Lay.gr hL hS) tyS22 rfl (by omega))) hS1 rfl <| D.take 13 rfl (by decide +kernel) (fun w_ hS => (R1.fieldAddr rfl tyF43_2)) hS1 rfl <| D.take 14 rfl (by decide +kernel) (fun w_ hS => (R1.fieldAddrE rfl tyF41_2)) hS1 rfl ?_
   obtain ⟨z27, cs27, hz27, hE27, vt27, ds27, rfl, ht27, vn27, vd27, rfl, hn27, hd27⟩ := Lay.elemQ hL (j := i) (by omega)
   obtain ⟨T27, t27, rfl⟩ := ht27.form
   obtain ⟨A27, c27, rfl⟩ := hn27.form
   obtain ⟨B27, e27, rfl⟩ := hd27.form
   obtain rfl : z19 = z27 := by have h9 := hz27; rw [hz19] at h9; injection h9
   refine D.take 15 rfl (by decide +kernel) (fun w_ hS => (R1.loadEF rfl (SlE.gr hE27 hS) rfl tyP39)) hS1 rfl <| D.take 16 rfl (by decide +kernel) (fun w_ hS => (R1.len rfl tyS39)) hS1 rfl <| D.take 17 rfl (by decide +kernel) (fun w_ hS => (R1.addI rfl rfl (by omega))) hS1 rfl <| D.take 18 rfl (by decide +kernel) (fun w_ hS => (R1.assign rfl)) hS1 rfl <| D.done (by decide +kernel) ?_ _
   refine X.seq <| W.seq <| W.seq <| W.region <| L.v (R1.assign rfl) rfl <| L.nil <| X.seq <| W.block ?_
   have q19l := ts_len z19.ts
   have q19c : szTs (z19.ts.take 0) = 0 := rfl
   refine W.loop (ι := Nat) (fun k => [(0, .slice TL cs.length tL), (3, .int .i64 ((((szCs (cs.take i)) + (2 + szQ z19.k) + szTs (z19.ts.take k)) : Nat) : Int)), (4, .int .i64 ((i : Nat) : Int)), (5, .int .i64 ((k : Nat) : Int))]) (fun k w_ => k ≤ z19.ts.length ∧ Lay rdC N9 w_ (.slice TL cs.length tL) cs ∧ Mod [] w w_) (fun k => z19.ts.length - k) 0 ?_ ?_ ?_
   · exact ⟨rfl, congrArg (fun n : Nat => some (Value.int .i64 (n : Int))) (by rw [q19c]; unfold szQ; omega), rfl, rfl, trivial⟩
   ·
    exact ⟨Nat.zero_le _, hL, hm0⟩
   ·
    rintro k w3 ⟨hk, hL, hm0⟩
    have q20 : szTs (z19.ts.take k) ≤ szTs z19.ts := sum_take_le szT _ _
    have q21 : szQ z19.k = z19.k.n.length + z19.k.d.length := rfl
    refine W.seq <| W.seq <| W.region <| L.v (R1.move rfl) rfl <| L.v (R1.move rfl) rfl <| L.v (R1.move rfl) rfl <| L.v (R1.atLay (j := i) rfl rfl hL tyS22 rfl (by omega)) rfl <| L.v (R1.fieldAddr rfl tyF43_1) rfl ?_
    obtain ⟨z35, cs35, hz35, hE35, vt35, ds35, rfl, ht35, vn35, vd35, rfl, hn35, hd35⟩ := Lay.elemQ hL (j := i) (by omega)
    obtain ⟨T35, t35, rfl⟩ := ht35.form
    obtain ⟨A35, c35, rfl⟩ := hn35.form
    obtain ⟨B35, e35, rfl⟩ := hd35.form
    obtain rfl : z19 = z35 := by have h9 := hz35; rw [hz19] at h9; injection h9
    refine L.v (R1.loadEF rfl hE35 rfl tyP38) rfl <| L.v (R1.lenLay rfl ht35 tyS38) rfl <| L.v (R1.lt rfl rfl) rfl <| L.nil <| X.seq <| W.cond rfl ?_ ?_
    ·
     intro hc37
     try simp only [bq, ne_eq] at hc37
     refine W.skip <| X.seq <| W.seq <| W.block <| W.drawW (T := []) rfl (by decide +kernel) (NoHang.block (NoHang.then (NoHang.next (NoHang.block (NoHang.then (NoHang.block (NoHang.then (NoHang.next (NoHang.block (NoHang.then NoHang.post)))))))))) (fun w4 hm4 => ?_)
     replace hL := hL.gr hm4
     replace hm0 := hm0.trans hm4
     have hS2 : Mod [] w4 w4 := Mod.refl _ _
     clear hm4
     refine D.take 0 rfl (by decide +kernel) (fun w_ hS => (R1.move rfl)) hS2 rfl <| D.take 1 rfl (by decide +kernel) (fun w_ hS => (R1.addI (b := 1) rfl rfl (by omega))) hS2 rfl <| D.take 2 rfl (by decide +kernel) (fun w_ hS => (R1.move rfl)) hS2 rfl <| D.take 3 rfl (by decide +kernel) (fun w_ hS => (R1.move rfl)) hS2 rfl <| D.take 4 rfl (by decide +kernel) (fun w_ hS => (R1.atLay (j := i) rfl rfl (Lay.gr hL hS) tyS22 rfl (by omega))) hS2 rfl <| D.take 5 rfl (by decide +kernel) (fun w_ hS => (R1.fieldAddr rfl tyF43_1)) hS2 rfl ?_
     obtain ⟨z46, cs46, hz46, hE46, vt46, ds46, rfl, ht46, vn46, vd46, rfl, hn46, hd46⟩ := Lay.elemQ hL (j := i) (by omega)
     obtain ⟨T46, t46, rfl⟩ := ht46.form
     obtain ⟨A46, c46, rfl⟩ := hn46.form
     obtain ⟨B46, e46, rfl⟩ := hd46.form
     obtain rfl : z19 = z46 := by have h9 := hz46; rw [hz19] at h9; injection h9
     refine D.take 6 rfl (by decide +kernel) (fun w_ hS => (R1.loadEF rfl (SlE.gr hE46 hS) rfl tyP38)) hS2 rfl <| D.take 7 rfl (by decide +kernel) (fun w_ hS => (R1.move rfl)) hS2 rfl <| D.take 8 rfl (by decide +kernel) (fun w_ hS => (R1.atLay (j := k) rfl rfl (Lay.gr ht46 hS) tyS38 rfl (by omega))) hS2 rfl <| D.take 9 rfl (by decide +kernel) (fun w_ hS => (R1.fieldAddr rfl tyF45_1)) hS2 rfl <| D.take 10 rfl (by decide +kernel) (fun w_ hS => (R1.fieldAddrE rfl tyF41_1)) hS2 rfl ?_
     obtain ⟨z51, cs51, hz51, hE51, ds51, rfl, vn51, vd51, rfl, hn51, hd51⟩ := Lay.elemQ ht46 (j := k) (by omega)
     obtain ⟨A51, c51, rfl⟩ := hn51.form
     obtain ⟨B51, e51, rfl⟩ := hd51.form
     refine D.take 11 rfl (by decide +kernel) (fun w_ hS => (R1.loadEF rfl (SlE.gr hE51 hS) rfl tyP39)) hS2 rfl <| D.take 12 rfl (by decide +kernel) (fun w_ hS => (R1.len rfl tyS39)) hS2 rfl ?_
     have q51 := sum_elem_le szT hz51; have q51b : szT z51 = 1 + (z51.c.n.length + z51.c.d.length) := rfl; change szTs (z19.ts.take k) + szT z51 ≤ szTs z19.ts at q51
     refine D.take 13 rfl (by decide +kernel) (fun w_ hS => (R1.addI rfl rfl (by omega))) hS2 rfl <| D.take 14 rfl (by decide +kernel) (fun w_ hS => (R1.move rfl)) hS2 rfl <| D.take 15 rfl (by decide +kernel) (fun w_ hS => (R1.move rfl)) hS2 rfl <| D.take 16 rfl (by decide +kernel) (fun w_ hS => (R1.atLay (j := i) rfl rfl (Lay.gr hL hS) tyS22 rfl (by omega))) hS2 rfl <| D.take 17 rfl (by decide +kernel) (fun w_ hS => (R1.fieldAddr rfl tyF43_1)) hS2 rfl ?_
     obtain ⟨z58, cs58, hz58, hE58, vt58, ds58, rfl, ht58, vn58, vd58, rfl, hn58, hd58⟩ := Lay.elemQ hL (j := i) (by omega)
     obtain ⟨T58, t58, rfl⟩ := ht58.form
     obtain ⟨A58, c58, rfl⟩ := hn58.form
     obtain ⟨B58, e58, rfl⟩ := hd58.form
     obtain rfl : z19 = z58 := by have h9 := hz58; rw [hz19] at h9; injection h9
     refine D.take 18 rfl (by decide +kernel) (fun w_ hS => (R1.loadEF rfl (SlE.gr hE58 hS) rfl tyP38)) hS2 rfl <| D.take 19 rfl (by decide +kernel) (fun w_ hS => (R1.move rfl)) hS2 rfl <| D.take 20 rfl (by decide +kernel) (fun w_ hS => (R1.atLay (j := k) rfl rfl (Lay.gr ht58 hS) tyS38 rfl (by omega))) hS2 rfl <| D.take 21 rfl (by decide +kernel) (fun w_ hS => (R1.fieldAddr rfl tyF45_1)) hS2 rfl <| D.take 22 rfl (by decide +kernel) (fun w_ hS => (R1.fieldAddrE rfl tyF41_2)) hS2 rfl ?_
     obtain ⟨z63, cs63, hz63, hE63, ds63, rfl, vn63, vd63, rfl, hn63, hd63⟩ := Lay.elemQ ht58 (j := k) (by omega)
     obtain ⟨A63, c63, rfl⟩ := hn63.form
     obtain ⟨B63, e63, rfl⟩ := hd63.form
     obtain rfl : z51 = z63 := by have h9 := hz63; rw [hz51] at h9; injection h9
     refine D.take 23 rfl (by decide +kernel) (fun w_ hS => (R1.loadEF rfl (SlE.gr hE63 hS) rfl tyP39)) hS2 rfl <| D.take 24 rfl (by decide +kernel) (fun w_ hS => (R1.len rfl tyS39)) hS2 rfl <| D.take 25 rfl (by decide +kernel) (fun w_ hS => (R1.addI rfl rfl (by omega))) hS2 rfl <| D.take 26 rfl (by decide +kernel) (fun w_ hS => (R1.assign rfl)) hS2 rfl <| D.done (by decide +kernel) ?_ _
     refine X.blockEnd <| X.seq <| W.region <| L.v (R1.move rfl) rfl <| L.v (R1.addI (b := 1) rfl rfl (by omega)) rfl <| L.v (R1.assign rfl) rfl <| L.nil <| X.next (k + 1) ?_ ?_ ?_
     · refine ⟨rfl, ?_, rfl, rfl, trivial⟩; simp only [lk, Nat.beq, cond_true, cond_false]; exact congrArg (fun n : Nat => some (Value.int .i64 (n : Int))) (by have := sum_take_succ szT hz51; unfold szTs at *; rw [this]; omega)
     ·
      exact ⟨by omega, hL, hm0⟩
     · first | omega | (dsimp only; omega)
    ·
     intro hc37
     try simp only [bq, ne_eq] at hc37
     obtain rfl : k = z19.ts.length := by omega
     refine W.exit <| X.thenExit <| X.nextExit <| X.here <| X.seq <| W.seq <| W.region <| L.v (R1.move rfl) rfl <| L.v (R1.gt rfl rfl) rfl <| L.nil <| X.seq ?_
     refine W.cond rfl ?_ ?_
     ·
      intro hc67
      try simp only [bq, ne_eq] at hc67
      refine W.seq <| W.region <| L.v (R1.assign rfl) rfl <| L.nil <| X.seq <| W.ret <| X.blockRet <| X.thenRet <| X.nextRet <| X.blockRet <| X.thenRet ?_
      refine X.result1 rfl (.tmp rfl .nil) <| ⟨?_, hm0⟩
      rw [decide_eq_true]
      have := sum_elem_le szC hz19
      rw [List.take_length] at hc67
      unfold szCs at *
      omega
     ·
      intro hc67
      try simp only [bq, ne_eq] at hc67
      refine W.skip <| X.blockEnd <| X.seq <| W.region <| L.v (R1.move rfl) rfl <| L.v (R1.addI (b := 1) rfl rfl (by omega)) rfl <| L.v (R1.assign rfl) rfl <| L.nil ?_
      have hsum : szCs (cs.take (i + 1)) = szCs (cs.take i) + (2 + szQ z19.k) + szTs (z19.ts.take z19.ts.length) := by
        rw [List.take_length]; have := sum_take_succ szC hz19; unfold szCs; rw [this]; unfold szC; omega
      refine X.next (i + 1) ?_ ?_ ?_
      · refine ⟨rfl, ?_, rfl, trivial⟩; simp only [lk, Nat.beq, cond_true, cond_false]; rw [hsum]
      ·
       refine ⟨by omega, by rw [hsum]; omega, hL, hm0⟩
      · first | omega | (dsimp only; omega)
  ·
   intro hc9
   try simp only [bq, ne_eq] at hc9
   obtain rfl : i = cs.length := by omega
   refine W.exit <| X.thenExit <| X.nextExit <| X.here <| X.seq <| W.seq <| W.region <| L.v (R1.assign rfl) rfl <| L.nil <| X.seq <| W.ret ?_
   refine X.result1 rfl (.tmp rfl .nil) <| ⟨?_, hm0⟩
   rw [List.take_length] at hs
   rw [decide_eq_false (by omega)]

theorem c_many_pantographlaw14 {N9 : List Nat} {w : World} {vl : Value} {val : List QR} (hL : Lay rdQ N9 w vl val) (hb : szQs val ≤ 4194304) :
    Ret Try.prog 6 #[vl] w (fun x w' => ∃ b, x = .bool b ∧ (b = false → (∀ q ∈ val, SmQ 3 q) ∧ val.length ≤ 100) ∧ Mod [] w w') := by
 obtain ⟨TL, tL, rfl⟩ := hL.form
 have hcl := szQs_len val
 refine Ret.of (vs := [.slice TL val.length tL]) (n := 47) Try.func6 rfl rfl rfl rfl ?_
 have hm0 : Mod [] w w := Mod.refl _ _
 refine W.seq <| W.region <| L.v (R1.assign rfl) rfl <| L.nil <| X.seq <| W.seq <| W.region <| L.v (R1.assign rfl) rfl <| L.nil <| X.seq <| W.seq ?_
 refine W.seq <| W.region <| L.v (R1.assign rfl) rfl <| L.nil <| X.seq <| W.block <| W.loop (ι := Nat) (fun i => [(0, .slice TL val.length tL), (3, .int .i64 (((szQs (val.take i)) : Nat) : Int)), (4, .int .i64 ((i : Nat) : Int))]) (fun i w_ => i ≤ val.length ∧ (szQs (val.take i)) ≤ 100 ∧ (∀ q ∈ val.take i, SmQ 3 q) ∧ Lay rdQ N9 w_ (.slice TL val.length tL) val ∧ Mod [] w w_) (fun i => val.length - i) 0 ?_ ?_ ?_
 · exact ⟨rfl, rfl, rfl, trivial⟩
 ·
  exact ⟨Nat.zero_le _, by simp [szQs], (fun q h => by cases h), hL, hm0⟩
 ·
  rintro i w1 ⟨hi, hs, hq, hL, hm0⟩
  refine W.seq <| W.seq <| W.region <| L.v (R1.move rfl) rfl <| L.v (R1.move rfl) rfl <| L.v (R1.lenLay rfl hL tyS24) rfl <| L.v (R1.lt rfl rfl) rfl <| L.nil <| X.seq <| W.cond rfl ?_ ?_
  ·
   intro hc8
   try simp only [bq, ne_eq] at hc8
   refine W.skip <| X.seq <| W.seq <| W.block <| W.seq <| W.drawW (T := []) rfl (by decide +kernel) (NoHang.then (NoHang.block (NoHang.then (NoHang.next (NoHang.block (NoHang.then NoHang.post)))))) (fun w2 hm2 => ?_)
   replace hL := hL.gr hm2
   replace hm0 := hm0.trans hm2
   have hS1 : Mod [] w2 w2 := Mod.refl _ _
   clear hm2
   refine D.take 0 rfl (by decide +kernel) (fun w_ hS => (R1.move rfl)) hS1 rfl <| D.take 1 rfl (by decide +kernel) (fun w_ hS => (R1.addI (b := 1) rfl rfl (by omega))) hS1 rfl <| D.take 2 rfl (by decide +kernel) (fun w_ hS => (R1.move rfl)) hS1 rfl <| D.take 3 rfl (by decide +kernel) (fun w_ hS => (R1.move rfl)) hS1 rfl <| D.take 4 rfl (by decide +kernel) (fun w_ hS => (R1.atLay (j := i) rfl rfl (Lay.gr hL hS) tyS24 rfl (by omega))) hS1 rfl <| D.take 5 rfl (by decide +kernel) (fun w_ hS => (R1.fieldAddr rfl tyF41_1)) hS1 rfl ?_
   obtain ⟨z17, cs17, hz17, hE17, vn17, vd17, rfl, hn17, hd17⟩ := Lay.elemQ hL (j := i) (by omega)
   obtain ⟨A17, c17, rfl⟩ := hn17.form
   obtain ⟨B17, e17, rfl⟩ := hd17.form
   refine D.take 6 rfl (by decide +kernel) (fun w_ hS => (R1.loadEF rfl (SlE.gr hE17 hS) rfl tyP39)) hS1 rfl <| D.take 7 rfl (by decide +kernel) (fun w_ hS => (R1.len rfl tyS39)) hS1 rfl ?_
   have q17 := sum_elem_le (fun q => szQ q + 1) hz17; have q17b : szQ z17 = z17.n.length + z17.d.length := rfl; change szQs (val.take i) + (szQ z17 + 1) ≤ szQs val at q17
   refine D.take 8 rfl (by decide +kernel) (fun w_ hS => (R1.addI rfl rfl (by omega))) hS1 rfl <| D.take 9 rfl (by decide +kernel) (fun w_ hS => (R1.move rfl)) hS1 rfl <| D.take 10 rfl (by decide +kernel) (fun w_ hS => (R1.move rfl)) hS1 rfl <| D.take 11 rfl (by decide +kernel) (fun w_ hS => (R1.atLay (j := i) rfl rfl (Lay.gr hL hS) tyS24 rfl (by omega))) hS1 rfl <| D.take 12 rfl (by decide +kernel) (fun w_ hS => (R1.fieldAddr rfl tyF41_2)) hS1 rfl ?_
   obtain ⟨z24, cs24, hz24, hE24, vn24, vd24, rfl, hn24, hd24⟩ := Lay.elemQ hL (j := i) (by omega)
   obtain ⟨A24, c24, rfl⟩ := hn24.form
   obtain ⟨B24, e24, rfl⟩ := hd24.form
   obtain rfl : z17 = z24 := by have h9 := hz24; rw [hz17] at h9; injection h9
   refine D.take 13 rfl (by decide +kernel) (fun w_ hS => (R1.loadEF rfl (SlE.gr hE24 hS) rfl tyP39)) hS1 rfl <| D.take 14 rfl (by decide +kernel) (fun w_ hS => (R1.len rfl tyS39)) hS1 rfl <| D.take 15 rfl (by decide +kernel) (fun w_ hS => (R1.addI rfl rfl (by omega))) hS1 rfl <| D.take 16 rfl (by decide +kernel) (fun w_ hS => (R1.assign rfl)) hS1 rfl <| D.done (by decide +kernel) ?_ _
   refine X.seq <| W.seq ?_
   have hsum : szQs (val.take (i + 1)) = szQs (val.take i) + (szQ z17 + 1) := sum_take_succ (fun q => szQ q + 1) hz17
   refine W.region <| L.v (R1.move rfl) rfl <| L.v ((R1.gt rfl rfl).asB (c := decide (100 < szQs (val.take (i + 1)))) (by congr 1; apply propext; rw [hsum]; omega)) rfl <| L.v (R1.move rfl) rfl ?_
   cases hgd29 : decide (100 < szQs (val.take (i + 1)))
   ·
    simp only [bq] at hgd29
    refine L.on rfl rfl rfl (R1.move rfl) rfl <| L.on rfl rfl rfl (R1.move rfl) rfl <| L.on rfl rfl rfl (R1.atLay (j := i) rfl rfl hL tyS24 rfl (by omega)) rfl <| L.on rfl rfl rfl (R1.fieldAddr rfl tyF41_1) rfl ?_
    obtain ⟨z34, cs34, hz34, hE34, vn34, vd34, rfl, hn34, hd34⟩ := Lay.elemQ hL (j := i) (by omega)
    obtain ⟨A34, c34, rfl⟩ := hn34.form
    obtain ⟨B34, e34, rfl⟩ := hd34.form
    obtain rfl : z17 = z34 := by have h9 := hz34; rw [hz17] at h9; injection h9
    refine L.on rfl rfl rfl (R1.loadEF rfl hE34 rfl tyP39) rfl <| L.on rfl rfl rfl (R1.len rfl tyS39) rfl <| L.on rfl rfl rfl ((R1.gt rfl rfl).asB (c := decide (3 < z17.n.length)) (by congr 1; apply propext; omega)) rfl <| L.v (R1.pickF rfl rfl) rfl <| L.v (R1.move rfl) rfl ?_
    cases hgd38 : decide (3 < z17.n.length)
    ·
     simp only [bq] at hgd38
     refine L.on rfl rfl rfl (R1.move rfl) rfl <| L.on rfl rfl rfl (R1.move rfl) rfl <| L.on rfl rfl rfl (R1.atLay (j := i) rfl rfl hL tyS24 rfl (by omega)) rfl <| L.on rfl rfl rfl (R1.fieldAddr rfl tyF41_2) rfl ?_
     obtain ⟨z43, cs43, hz43, hE43, vn43, vd43, rfl, hn43, hd43⟩ := Lay.elemQ hL (j := i) (by omega)
     obtain ⟨A43, c43, rfl⟩ := hn43.form
     obtain ⟨B43, e43, rfl⟩ := hd43.form
     obtain rfl : z17 = z43 := by have h9 := hz43; rw [hz17] at h9; injection h9
     refine L.on rfl rfl rfl (R1.loadEF rfl hE43 rfl tyP39) rfl <| L.on rfl rfl rfl (R1.len rfl tyS39) rfl <| L.on rfl rfl rfl ((R1.gt rfl rfl).asB (c := decide (3 < z17.d.length)) (by congr 1; apply propext; omega)) rfl <| L.v (R1.pickF rfl rfl) rfl <| L.nil <| X.seq <| W.cond rfl ?_ ?_
     ·
      intro hc46
      simp only [bq] at hc46
      refine W.seq <| W.region <| L.v (R1.assign rfl) rfl <| L.nil <| X.seq <| W.ret <| X.blockRet <| X.thenRet <| X.nextRet <| X.blockRet <| X.thenRet ?_
      refine X.result1 rfl (.tmp rfl .nil) ?_
      exact ⟨true, rfl, (fun h => by cases h), hm0⟩
     ·
      intro hc46
      simp only [bq] at hc46
      refine W.skip <| X.blockEnd <| X.seq <| W.region <| L.v (R1.move rfl) rfl <| L.v (R1.addI (b := 1) rfl rfl (by omega)) rfl <| L.v (R1.assign rfl) rfl <| L.nil <| X.next (i + 1) ?_ ?_ ?_
      · refine ⟨rfl, congrArg (fun n : Nat => some (Value.int .i64 (n : Int))) (by rw [hsum]; unfold szQ; omega), rfl, trivial⟩
      ·
       exact ⟨by omega, by omega, all_take hz17 hq ⟨by omega, by omega⟩, hL, hm0⟩
      · first | omega | (dsimp only; omega)
    ·
     simp only [bq] at hgd38
     refine L.off rfl rfl rfl rfl rfl <| L.off rfl rfl rfl rfl rfl <| L.off rfl rfl rfl rfl rfl <| L.off rfl rfl rfl rfl rfl <| L.off rfl rfl rfl rfl rfl <| L.off rfl rfl rfl rfl rfl <| L.off rfl rfl rfl rfl rfl <| L.v (R1.pickT rfl rfl) rfl <| L.nil <| X.seq <| W.condT rfl ?_
     refine W.seq <| W.region <| L.v (R1.assign rfl) rfl <| L.nil <| X.seq <| W.ret <| X.blockRet <| X.thenRet <| X.nextRet <| X.blockRet <| X.thenRet ?_
     refine X.result1 rfl (.tmp rfl .nil) ?_
     exact ⟨true, rfl, (fun h => by cases h), hm0⟩
   ·
    simp only [bq] at hgd29
    refine L.off rfl rfl rfl rfl rfl <| L.off rfl rfl rfl rfl rfl <| L.off rfl rfl rfl rfl rfl <| L.off rfl rfl rfl rfl rfl <| L.off rfl rfl rfl rfl rfl <| L.off rfl rfl rfl rfl rfl <| L.off rfl rfl rfl rfl rfl <| L.v (R1.pickT rfl rfl) rfl <| L.v (R1.move rfl) rfl <| L.off rfl rfl rfl rfl rfl <| L.off rfl rfl rfl rfl rfl ?_
    refine L.off rfl rfl rfl rfl rfl <| L.off rfl rfl rfl rfl rfl <| L.off rfl rfl rfl rfl rfl <| L.off rfl rfl rfl rfl rfl <| L.off rfl rfl rfl rfl rfl <| L.v (R1.pickT rfl rfl) rfl <| L.nil <| X.seq <| W.condT rfl <| W.seq <| W.region ?_
    refine L.v (R1.assign rfl) rfl <| L.nil <| X.seq <| W.ret <| X.blockRet <| X.thenRet <| X.nextRet <| X.blockRet <| X.thenRet <| X.result1 rfl (.tmp rfl .nil) ?_
    exact ⟨true, rfl, (fun h => by cases h), hm0⟩
  ·
   intro hc8
   try simp only [bq, ne_eq] at hc8
   obtain rfl : i = val.length := by omega
   refine W.exit <| X.thenExit <| X.nextExit <| X.here <| X.seq <| W.seq <| W.region <| L.v (R1.assign rfl) rfl <| L.nil <| X.seq <| W.ret ?_
   refine X.result1 rfl (.tmp rfl .nil) ?_
   rw [List.take_length] at hq hs
   exact ⟨false, rfl, (fun _ => ⟨hq, by omega⟩), hm0⟩

theorem c_numbers_pantographlaw14 {M N9 : List Nat} {w : World} {va vb : Value} {xs ys : List Int} (h : Lay rdI M w va xs) (k0 : Lay rdI N9 w vb ys) :
    Ret Try.prog 9 #[va, vb] w (fun r w' => r = .bool (decide (xs = ys)) ∧ Mod [] w w') := by
 have hmax := h.max; unfold maxLen at hmax
 refine Ret.of (vs := [va, vb]) (n := 26) Try.func9 rfl rfl rfl rfl ?_
 have hm0 : Mod [] w w := Mod.refl _ _
 refine W.seq <| W.region <| L.v (R1.assign rfl) rfl <| L.nil <| X.seq <| W.seq <| W.seq <| W.region <| L.v (R1.move rfl) rfl <| L.v (R1.lenLay rfl h tyS23) rfl <| L.v (R1.move rfl) rfl ?_
 refine L.v (R1.lenLay rfl k0 tyS23) rfl <| L.v (R1.ne rfl rfl) rfl <| L.nil <| X.seq <| W.cond rfl ?_ ?_
 ·
  intro hc10
  try simp only [bq, ne_eq] at hc10
  refine W.seq <| W.region <| L.v (R1.assign rfl) rfl <| L.nil <| X.seq <| W.ret <| X.thenRet <| X.result1 rfl (.tmp rfl .nil) <| ⟨?_, hm0⟩
  rw [decide_eq_false (fun e => by subst e; omega)]
 ·
  intro hc10
  try simp only [bq, ne_eq] at hc10
  have hlen : xs.length = ys.length := by omega
  refine W.skip <| X.seq <| W.seq <| W.seq <| W.region <| L.v (R1.assign rfl) rfl <| L.nil <| X.seq <| W.block <| W.loop (ι := Nat) (fun k => [(0, va), (1, vb), (5, .int .i64 (k : Int))]) (fun k w_ => k ≤ xs.length ∧ xs.take k = ys.take k ∧ Lay rdI M w_ va xs ∧ Lay rdI N9 w_ vb ys ∧ Mod [] w w_) (fun k => xs.length - k) 0 ?_ ?_ ?_
  · exact ⟨rfl, rfl, rfl, trivial⟩
  ·
   exact ⟨Nat.zero_le _, rfl, h, k0, hm0⟩
  ·
   rintro k w1 ⟨hk, he, h, k0, hm0⟩
   refine W.seq <| W.seq <| W.region <| L.v (R1.move rfl) rfl <| L.v (R1.move rfl) rfl <| L.v (R1.lenLay rfl h tyS23) rfl <| L.v (R1.lt rfl rfl) rfl <| L.nil <| X.seq <| W.cond rfl ?_ ?_
   ·
    intro hc14
    try simp only [bq, ne_eq] at hc14
    have hk1 : k < xs.length := by omega
    refine W.skip <| X.seq <| W.seq <| W.block <| W.seq <| W.drawW (T := []) rfl (by decide +kernel) (NoHang.then (NoHang.block (NoHang.then (NoHang.next (NoHang.block (NoHang.then NoHang.post)))))) (fun w2 hm2 => ?_)
    replace h := h.gr hm2
    replace k0 := k0.gr hm2
    replace hm0 := hm0.trans hm2
    have hS1 : Mod [] w2 w2 := Mod.refl _ _
    clear hm2
    refine D.take 0 rfl (by decide +kernel) (fun w_ hS => (R1.move rfl)) hS1 rfl <| D.take 1 rfl (by decide +kernel) (fun w_ hS => (R1.move rfl)) hS1 rfl <| D.take 2 rfl (by decide +kernel) (fun w_ hS => (R1.atLay (j := k) rfl rfl (Lay.gr h hS) tyS23 rfl (by omega))) hS1 rfl <| D.take 3 rfl (by decide +kernel) (fun w_ hS => (R1.loadLI rfl (Lay.gr h hS) tyP3 (by omega) rfl)) hS1 rfl <| D.take 4 rfl (by decide +kernel) (fun w_ hS => (R1.move rfl)) hS1 rfl <| D.take 5 rfl (by decide +kernel) (fun w_ hS => (R1.move rfl)) hS1 rfl <| D.take 6 rfl (by decide +kernel) (fun w_ hS => (R1.atLay (j := k) rfl rfl (Lay.gr k0 hS) tyS23 rfl (by omega))) hS1 rfl <| D.take 7 rfl (by decide +kernel) (fun w_ hS => (R1.loadLI rfl (Lay.gr k0 hS) tyP3 (by omega) rfl)) hS1 rfl <| D.take 8 rfl (by decide +kernel) (fun w_ hS => (R1.ne rfl rfl)) hS1 rfl <| D.done (by decide +kernel) ?_ _
    refine X.seq <| W.cond rfl ?_ ?_
    ·
     intro hc25
     try simp only [bq, ne_eq] at hc25
     refine W.seq <| W.region <| L.v (R1.assign rfl) rfl <| L.nil <| X.seq <| W.ret <| X.blockRet <| X.thenRet <| X.nextRet <| X.blockRet <| X.thenRet ?_
     refine X.result1 rfl (.tmp rfl .nil) <| ⟨?_, hm0⟩
     rw [decide_eq_false (fun e => by subst e; omega)]
    ·
     intro hc25
     try simp only [bq, ne_eq] at hc25
     refine W.skip <| X.blockEnd <| X.seq <| W.region <| L.v (R1.move rfl) rfl <| L.v (R1.addI (b := 1) rfl rfl (by omega)) rfl <| L.v (R1.assign rfl) rfl <| L.nil <| X.next (k + 1) ?_ ?_ ?_
     · exact ⟨rfl, rfl, rfl, trivial⟩
     ·
      exact ⟨by omega, eq_stepI hk1 (by omega) he (by omega), h, k0, hm0⟩
     · first | omega | (dsimp only; omega)
   ·
    intro hc14
    try simp only [bq, ne_eq] at hc14
    have hk1 : k = xs.length := by omega
    refine W.exit <| X.thenExit <| X.nextExit <| X.here <| X.seq <| W.seq <| W.region <| L.v (R1.assign rfl) rfl <| L.nil <| X.seq <| W.ret ?_
    refine X.result1 rfl (.tmp rfl .nil) <| ⟨?_, hm0⟩
    rw [hk1, List.take_length, hlen, List.take_length] at he
    rw [decide_eq_true he]

theorem c_numbersEq {M N9 : List Nat} {w : World} {va vb : Value} {xs ys : List Int} (h : Lay rdI M w va xs) (k0 : Lay rdI N9 w vb ys) (e : xs = ys) : Ret Try.prog 9 #[va, vb] w (fun r w' => r = .bool true ∧ Mod [] w w') :=
  (c_numbers_pantographlaw14 h k0).mono fun r w' ⟨h1, h2⟩ => ⟨by rw [h1, decide_eq_true e], h2⟩
theorem c_RatsEq {M N9 : List Nat} {w : World} {va vb : Value} {xs : List QR} (h : Lay rdQ M w va xs) (k : Lay rdQ N9 w vb xs) (hbd : Bd [] w) (hs : ∀ q ∈ xs, SmQ 10000 q) :
    Ret Try.prog 12 #[va, vb] w (fun r w' => r = .bool true ∧ Mod [] w w') := by
 have hmax := h.max; unfold maxLen at hmax
 refine Ret.of (vs := [va, vb]) (n := 27) Try.func12 rfl rfl rfl rfl ?_
 have hm0 : Mod [] w w := Mod.refl _ _
 refine W.seq <| W.region <| L.v (R1.assign rfl) rfl <| L.nil <| X.seq <| W.seq <| W.seq <| W.region <| L.v (R1.move rfl) rfl <| L.v (R1.lenLay rfl h tyS24) rfl <| L.v (R1.move rfl) rfl ?_
 refine L.v (R1.lenLay rfl k tyS24) rfl <| L.v ((R1.ne rfl rfl).asB (c := false) (by simp)) rfl <| L.nil <| X.seq <| W.condF rfl <| W.skip <| X.seq <| W.seq <| W.seq <| W.region <| L.v (R1.assign rfl) rfl ?_
 refine L.nil <| X.seq <| W.block <| W.loop (ι := Nat) (fun i => [(0, va), (1, vb), (5, .int .i64 ((i : Nat) : Int))]) (fun i w_ => Lay rdQ M w_ va xs ∧ Lay rdQ N9 w_ vb xs ∧ i ≤ xs.length ∧ Bd [] w_ ∧ Mod [] w w_) (fun i => xs.length - i) 0 ?_ ?_ ?_
 · exact ⟨rfl, rfl, rfl, trivial⟩
 ·
  exact ⟨h.sub (by intro b hb; first | exact hb | (simp only [mq] at hb ⊢; grind)), k.sub (by intro b hb; first | exact hb | (simp only [mq] at hb ⊢; grind)), Nat.zero_le _, hbd.sub (by intro b hb; first | exact hb | (simp only [mq] at hb ⊢; grind)), hm0⟩
 ·
  rintro i w1 ⟨h, k, hi, hbd, hm0⟩
  refine W.seq <| W.seq <| W.region <| L.v (R1.move rfl) rfl <| L.v (R1.move rfl) rfl <| L.v (R1.lenLay rfl h tyS24) rfl <| L.v (R1.lt rfl rfl) rfl <| L.nil <| X.seq <| W.cond rfl ?_ ?_
  ·
   intro hc14
   try simp only [bq, ne_eq] at hc14
   refine W.skip <| X.seq <| W.seq <| W.block <| W.seq <| W.drawW (T := []) rfl (by decide +kernel) (NoHang.then (NoHang.block (NoHang.then (NoHang.next (NoHang.block (NoHang.then NoHang.post)))))) (fun w2 hm2 => ?_)
   replace h := h.gr hm2
   replace k := k.gr hm2
   replace hbd := hbd.gr hm2
   replace hm0 := hm0.trans hm2
   have hS1 : Mod [] w2 w2 := Mod.refl _ _
   clear hm2
   refine D.take 0 rfl (by decide +kernel) (fun w_ hS => (R1.move rfl)) hS1 rfl <| D.take 1 rfl (by decide +kernel) (fun w_ hS => (R1.move rfl)) hS1 rfl <| D.take 2 rfl (by decide +kernel) (fun w_ hS => (R1.atLay (j := i) rfl rfl (Lay.gr h hS) tyS24 rfl (by omega))) hS1 rfl ?_
   obtain ⟨z20, cs20, hz20, hE20, vn20, vd20, rfl, hn20, hd20⟩ := Lay.elemQ h (j := i) (by omega)
   obtain ⟨A20, c20, rfl⟩ := hn20.form
   obtain ⟨B20, e20, rfl⟩ := hd20.form
   refine D.take 3 rfl (by decide +kernel) (fun w_ hS => (R1.loadE rfl (SlE.gr hE20 hS) tyG41)) hS1 rfl ?_
   have F20 := fit_sm hn20 hd20 (hs _ (List.mem_of_getElem? hz20))
   refine D.take 4 rfl (by decide +kernel) (fun w_ hS => (R1.move rfl)) hS1 rfl <| D.take 5 rfl (by decide +kernel) (fun w_ hS => (R1.move rfl)) hS1 rfl <| D.take 6 rfl (by decide +kernel) (fun w_ hS => (R1.atLay (j := i) rfl rfl (Lay.gr k hS) tyS24 rfl (by omega))) hS1 rfl ?_
   obtain ⟨z24, cs24, hz24, hE24, vn24, vd24, rfl, hn24, hd24⟩ := Lay.elemQ k (j := i) (by omega)
   obtain ⟨A24, c24, rfl⟩ := hn24.form
   obtain ⟨B24, e24, rfl⟩ := hd24.form
   obtain rfl : z20 = z24 := by have h9 := hz24; rw [hz20] at h9; injection h9
   refine D.take 7 rfl (by decide +kernel) (fun w_ hS => (R1.loadE rfl (SlE.gr hE24 hS) tyG41)) hS1 rfl ?_
   have F24 := fit_sm hn24 hd24 (hs _ (List.mem_of_getElem? hz20))
   refine D.one 8 rfl (by decide +kernel) (fun hX => ?_)
   refine L.call rfl (c_ref2_Same (qa := (QR.val z20)) (qb := (QR.val z20)) rfl rfl hn20 hd20 hn24 hd24 hbd (Nat.le_trans (hs _ (List.mem_of_getElem? hz20)).1 (by decide)) (Nat.le_trans (hs _ (List.mem_of_getElem? hz20)).2 (by decide)) (Nat.le_trans (hs _ (List.mem_of_getElem? hz20)).1 (by decide)) (Nat.le_trans (hs _ (List.mem_of_getElem? hz20)).2 (by decide))) rfl ?_
   rintro _ w3 ⟨rfl, hm3⟩
   replace h := h.gr hm3
   replace k := k.gr hm3
   replace hbd := hbd.gr hm3
   replace hm0 := hm0.trans hm3
   replace hS1 := hS1.trans hm3
   clear hm3
   refine L.nil (hX _ _ ⟨.inr hS1, ?_⟩)
   refine D.take 9 rfl (by decide +kernel) (fun w_ hS => ((R1.not rfl).asB (c := false) (by simp))) hS1 rfl <| D.done (by decide +kernel) ?_ _
   refine X.seq <| W.condF rfl <| W.skip <| X.blockEnd <| X.seq <| W.region <| L.v (R1.move rfl) rfl <| L.v (R1.addI (b := 1) rfl rfl (by omega)) rfl <| L.v (R1.assign rfl) rfl <| L.nil <| X.next (i + 1) ?_ ?_ ?_
   · exact ⟨rfl, rfl, rfl, trivial⟩
   ·
    exact ⟨h.sub (by intro b hb; first | exact hb | (simp only [mq] at hb ⊢; grind)), k.sub (by intro b hb; first | exact hb | (simp only [mq] at hb ⊢; grind)), by omega, hbd.sub (by intro b hb; first | exact hb | (simp only [mq] at hb ⊢; grind)), hm0⟩
   · first | omega | (dsimp only; omega)
  ·
   intro hc14
   try simp only [bq, ne_eq] at hc14
   obtain rfl : i = xs.length := by omega
   refine W.exit <| X.thenExit <| X.nextExit <| X.here <| X.seq <| W.seq <| W.region <| L.v (R1.assign rfl) rfl <| L.nil <| X.seq <| W.ret ?_
   refine X.result1 rfl (.tmp rfl .nil) ?_
   exact ⟨rfl, hm0⟩

end Go.Proofs.Ytdfnkbdnnflcpaa
