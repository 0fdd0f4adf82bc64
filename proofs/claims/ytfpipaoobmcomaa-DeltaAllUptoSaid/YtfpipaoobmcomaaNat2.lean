/- Walks: what the functions compute. -/
import Derived.Test.YtfpipaoobmcomaaNat1
import Derived.Test.YtfpipaoobmcomaaMore
import Derived.Test.YtfpipaoobmcomaaNum
namespace Go.Proofs.Ytfpipaoobmcomaa
open Go.RowKit
set_option linter.unusedVariables false
set_option linter.unusedSimpArgs false
set_option maxRecDepth 10000

theorem fill2u (a b : Int) : Instr.fill (fun i => some (i * 1, 1)) ((Array.range (2 * 1)).map ((Value.int .u32 0).cells[· % (Value.int .u32 0).cells.size]!)) [(0, .int .u32 a), (1, .int .u32 b)] = some #[.int .u32 a, .int .u32 b] := by kernel_rfl

theorem c_nat_Of {M : List Nat} {w : World} {n : Nat} (hn : n < 18446744073709551616) (hbd : Bd M w) :
    Ret Try.prog 68 #[.int .u64 (n : Int)] w (fun r w' => U32 M w' r (toL n) ∧ Mod [] w w') := by
 have hbd0 := hbd
 refine Ret.of (vs := [.int .u64 (n : Int)]) (n := 10) Try.func68 rfl rfl rfl rfl ?_
 have hm0 : Mod [] w w := Mod.refl _ _
 refine W.seq <| W.region <| L.v (R1.assign rfl) rfl <| L.nil <| X.seq <| W.seq <| W.region <| L.v (R1.move rfl) rfl <| L.v (R1.convLW rfl tyI57 tyI60) rfl <| L.v (R1.move rfl) rfl <| L.v (R1.shr32 rfl rfl) rfl ?_
 refine L.v (R1.convLW rfl tyI57 tyI60) rfl <| L.buildSlice (cells := [.int .u32 ((n % 4294967296 : Nat) : Int), .int .u32 ((n / 4294967296 % 4294967296 : Nat) : Int)]) rfl tyS33 tyZ60 (fill2u _ _) (by decide) (by decide) rfl ?_
 intro g8 w1 hN8
 have hge_g8 := New.ge hN8 hm0.size
 replace hm0 := hm0.trans (hN8.mod.mono (by simp))
 have hb8 := hN8.blk
 clear hN8
 have hU : U32 M w1 (.slice (some ⟨g8, 0, none⟩) 2 2) [n % 4294967296, n / 4294967296 % 4294967296] := U32.of_blk (xs := [n % 4294967296, n / 4294967296 % 4294967296]) hb8 (hbd0.not hge_g8) (by show (2 : Nat) ≤ maxLen; decide) (by simp; omega)
 refine L.call rfl (c_nat_trim (by assumption)) rfl ?_
 rintro v9 w2 ⟨h9, hm2⟩
 replace hm0 := hm0.trans hm2
 clear hm2
 refine L.v (R1.assign rfl) rfl <| L.nil <| X.seq <| W.ret <| X.result1 rfl (.tmp rfl .nil) ?_
 exact ⟨by rw [val_two n hn] at h9; exact h9, hm0⟩

theorem c_nat_Cmp {M : List Nat} {w : World} {va vb : Value} {xs ys : List Nat} (h : U32 M w va xs) (k : U32 M w vb ys) :
    Ret Try.prog 66 #[va, vb] w (fun r w' => r = .int .i64 (cmpI (val xs) (val ys)) ∧ Mod [] w w') := by
 refine Ret.of (vs := [va, vb]) (n := 45) Try.func66 rfl rfl rfl rfl ?_
 have hm0 : Mod [] w w := Mod.refl _ _
 refine W.seq <| W.region <| L.v (R1.assign rfl) rfl <| L.nil <| X.seq <| W.seq <| W.region <| L.v (R1.move rfl) rfl <| L.call rfl (c_nat_trim (by assumption)) rfl ?_
 rintro v7 w1 ⟨h7, hm1⟩
 replace h := h.gr hm1
 replace k := k.gr hm1
 replace hm0 := hm0.trans hm1
 clear hm1
 refine L.v (R1.move rfl) rfl <| L.call rfl (c_nat_trim (by assumption)) rfl ?_
 rintro v9 w2 ⟨h9, hm2⟩
 replace h := h.gr hm2
 replace k := k.gr hm2
 replace hm0 := hm0.trans hm2
 replace h7 := h7.gr hm2
 clear hm2
 refine L.v (R1.assign rfl) rfl <| L.v (R1.assign rfl) rfl <| L.nil <| X.seq <| W.seq <| W.seq ?_
 have hma := h7.1.max; unfold maxLen at hma
 have hmb := h9.1.max; unfold maxLen at hmb
 refine W.region <| L.v (R1.move rfl) rfl <| L.v (R1.lenU rfl (by assumption) tyS33) rfl <| L.v (R1.move rfl) rfl <| L.v (R1.lenU rfl (by assumption) tyS33) rfl <| L.v (R1.ne rfl rfl) rfl <| L.nil <| X.seq <| W.cond rfl ?_ ?_
 ·
  intro hc14
  try simp only [bq, ne_eq] at hc14
  refine W.seq <| W.seq <| W.region <| L.v (R1.move rfl) rfl <| L.v (R1.lenU rfl (by assumption) tyS33) rfl <| L.v (R1.move rfl) rfl <| L.v (R1.lenU rfl (by assumption) tyS33) rfl <| L.v (R1.lt rfl rfl) rfl <| L.nil <| X.seq <| W.cond rfl ?_ ?_
  ·
   intro hc19
   try simp only [bq, ne_eq] at hc19
   refine W.seq <| W.region <| L.v (R1.assign rfl) rfl <| L.nil <| X.seq <| W.ret <| X.thenRet <| X.thenRet <| X.result1 rfl (.tmp rfl .nil) ?_
   exact ⟨by rw [cmpI_lt (lt_of_toL_len (by omega))], hm0⟩
  ·
   intro hc19
   try simp only [bq, ne_eq] at hc19
   refine W.skip <| X.seq <| W.seq <| W.region <| L.v (R1.assign rfl) rfl <| L.nil <| X.seq <| W.ret <| X.thenRet <| X.result1 rfl (.tmp rfl .nil) ?_
   exact ⟨by rw [cmpI_gt (lt_of_toL_len (by omega))], hm0⟩
 ·
  intro hc14
  try simp only [bq, ne_eq] at hc14
  have hlen : (toL (val xs)).length = (toL (val ys)).length := by omega
  refine W.skip <| X.seq <| W.seq <| W.seq <| W.region <| L.v (R1.move rfl) rfl <| L.v (R1.lenU rfl (by assumption) tyS33) rfl <| L.v ((R1.sub rfl rfl).as (wrap_i64 (by omega) (by omega))) rfl <| L.v (R1.assign rfl) rfl <| L.nil <| X.seq ?_
  refine W.block <| W.loop (ι := Nat) (fun m => [(0, v7), (1, v9), (5, .int .i64 ((m : Int) - 1))]) (fun m w_ => m ≤ (toL (val xs)).length ∧ (toL (val xs)).drop m = (toL (val ys)).drop m ∧ U32 M w_ v7 (toL (val xs)) ∧ U32 M w_ v9 (toL (val ys)) ∧ Mod [] w w_) (fun m => m) (toL (val xs)).length ?_ ?_ ?_
  · exact ⟨rfl, rfl, rfl, trivial⟩
  ·
   exact ⟨Nat.le_refl _, by rw [List.drop_of_length_le (Nat.le_refl _), List.drop_of_length_le (by omega)], h7, h9, hm0⟩
  ·
   rintro m w3 ⟨hm, hd, h7, h9, hm0⟩
   refine W.seq <| W.seq <| W.region <| L.v (R1.move rfl) rfl <| L.v (R1.ge rfl rfl) rfl <| L.nil <| X.seq <| W.cond rfl ?_ ?_
   ·
    intro hc24
    try simp only [bq, ne_eq] at hc24
    have hm1 : 0 < m := by omega
    refine W.skip <| X.seq <| W.seq <| W.block <| W.seq <| W.drawW (T := []) rfl (by decide +kernel) (NoHang.then (NoHang.block (NoHang.then (NoHang.next (NoHang.block (NoHang.then NoHang.post)))))) (fun w4 hm4 => ?_)
    replace h7 := h7.gr hm4
    replace h9 := h9.gr hm4
    replace hm0 := hm0.trans hm4
    have hS1 : Mod [] w4 w4 := Mod.refl _ _
    clear hm4
    refine D.take 0 rfl (by decide +kernel) (fun w_ hS => (R1.move rfl)) hS1 rfl <| D.take 1 rfl (by decide +kernel) (fun w_ hS => (R1.move rfl)) hS1 rfl <| D.take 2 rfl (by decide +kernel) (fun w_ hS => (R1.atU (j := (m - 1)) rfl rfl (U32.gr (by assumption) hS) tyS33 (by omega) (by omega))) hS1 rfl <| D.take 3 rfl (by decide +kernel) (fun w_ hS => (R1.ldU rfl (U32.gr (by assumption) hS) tyP60 (by omega) rfl)) hS1 rfl <| D.take 4 rfl (by decide +kernel) (fun w_ hS => (R1.move rfl)) hS1 rfl <| D.take 5 rfl (by decide +kernel) (fun w_ hS => (R1.move rfl)) hS1 rfl <| D.take 6 rfl (by decide +kernel) (fun w_ hS => (R1.atU (j := (m - 1)) rfl rfl (U32.gr (by assumption) hS) tyS33 (by omega) (by omega))) hS1 rfl <| D.take 7 rfl (by decide +kernel) (fun w_ hS => (R1.ldU rfl (U32.gr (by assumption) hS) tyP60 (by omega) rfl)) hS1 rfl <| D.take 8 rfl (by decide +kernel) (fun w_ hS => (R1.ne rfl rfl)) hS1 rfl <| D.done (by decide +kernel) ?_ _
    refine X.seq <| W.cond rfl ?_ ?_
    ·
     intro hc35
     try simp only [bq, ne_eq] at hc35
     refine W.seq <| W.seq <| W.drawW (T := []) rfl (by decide +kernel) (NoHang.then (NoHang.then (NoHang.block (NoHang.then (NoHang.next (NoHang.block (NoHang.then NoHang.post))))))) (fun w5 hm5 => ?_)
     replace h7 := h7.gr hm5
     replace h9 := h9.gr hm5
     replace hm0 := hm0.trans hm5
     have hS2 : Mod [] w5 w5 := Mod.refl _ _
     clear hm5
     refine D.take 0 rfl (by decide +kernel) (fun w_ hS => (R1.move rfl)) hS2 rfl <| D.take 1 rfl (by decide +kernel) (fun w_ hS => (R1.move rfl)) hS2 rfl <| D.take 2 rfl (by decide +kernel) (fun w_ hS => (R1.atU (j := (m - 1)) rfl rfl (U32.gr (by assumption) hS) tyS33 (by omega) (by omega))) hS2 rfl <| D.take 3 rfl (by decide +kernel) (fun w_ hS => (R1.ldU rfl (U32.gr (by assumption) hS) tyP60 (by omega) rfl)) hS2 rfl <| D.take 4 rfl (by decide +kernel) (fun w_ hS => (R1.move rfl)) hS2 rfl <| D.take 5 rfl (by decide +kernel) (fun w_ hS => (R1.move rfl)) hS2 rfl <| D.take 6 rfl (by decide +kernel) (fun w_ hS => (R1.atU (j := (m - 1)) rfl rfl (U32.gr (by assumption) hS) tyS33 (by omega) (by omega))) hS2 rfl <| D.take 7 rfl (by decide +kernel) (fun w_ hS => (R1.ldU rfl (U32.gr (by assumption) hS) tyP60 (by omega) rfl)) hS2 rfl <| D.take 8 rfl (by decide +kernel) (fun w_ hS => (R1.lt rfl rfl)) hS2 rfl <| D.done (by decide +kernel) ?_ _
     refine X.seq <| W.cond rfl ?_ ?_
     ·
      intro hc44
      try simp only [bq, ne_eq] at hc44
      refine W.seq <| W.region <| L.v (R1.assign rfl) rfl <| L.nil <| X.seq <| W.ret <| X.thenRet <| X.blockRet <| X.thenRet <| X.nextRet <| X.blockRet ?_
      refine X.thenRet <| X.result1 rfl (.tmp rfl .nil) <| ⟨?_, hm0⟩
      have hz := val_lt_of_top (xs := toL (val xs)) (ys := toL (val ys)) (j := m - 1) (toL_lt _) (by omega) (by omega) (by rw [Nat.sub_add_cancel hm1]; exact hd) (by omega)
      rw [val_toL, val_toL] at hz
      rw [cmpI_lt hz]
     ·
      intro hc44
      try simp only [bq, ne_eq] at hc44
      refine W.skip <| X.seq <| W.seq <| W.region <| L.v (R1.assign rfl) rfl <| L.nil <| X.seq <| W.ret <| X.blockRet <| X.thenRet <| X.nextRet ?_
      refine X.blockRet <| X.thenRet <| X.result1 rfl (.tmp rfl .nil) <| ⟨?_, hm0⟩
      have hz := val_lt_of_top (xs := toL (val ys)) (ys := toL (val xs)) (j := m - 1) (toL_lt _) (by omega) (by omega) (by rw [Nat.sub_add_cancel hm1]; exact hd.symm) (by omega)
      rw [val_toL, val_toL] at hz
      rw [cmpI_gt hz]
    ·
     intro hc35
     try simp only [bq, ne_eq] at hc35
     refine W.skip <| X.blockEnd <| X.seq <| W.region <| L.v (R1.move rfl) rfl <| L.v ((R1.sub rfl rfl).as (j := ((m - 1 : Nat) : Int) - 1) (by rw [wrap_i64 (by omega) (by omega)]; omega)) rfl <| L.v (R1.assign rfl) rfl <| L.nil <| X.next (m - 1) ?_ ?_ ?_
     · exact ⟨rfl, rfl, rfl, trivial⟩
     ·
      exact ⟨by omega, drop_step (by omega) (by omega) (by omega) hd (by omega), h7, h9, hm0⟩
     · first | omega | (dsimp only; omega)
   ·
    intro hc24
    try simp only [bq, ne_eq] at hc24
    refine W.exit <| X.thenExit <| X.nextExit <| X.here <| X.seq <| W.seq <| W.region <| L.v (R1.assign rfl) rfl <| L.nil <| X.seq <| W.ret ?_
    refine X.result1 rfl (.tmp rfl .nil) <| ⟨?_, hm0⟩
    have h0 : m = 0 := by omega
    rw [h0, List.drop_zero, List.drop_zero] at hd
    rw [cmpI_eq (toL_inj hd)]

end Go.Proofs.Ytfpipaoobmcomaa
