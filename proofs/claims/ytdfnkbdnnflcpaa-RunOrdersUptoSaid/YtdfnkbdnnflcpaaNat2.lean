/- Walks: what the functions compute. -/
import Derived.Test.YtdfnkbdnnflcpaaNat1
import Derived.Test.YtdfnkbdnnflcpaaMore
import Derived.Test.YtdfnkbdnnflcpaaNum
namespace Go.Proofs.Ytdfnkbdnnflcpaa
open Go.RowKit
set_option linter.unusedVariables false
set_option linter.unusedSimpArgs false
set_option maxRecDepth 10000

theorem fill2u (a b : Int) : Instr.fill (fun i => some (i * 1, 1)) ((Array.range (2 * 1)).map ((Value.int .u32 0).cells[· % (Value.int .u32 0).cells.size]!)) [(0, .int .u32 a), (1, .int .u32 b)] = some #[.int .u32 a, .int .u32 b] := by kernel_rfl

theorem c_nat_Of {M : List Nat} {w : World} {n : Nat} (hn : n < 18446744073709551616) (hbd : Bd M w) :
    Ret Try.prog 59 #[.int .u64 (n : Int)] w (fun r w' => U32 M w' r (toL n) ∧ Mod [] w w') := by
 have hbd0 := hbd
 refine Ret.of (vs := [.int .u64 (n : Int)]) (n := 10) Try.func59 rfl rfl rfl rfl ?_
 have hm0 : Mod [] w w := Mod.refl _ _
 refine W.seq <| W.region <| L.v (R1.assign rfl) rfl <| L.nil <| X.seq <| W.seq <| W.region <| L.v (R1.move rfl) rfl <| L.v (R1.convLW rfl tyI76 tyI68) rfl <| L.v (R1.move rfl) rfl <| L.v (R1.shr32 rfl rfl) rfl ?_
 refine L.v (R1.convLW rfl tyI76 tyI68) rfl <| L.buildSlice (cells := [.int .u32 ((n % 4294967296 : Nat) : Int), .int .u32 ((n / 4294967296 % 4294967296 : Nat) : Int)]) rfl tyS39 tyZ68 (fill2u _ _) (by decide) (by decide) rfl ?_
 intro g8 w1 hN8
 have hge_g8 := New.ge hN8 hm0.size
 replace hm0 := hm0.trans (hN8.mod.mono (by simp))
 have hb8 := hN8.blk
 clear hN8
 have hU : U32 M w1 (.slice (some ⟨g8, 0, none⟩) 2 2) [n % 4294967296, n / 4294967296 % 4294967296] := U32.of_blk (xs := [n % 4294967296, n / 4294967296 % 4294967296]) hb8 (hbd0.not hge_g8) (by show (2 : Nat) ≤ maxLen; decide) (by simp; omega)
 refine L.call rfl (c_nat_trim (by assumption)) rfl ?_
 rintro v9 w2 ⟨h9, hm2⟩
 replace hm0 := hm0.trans hm2
 clear hm2
 refine L.v (R1.assign rfl) rfl <| L.nil <| X.seq <| W.ret <| X.result1 rfl (.tmp rfl .nil) ?_
 exact ⟨by rw [val_two n hn] at h9; exact h9, hm0⟩

theorem c_nat_Cmp {M : List Nat} {w : World} {va vb : Value} {xs ys : List Nat} (h : U32 M w va xs) (k : U32 M w vb ys) :
    Ret Try.prog 81 #[va, vb] w (fun r w' => r = .int .i64 (cmpI (val xs) (val ys)) ∧ Mod [] w w') := by
 refine Ret.of (vs := [va, vb]) (n := 45) Try.func81 rfl rfl rfl rfl ?_
 have hm0 : Mod [] w w := Mod.refl _ _
 refine W.seq <| W.region <| L.v (R1.assign rfl) rfl <| L.nil <| X.seq <| W.seq <| W.region <| L.v (R1.move rfl) rfl <| L.call rfl (c_nat_trim (by assumption)) rfl ?_
 rintro v7 w1 ⟨h7, hm1⟩
 replace h := h.gr hm1
 replace k := k.gr hm1
 replace hm0 := hm0.trans hm1
 clear hm1
 refine L.v (R1.move rfl) rfl <| L.call rfl (c_nat_trim (by assumption)) rfl ?_
 rintro v9 w2 ⟨h9, hm2⟩
 replace h := h.gr hm2
 replace k := k.gr hm2
 replace hm0 := hm0.trans hm2
 replace h7 := h7.gr hm2
 clear hm2
 refine L.v (R1.assign rfl) rfl <| L.v (R1.assign rfl) rfl <| L.nil <| X.seq <| W.seq <| W.seq ?_
 have hma := h7.1.max; unfold maxLen at hma
 have hmb := h9.1.max; unfold maxLen at hmb
 refine W.region <| L.v (R1.move rfl) rfl <| L.v (R1.lenU rfl (by assumption) tyS39) rfl <| L.v (R1.move rfl) rfl <| L.v (R1.lenU rfl (by assumption) tyS39) rfl <| L.v (R1.ne rfl rfl) rfl <| L.nil <| X.seq <| W.cond rfl ?_ ?_
 ·
  intro hc14
  try simp only [bq, ne_eq] at hc14
  refine W.seq <| W.seq <| W.region <| L.v (R1.move rfl) rfl <| L.v (R1.lenU rfl (by assumption) tyS39) rfl <| L.v (R1.move rfl) rfl <| L.v (R1.lenU rfl (by assumption) tyS39) rfl <| L.v (R1.lt rfl rfl) rfl <| L.nil <| X.seq <| W.cond rfl ?_ ?_
  ·
   intro hc19
   try simp only [bq, ne_eq] at hc19
   refine W.seq <| W.region <| L.v (R1.assign rfl) rfl <| L.nil <| X.seq <| W.ret <| X.thenRet <| X.thenRet <| X.result1 rfl (.tmp rfl .nil) ?_
   exact ⟨by rw [cmpI_lt (lt_of_toL_len (by omega))], hm0⟩
  ·
   intro hc19
   try simp only [bq, ne_eq] at hc19
   refine W.skip <| X.seq <| W.seq <| W.region <| L.v (R1.assign rfl) rfl <| L.nil <| X.seq <| W.ret <| X.thenRet <| X.result1 rfl (.tmp rfl .nil) ?_
   exact ⟨by rw [cmpI_gt (lt_of_toL_len (by omega))], hm0⟩
 ·
  intro hc14
  try simp only [bq, ne_eq] at hc14
  have hlen : (toL (val xs)).length = (toL (val ys)).length := by omega
  refine W.skip <| X.seq <| W.seq <| W.seq <| W.region <| L.v (R1.move rfl) rfl <| L.v (R1.lenU rfl (by assumption) tyS39) rfl <| L.v ((R1.sub rfl rfl).as (wrap_i64 (by omega) (by omega))) rfl <| L.v (R1.assign rfl) rfl <| L.nil <| X.seq ?_
  refine W.block <| W.loop (ι := Nat) (fun m => [(0, v7), (1, v9), (5, .int .i64 ((m : Int) - 1))]) (fun m w_ => m ≤ (toL (val xs)).length ∧ (toL (val xs)).drop m = (toL (val ys)).drop m ∧ U32 M w_ v7 (toL (val xs)) ∧ U32 M w_ v9 (toL (val ys)) ∧ Mod [] w w_) (fun m => m) (toL (val xs)).length ?_ ?_ ?_
  · exact ⟨rfl, rfl, rfl, trivial⟩
  ·
   exact ⟨Nat.le_refl _, by rw [List.drop_of_length_le (Nat.le_refl _), List.drop_of_length_le (by omega)], h7, h9, hm0⟩
  ·
   rintro m w3 ⟨hm, hd, h7, h9, hm0⟩
   refine W.seq <| W.seq <| W.region <| L.v (R1.move rfl) rfl <| L.v (R1.ge rfl rfl) rfl <| L.nil <| X.seq <| W.cond rfl ?_ ?_
   ·
    intro hc24
    try simp only [bq, ne_eq] at hc24
    have hm1 : 0 < m := by omega
    refine W.skip <| X.seq <| W.seq <| W.block <| W.seq <| W.drawW (T := []) rfl (by decide +kernel) (NoHang.then (NoHang.block (NoHang.then (NoHang.next (NoHang.block (NoHang.then NoHang.post)))))) (fun w4 hm4 => ?_)
    replace h7 := h7.gr hm4
    replace h9 := h9.gr hm4
    replace hm0 := hm0.trans hm4
    have hS1 : Mod [] w4 w4 := Mod.refl _ _
    clear hm4
    refine D.take 0 rfl (by decide +kernel) (fun w_ hS => (R1.move rfl)) hS1 rfl <| D.take 1 rfl (by decide +kernel) (fun w_ hS => (R1.move rfl)) hS1 rfl <| D.take 2 rfl (by decide +kernel) (fun w_ hS => (R1.atU (j := (m - 1)) rfl rfl (U32.gr (by assumption) hS) tyS39 (by omega) (by omega))) hS1 rfl <| D.take 3 rfl (by decide +kernel) (fun w_ hS => (R1.ldU rfl (U32.gr (by assumption) hS) tyP68 (by omega) rfl)) hS1 rfl <| D.take 4 rfl (by decide +kernel) (fun w_ hS => (R1.move rfl)) hS1 rfl <| D.take 5 rfl (by decide +kernel) (fun w_ hS => (R1.move rfl)) hS1 rfl <| D.take 6 rfl (by decide +kernel) (fun w_ hS => (R1.atU (j := (m - 1)) rfl rfl (U32.gr (by assumption) hS) tyS39 (by omega) (by omega))) hS1 rfl <| D.take 7 rfl (by decide +kernel) (fun w_ hS => (R1.ldU rfl (U32.gr (by assumption) hS) tyP68 (by omega) rfl)) hS1 rfl <| D.take 8 rfl (by decide +kernel) (fun w_ hS => (R1.ne rfl rfl)) hS1 rfl <| D.done (by decide +kernel) ?_ _
    refine X.seq <| W.cond rfl ?_ ?_
    ·
     intro hc35
     try simp only [bq, ne_eq] at hc35
     refine W.seq <| W.seq <| W.drawW (T := []) rfl (by decide +kernel) (NoHang.then (NoHang.then (NoHang.block (NoHang.then (NoHang.next (NoHang.block (NoHang.then NoHang.post))))))) (fun w5 hm5 => ?_)
     replace h7 := h7.gr hm5
     replace h9 := h9.gr hm5
     replace hm0 := hm0.trans hm5
     have hS2 : Mod [] w5 w5 := Mod.refl _ _
     clear hm5
     refine D.take 0 rfl (by decide +kernel) (fun w_ hS => (R1.move rfl)) hS2 rfl <| D.take 1 rfl (by decide +kernel) (fun w_ hS => (R1.move rfl)) hS2 rfl <| D.take 2 rfl (by decide +kernel) (fun w_ hS => (R1.atU (j := (m - 1)) rfl rfl (U32.gr (by assumption) hS) tyS39 (by omega) (by omega))) hS2 rfl <| D.take 3 rfl (by decide +kernel) (fun w_ hS => (R1.ldU rfl (U32.gr (by assumption) hS) tyP68 (by omega) rfl)) hS2 rfl <| D.take 4 rfl (by decide +kernel) (fun w_ hS => (R1.move rfl)) hS2 rfl <| D.take 5 rfl (by decide +kernel) (fun w_ hS => (R1.move rfl)) hS2 rfl <| D.take 6 rfl (by decide +kernel) (fun w_ hS => (R1.atU (j := (m - 1)) rfl rfl (U32.gr (by assumption) hS) tyS39 (by omega) (by omega))) hS2 rfl <| D.take 7 rfl (by decide +kernel) (fun w_ hS => (R1.ldU rfl (U32.gr (by assumption) hS) tyP68 (by omega) rfl)) hS2 rfl <| D.take 8 rfl (by decide +kernel) (fun w_ hS => (R1.lt rfl rfl)) hS2 rfl <| D.done (by decide +kernel) ?_ _
     refine X.seq <| W.cond rfl ?_ ?_
     ·
      intro hc44
      try simp only [bq, ne_eq] at hc44
      refine W.seq <| W.region <| L.v (R1.assign rfl) rfl <| L.nil <| X.seq <| W.ret <| X.thenRet <| X.blockRet <| X.thenRet <| X.nextRet <| X.blockRet ?_
      refine X.thenRet <| X.result1 rfl (.tmp rfl .nil) <| ⟨?_, hm0⟩
      have hz := val_lt_of_top (xs := toL (val xs)) (ys := toL (val ys)) (j := m - 1) (toL_lt _) (by omega) (by omega) (by rw [Nat.sub_add_cancel hm1]; exact hd) (by omega)
      rw [val_toL, val_toL] at hz
      rw [cmpI_lt hz]
     ·
      intro hc44
      try simp only [bq, ne_eq] at hc44
      refine W.skip <| X.seq <| W.seq <| W.region <| L.v (R1.assign rfl) rfl <| L.nil <| X.seq <| W.ret <| X.blockRet <| X.thenRet <| X.nextRet ?_
      refine X.blockRet <| X.thenRet <| X.result1 rfl (.tmp rfl .nil) <| ⟨?_, hm0⟩
      have hz := val_lt_of_top (xs := toL (val ys)) (ys := toL (val xs)) (j := m - 1) (toL_lt _) (by omega) (by omega) (by rw [Nat.sub_add_cancel hm1]; exact hd.symm) (by omega)
      rw [val_toL, val_toL] at hz
      rw [cmpI_gt hz]
    ·
     intro hc35
     try simp only [bq, ne_eq] at hc35
     refine W.skip <| X.blockEnd <| X.seq <| W.region <| L.v (R1.move rfl) rfl <| L.v ((R1.sub rfl rfl).as (j := ((m - 1 : Nat) : Int) - 1) (by rw [wrap_i64 (by omega) (by omega)]; omega)) rfl <| L.v (R1.assign rfl) rfl <| L.nil <| X.next (m - 1) ?_ ?_ ?_
     · exact ⟨rfl, rfl, rfl, trivial⟩
     ·
      exact ⟨by omega, drop_step (by omega) (by omega) (by omega) hd (by omega), h7, h9, hm0⟩
     · first | omega | (dsimp only; omega)
   ·
    intro hc24
    try simp only [bq, ne_eq] at hc24
    refine W.exit <| X.thenExit <| X.nextExit <| X.here <| X.seq <| W.seq <| W.region <| L.v (R1.assign rfl) rfl <| L.nil <| X.seq <| W.ret ?_
    refine X.result1 rfl (.tmp rfl .nil) <| ⟨?_, hm0⟩
    have h0 : m = 0 := by omega
    rw [h0, List.drop_zero, List.drop_zero] at hd
    rw [cmpI_eq (toL_inj hd)]

theorem c_nat_Add {M : List Nat} {w : World} {va vb : Value} {xs ys : List Nat} (h : U32 M w va xs) (k : U32 M w vb ys) (hbd : Bd M w) (hl1 : xs.length ≤ 1099511627776) (hl2 : ys.length ≤ 1099511627776) :
    Ret Try.prog 63 #[va, vb] w (fun r w' => U32 M w' r (toL (val xs + val ys)) ∧ Mod [] w w') := by
 have hbd0 := hbd
 have hla := toL_len_40 h.2 hl1
 have hlb := toL_len_40 k.2 hl2
 refine Ret.of (vs := [va, vb]) (n := 62) Try.func63 rfl rfl rfl rfl ?_
 have hm0 : Mod [] w w := Mod.refl _ _
 refine W.seq <| W.region <| L.v (R1.assign rfl) rfl <| L.nil <| X.seq <| W.seq <| W.region <| L.v (R1.move rfl) rfl <| L.call rfl (c_nat_trim (by assumption)) rfl ?_
 rintro v10 w1 ⟨h10, hm1⟩
 replace h := h.gr hm1
 replace k := k.gr hm1
 replace hm0 := hm0.trans hm1
 clear hm1
 refine L.v (R1.move rfl) rfl <| L.call rfl (c_nat_trim (by assumption)) rfl ?_
 rintro v12 w2 ⟨h12, hm2⟩
 replace h := h.gr hm2
 replace k := k.gr hm2
 replace hm0 := hm0.trans hm2
 replace h10 := h10.gr hm2
 clear hm2
 refine L.v (R1.assign rfl) rfl <| L.v (R1.assign rfl) rfl <| L.nil <| X.seq <| W.seq <| W.seq <| W.region <| L.v (R1.move rfl) rfl <| L.v (R1.lenU rfl (by assumption) tyS39) rfl <| L.v (R1.move rfl) rfl <| L.v (R1.lenU rfl (by assumption) tyS39) rfl ?_
 refine L.v (R1.lt rfl rfl) rfl <| L.nil <| X.seq <| W.cut (ι := List Nat × List Nat × Value × Value) (fun (es, bs, u1, u2) => [(0, u1), (1, u2)]) (fun (es, bs, u1, u2) w_ => U32 M w_ u1 es ∧ U32 M w_ u2 bs ∧ bs.length ≤ es.length ∧ val es + val bs = val xs + val ys ∧ es.length ≤ 1099511627776 ∧ Mod [] w w_) ?_ ?_
 ·
  refine W.cond rfl ?_ ?_
  ·
   intro hc17
   try simp only [bq, ne_eq] at hc17
   refine W.region <| L.v (R1.move rfl) rfl <| L.v (R1.move rfl) rfl <| L.v (R1.assign rfl) rfl <| L.v (R1.assign rfl) rfl <| L.nil <| X.join (toL (val ys), toL (val xs), v12, v10) ?_ ?_
   · exact ⟨rfl, rfl, trivial⟩
   ·
    exact ⟨h12, h10, by omega, by rw [val_toL, val_toL, Nat.add_comm], hlb, hm0⟩
  ·
   intro hc17
   try simp only [bq, ne_eq] at hc17
   refine W.skip <| X.join (toL (val xs), toL (val ys), v10, v12) ?_ ?_
   · exact ⟨rfl, rfl, trivial⟩
   ·
    exact ⟨h10, h12, by omega, by rw [val_toL, val_toL], hla, hm0⟩
 ·
  rintro ⟨es, bs, u1, u2⟩ wj ⟨h, k2, hle, hv, hla, hm0⟩
  refine X.seq <| W.seq <| W.region <| L.v (R1.move rfl) rfl <| L.v (R1.lenU rfl (by assumption) tyS39) rfl <| L.v (R1.addI (b := 1) rfl rfl (by omega)) rfl <| L.makeSlice (m := (es.length + 1)) rfl rfl rfl rfl tyS39 tyZ68 (by omega) (by unfold maxLen; omega) rfl ?_
  intro g23 w3 hN23
  replace h := h.new hN23
  replace k2 := k2.new hN23
  have hge_g23 := New.ge hN23 hm0.size
  replace hm0 := hm0.trans (hN23.mod.mono (by simp))
  have hb23 := hN23.blk
  clear hN23
  rw [uarr_made] at hb23
  refine L.v (R1.assign rfl) rfl <| L.nil <| X.seq <| W.seq <| W.region <| L.v (R1.assign rfl) rfl <| L.nil <| X.seq <| W.seq <| W.seq <| W.region ?_
  refine L.v (R1.move rfl) rfl <| L.v (R1.lenU rfl (by assumption) tyS39) rfl <| L.v (R1.move rfl) rfl <| L.nil <| X.seq <| W.block <| W.loop (ι := Nat × Nat × List Nat) (fun (k, cy, cs) => [(0, u1), (1, u2), (5, .slice (some ⟨g23, 0, none⟩) (es.length + 1) (es.length + 1)), (6, .int .u64 (cy : Int)), (24, u1), (25, .int .i64 (es.length : Int)), (26, .int .i64 (k : Int))]) (fun (k, cy, cs) w_ => k ≤ es.length ∧ cs.length = es.length + 1 ∧ (∀ x ∈ cs, x < 4294967296) ∧ cy ≤ 1 ∧ val (cs.take k) + 4294967296 ^ k * cy = val (es.take k) + val (bs.take k) ∧ Blk w_ g23 68 (uarr cs) ∧ U32 (g23 :: M) w_ u1 es ∧ U32 (g23 :: M) w_ u2 bs ∧ Mod [] w w_) (fun (k, cy, cs) => es.length - k) (0, 0, List.replicate (es.length + 1) 0) ?_ ?_ ?_
  · exact ⟨rfl, rfl, rfl, rfl, rfl, rfl, rfl, trivial⟩
  ·
   exact ⟨Nat.zero_le _, by simp, rep_lt _, by omega, by simp [val], hb23, h, k2, hm0⟩
  ·
   rintro ⟨k, cy, cs⟩ w4 ⟨hk, hcl, hcx, hcy, hv2, hb23, h, k2, hm0⟩
   refine W.seq <| W.region <| L.v (R1.lt rfl rfl) rfl <| L.nil <| X.seq <| W.seq <| W.cond rfl ?_ ?_
   ·
    intro hc27
    try simp only [bq, ne_eq] at hc27
    have hk1 : k < es.length := by omega
    have hak := h.lt hk1
    refine W.skip <| X.seq <| W.seq <| W.block <| W.seq <| W.region <| L.v (R1.move rfl) rfl <| L.v (R1.atU (j := k) rfl rfl (by assumption) tyS39 rfl (by omega)) rfl <| L.v (R1.ldU rfl (by assumption) tyP68 (by omega) rfl) rfl <| L.v (R1.assign rfl) rfl <| L.v (R1.assign rfl) rfl ?_
    refine L.nil <| X.seq <| W.seq <| W.region <| L.v (R1.move rfl) rfl <| L.v (R1.move rfl) rfl <| L.v (R1.convWL rfl tyI68 tyI76 (by omega)) rfl <| L.v (R1.addL rfl rfl (by omega)) rfl <| L.v (R1.assign rfl) rfl <| L.nil <| X.seq ?_
    refine W.seq <| W.seq <| W.region <| L.v (R1.move rfl) rfl <| L.v (R1.move rfl) rfl <| L.v (R1.lenU rfl (by assumption) tyS39) rfl <| L.v (R1.lt rfl rfl) rfl <| L.nil <| X.seq <| W.cut (ι := Nat) (fun t => [(0, u1), (1, u2), (5, .slice (some ⟨g23, 0, none⟩) (es.length + 1) (es.length + 1)), (6, .int .u64 (t : Int)), (7, .int .i64 (k : Int)), (24, u1), (25, .int .i64 (es.length : Int)), (26, .int .i64 (k : Int))]) (fun t w_ => t = cy + es[k] + bs.getD k 0 ∧ Blk w_ g23 68 (uarr cs) ∧ U32 (g23 :: M) w_ u1 es ∧ U32 (g23 :: M) w_ u2 bs ∧ Mod [] w w_) ?_ ?_
    ·
     refine W.cond rfl ?_ ?_
     ·
      intro hc38
      try simp only [bq, ne_eq] at hc38
      have hk2 : k < bs.length := by omega
      have hbk := k2.lt hk2
      refine W.region <| L.v (R1.move rfl) rfl <| L.v (R1.move rfl) rfl <| L.v (R1.move rfl) rfl <| L.v (R1.atU (j := k) rfl rfl (by assumption) tyS39 rfl (by omega)) rfl <| L.v (R1.ldU rfl (by assumption) tyP68 (by omega) rfl) rfl <| L.v (R1.convWL rfl tyI68 tyI76 (by omega)) rfl <| L.v (R1.addL rfl rfl (by omega)) rfl <| L.v (R1.assign rfl) rfl <| L.nil <| X.join (cy + es[k] + bs[k]) ?_ ?_
      · exact ⟨rfl, rfl, rfl, rfl, rfl, rfl, rfl, rfl, trivial⟩
      ·
       exact ⟨by simp [hk2], hb23, h, k2, hm0⟩
     ·
      intro hc38
      try simp only [bq, ne_eq] at hc38
      refine W.skip <| X.join (cy + es[k]) ?_ ?_
      · exact ⟨rfl, rfl, rfl, rfl, rfl, rfl, rfl, rfl, trivial⟩
      ·
       exact ⟨by simp [List.getD_eq_getElem?_getD, List.getElem?_eq_none (show bs.length ≤ k by omega)], hb23, h, k2, hm0⟩
    ·
     rintro t wk ⟨ht, hb23, h, k2, hm0⟩
     have hbk : bs.getD k 0 < 4294967296 := by
         rcases Nat.lt_or_ge k bs.length with h1 | h1
         · simp only [List.getD_eq_getElem?_getD, List.getElem?_eq_getElem h1, Option.getD_some]; exact k2.lt h1
         · simp [h1]
     refine X.seq <| W.seq <| W.region <| L.v (R1.move rfl) rfl <| L.v (R1.move rfl) rfl <| L.v (R1.move rfl) rfl <| L.v (R1.convLW rfl tyI76 tyI68) rfl <| L.v (R1.atO (j := k) rfl rfl tyS39 rfl (by omega)) rfl <| L.storeU rfl rfl hb23 (by omega) tyP68 ?_
     intro w5 hb23' hm5
     replace h := h.mod hm5 (by simp)
     replace k2 := k2.mod hm5 (by simp)
     replace hm0 := hm0.old1 hm5 hge_g23
     clear hm5
     replace hb23 := hb23'; clear hb23'
     refine L.nil <| X.seq <| W.region <| L.v (R1.move rfl) rfl <| L.v (R1.shr32 rfl rfl) rfl <| L.v (R1.assign rfl) rfl <| L.nil <| X.blockEnd <| X.seq <| W.region <| L.v (R1.addI (b := 1) rfl rfl (by omega)) rfl ?_
     refine L.v (R1.move rfl) rfl <| L.nil <| X.next (k + 1, t / 4294967296, cs.set k (t % 4294967296)) ?_ ?_ ?_
     · exact ⟨rfl, rfl, rfl, rfl, rfl, rfl, rfl, trivial⟩
     ·
      refine ⟨by omega, by simpa using hcl, set_lt hcx (Nat.mod_lt _ (by decide)), by omega, ?_, hb23, h, k2, hm0⟩
      rw [val_take_set (by omega), val_take_succ hk1, val_take_succD bs, pow_LB_succ]
      have hs := add_step hv2 ht
      rw [Nat.mul_comm (4294967296 ^ k) 4294967296] at hs
      omega
     · first | omega | (dsimp only; omega)
   ·
    intro hc27
    try simp only [bq, ne_eq] at hc27
    obtain rfl : k = es.length := by omega
    rw [List.take_length] at hv2
    rw [val_take_all hle] at hv2
    refine W.exit <| X.thenExit <| X.nextExit <| X.here <| X.seq <| W.seq <| W.region <| L.v (R1.move rfl) rfl <| L.v (R1.move rfl) rfl <| L.v (R1.lenU rfl (by assumption) tyS39) rfl <| L.v (R1.move rfl) rfl ?_
    refine L.v (R1.convLW rfl tyI76 tyI68) rfl <| L.v (R1.atO (j := es.length) rfl rfl tyS39 rfl (by omega)) rfl <| L.storeU rfl rfl hb23 (by omega) tyP68 ?_
    intro w6 hb23' hm6
    replace hm0 := hm0.old1 hm6 hge_g23
    clear hm6
    replace hb23 := hb23'; clear hb23'
    refine L.nil <| X.seq <| W.seq ?_
    have hU : U32 M w6 (.slice (some ⟨g23, 0, none⟩) (es.length + 1) (es.length + 1)) (cs.set es.length (cy % 4294967296)) := by
        have hU := U32.of_blk (M := M) hb23 (hbd0.not hge_g23) (by simp; unfold maxLen; omega) (set_lt hcx (Nat.mod_lt _ (by decide)))
        rw [List.length_set, hcl] at hU; exact hU
    refine W.region <| L.v (R1.move rfl) rfl <| L.call rfl (c_nat_trim hU) rfl ?_
    rintro v61 w7 ⟨h61, hm7⟩
    replace hm0 := hm0.trans hm7
    clear hm7
    refine L.v (R1.assign rfl) rfl <| L.nil <| X.seq <| W.ret <| X.result1 rfl (.tmp rfl .nil) <| ⟨?_, hm0⟩
    have e1 := val_take_set (xs := cs) (k := es.length) (by omega) (cy % 4294967296)
    rw [val_take_all (by simp; omega), Nat.mod_eq_of_lt (show cy < 4294967296 by omega)] at e1
    rw [Nat.mod_eq_of_lt (show cy < 4294967296 by omega), e1, hv2, hv] at h61
    exact h61

end Go.Proofs.Ytdfnkbdnnflcpaa
