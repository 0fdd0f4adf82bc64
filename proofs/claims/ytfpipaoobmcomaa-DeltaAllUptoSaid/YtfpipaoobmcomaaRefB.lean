/- Walks: what the functions compute. -/
import Derived.Test.YtfpipaoobmcomaaRefA
namespace Go.Proofs.Ytfpipaoobmcomaa
open Go.RowKit
set_option linter.unusedVariables false
set_option linter.unusedSimpArgs false
set_option maxRecDepth 10000
theorem c_r1_Shift1 {M : List Nat} {w : World} {v : Value} {xs : List Nat} (h : U32 M w v xs) (hbd : Bd M w) (hl : xs.length ≤ 2199023255560) :
    Ret Try.prog 74 #[v, .int .i64 1] w (fun r w' => U32 M w' r (toL (2 * val xs)) ∧ Mod [] w w') := by
 have hbd0 := hbd
 have hlt := toL_length_val xs h.2
 refine Ret.of (vs := [v, .int .i64 1]) (n := 88) Try.func74 rfl rfl rfl rfl ?_
 have hm0 : Mod [] w w := Mod.refl _ _
 refine W.seq <| W.region <| L.v (R1.assign rfl) rfl <| L.nil <| X.seq <| W.seq <| W.region <| L.v (R1.move rfl) rfl <| L.v ((R1.maxI rfl rfl).as (j := ((1 : Nat) : Int)) (by decide)) rfl <| L.v ((R1.minI rfl rfl).as (j := ((1 : Nat) : Int)) (by decide)) rfl <| L.v (R1.assign rfl) rfl ?_
 refine L.nil <| X.seq <| W.seq <| W.region <| L.v (R1.move rfl) rfl <| L.call rfl (c_r1_Trim (by assumption) (by assumption) (by omega)) rfl ?_
 rintro v19 w1 ⟨h19, hm1⟩
 replace h := h.gr hm1
 replace hbd := hbd.gr hm1
 replace hm0 := hm0.trans hm1
 clear hm1
 refine L.v (R1.assign rfl) rfl <| L.nil <| X.seq <| W.seq <| W.seq <| W.region <| L.v (R1.move rfl) rfl <| L.v ((R1.lt rfl rfl).asB (c := false) (by simp)) rfl <| L.nil <| X.seq <| W.condF rfl ?_
 refine W.skip <| X.seq <| W.seq <| W.region <| L.v (R1.move rfl) rfl <| L.v ((R1.quoI (b := 32) rfl rfl (by omega) (by omega)).as (j := ((0 : Nat) : Int)) (by decide)) rfl <| L.makeSlice (m := 0) rfl rfl rfl rfl tyS33 tyZ60 (by omega) (by unfold maxLen; omega) rfl ?_
 intro g61 w2 hN61
 replace h := h.new hN61
 replace hbd := hbd.new hN61
 have hge_g61 := New.ge hN61 hm0.size
 replace hm0 := hm0.trans (hN61.mod.mono (by simp))
 replace h19 := h19.new hN61
 have hb61 := hN61.blk
 clear hN61
 rw [uarr_made] at hb61
 have ho : World.ownsRow w2 w.heap.size 60 1 (.slice (some ⟨g61, 0, none⟩) 0 0) 0 [] := ⟨rfl, .inr ⟨g61, 0, #[], rfl, hge_g61, hb61, Nat.le_refl _, by decide, rfl, rfl⟩⟩
 clear hb61
 refine L.v (R1.assign rfl) rfl <| L.nil <| X.seq <| W.seq <| W.region <| L.v (R1.move rfl) rfl <| L.v ((R1.remI (b := 32) rfl rfl (by omega)).as (j := ((1 : Nat) : Int)) (by decide)) rfl <| L.v (R1.convIL rfl tyI3 tyI74 (by omega)) rfl <| L.v (R1.assign rfl) rfl <| L.nil <| X.seq ?_
 refine W.seq <| W.region <| L.v (R1.assign rfl) rfl <| L.nil <| X.seq <| W.seq <| W.seq <| W.region <| L.v (R1.assign rfl) rfl <| L.nil <| X.seq ?_
 refine W.block <| W.loop (ι := Nat × Nat × List Nat × Value) (fun (k, lo, cs, u) => [(5, v19), (10, u), (11, .int .u64 1), (12, .int .u64 (lo : Int)), (13, .int .i64 (k : Int))]) (fun (k, lo, cs, u) w_ => k ≤ (toL (val xs)).length + 1 ∧ lo ≤ 1 ∧ cs.length = k ∧ (∀ x ∈ cs, x < 4294967296) ∧ val cs + 4294967296 ^ k * lo = 2 * val ((toL (val xs)).take k) ∧ World.ownsRow w_ w.heap.size 60 1 u cs.length (cs.map fun (x : Nat) => Value.int .u32 (x : Int)) ∧ U32 (ownL u ++ M) w_ v19 (toL (val xs)) ∧ Mod [] w w_) (fun (k, lo, cs, u) => (toL (val xs)).length + 1 - k) (0, 0, [], .slice (some ⟨g61, 0, none⟩) 0 0) ?_ ?_ ?_
 · exact ⟨rfl, rfl, rfl, rfl, rfl, trivial⟩
 ·
  exact ⟨Nat.zero_le _, by decide, rfl, by simp, by simp [val], ho, h19, hm0⟩
 ·
  rintro ⟨k, lo, cs, u⟩ w3 ⟨hk, hlo, hcl, hcx, hv, ho, h19, hm0⟩
  refine W.seq <| W.seq <| W.region <| L.v (R1.move rfl) rfl <| L.v (R1.move rfl) rfl <| L.v (R1.lenU rfl (by assumption) tyS33) rfl <| L.v (R1.addI (b := 1) rfl rfl (by omega)) rfl <| L.v (R1.lt rfl rfl) rfl <| L.nil <| X.seq <| W.cond rfl ?_ ?_
  ·
   intro hc69
   try simp only [bq, ne_eq] at hc69
   have hk1 : k < (toL (val xs)).length + 1 := by omega
   have hxk := getD_lt (toL_lt (val xs)) k
   refine W.skip <| X.seq <| W.seq <| W.block <| W.seq <| W.region <| L.v (R1.move rfl) rfl <| L.v (R1.move rfl) rfl <| L.call rfl (c_r1_at h19) rfl ?_
   rintro _ w4 ⟨rfl, hm4⟩
   replace ho := own_gr ho hm4 (by simp)
   replace h19 := h19.gr hm4
   replace hm0 := hm0.trans hm4
   clear hm4
   refine L.v (R1.move rfl) rfl <| L.v ((R1.shlL (b := 1) rfl rfl (by decide)).as (j := ((2 * (toL (val xs)).getD k 0 : Nat) : Int)) (by rw [Nat.pow_one, Nat.mod_eq_of_lt (by omega), Nat.mul_comm])) rfl <| L.v (R1.assign rfl) rfl <| L.nil <| X.seq <| W.seq <| W.region <| L.v (R1.move rfl) rfl <| L.v (R1.move rfl) rfl <| L.v (R1.move rfl) rfl <| L.v ((R1.orL rfl rfl (by omega) (by omega)).as (j := (((2 * (toL (val xs)).getD k 0 + lo) : Nat) : Int)) (congrArg (fun n : Nat => (n : Int)) (by have := or_add (k := 1) (a := (toL (val xs)).getD k 0) (b := lo) (by omega); rw [Nat.pow_one, Nat.mul_comm] at this; exact this))) rfl ?_
   refine L.v (R1.convLW rfl tyI57 tyI60) rfl <| L.build1 rfl rfl tyS33 tyZ60 rfl ?_
   intro g82 w5 hN82
   replace ho := own_gr ho hN82.mod (by simp)
   replace h19 := h19.gr hN82.mod
   replace hm0 := hm0.trans hN82.mod
   have hrow : Sl [] w5 1 (.slice (some ⟨g82, 0, none⟩) 1 1) 1 [.int .u32 (((2 * (toL (val xs)).getD k 0 + lo) % 4294967296 : Nat) : Int)] := Sl.row1 hN82.blk (by simp)
   clear hN82
   refine L.append rfl rfl ho hrow (by simp [Value.oneCell']) tyS33 tyZ60 (by omega) (by unfold maxLen; omega) hm0.size rfl ?_
   intro v83 w6 ho83' hG83
   replace h19 := h19.grew hG83
   replace hm0 := hm0.grew hG83 (fun g hg => (own_ge ho g hg).1)
   clear ho
   have ho83 := ho83'; clear ho83'
   obtain ⟨A83, c83, rfl⟩ := own_form ho83
   refine L.v (R1.assign rfl) rfl <| L.nil <| X.seq <| W.region <| L.v (R1.move rfl) rfl <| L.v (R1.shr32 rfl rfl) rfl <| L.v (R1.assign rfl) rfl <| L.nil <| X.blockEnd <| X.seq <| W.region ?_
   refine L.v (R1.move rfl) rfl <| L.v (R1.addI (b := 1) rfl rfl (by omega)) rfl <| L.v (R1.assign rfl) rfl <| L.nil <| X.next (k + 1, 2 * (toL (val xs)).getD k 0 / 4294967296, cs ++ [(2 * (toL (val xs)).getD k 0 + lo) % 4294967296], .slice A83 (cs.length + 1) c83) ?_ ?_ ?_
   · exact ⟨rfl, rfl, rfl, rfl, rfl, trivial⟩
   ·
    refine ⟨by omega, by omega, by simp; omega, snoc_lt hcx (Nat.mod_lt _ (by decide)), ?_, by simpa using ho83, h19, hm0⟩
    rw [val_snoc, hcl, val_take_succD, pow_LB_succ]
    exact shl1_step hv (by omega)
   · first | omega | (dsimp only; omega)
  ·
   intro hc69
   try simp only [bq, ne_eq] at hc69
   have hk1 : k = (toL (val xs)).length + 1 := by omega
   refine W.exit <| X.thenExit <| X.nextExit <| X.here <| X.seq <| W.seq ?_
   have hU : U32 M w3 _ cs := ⟨Sl.of_own ho (fun g hg => hbd0.not (own_ge ho g hg).1), hcx⟩
   have hbdw := hbd0.gr hm0
   refine W.region <| L.v (R1.move rfl) rfl <| L.call rfl (c_r1_Trim hU hbdw (by omega)) rfl ?_
   rintro v87 w7 ⟨h87, hm7⟩
   replace hm0 := hm0.trans hm7
   clear hm7
   refine L.v (R1.assign rfl) rfl <| L.nil <| X.seq <| W.ret <| X.result1 rfl (.tmp rfl .nil) <| ⟨?_, hm0⟩
   rw [val_take_all (by omega)] at hv
   have hc0 := carry0 hv (by rw [hk1]; exact two_val (toL_lt _))
   rw [hc0, Nat.mul_zero, Nat.add_zero, val_toL] at hv
   rw [hv] at h87
   exact h87

theorem c_r1_small {M : List Nat} {w : World} {va : Value} {xs : List Nat} {b : Nat} (h : U32 M w va xs) (hb0 : 0 < b) (hb : b < 4294967296) (hbd : Bd M w) (hl : xs.length ≤ 2199023255560) :
    Ret Try.prog 73 #[va, .int .u64 (b : Int)] w (fun r w' => ∃ v, r = .tuple #[v, .int .u64 ((val xs % b : Nat) : Int)] ∧ U32 M w' v (toL (val xs / b)) ∧ Mod [] w w') := by
 have hbd0 := hbd
 refine Ret.of (vs := [va, .int .u64 (b : Int)]) (n := 40) Try.func73 rfl rfl rfl rfl ?_
 have hm0 : Mod [] w w := Mod.refl _ _
 refine W.seq <| W.region <| L.v (R1.assign rfl) rfl <| L.v (R1.assign rfl) rfl <| L.nil <| X.seq <| W.seq <| W.region <| L.v (R1.move rfl) rfl <| L.v (R1.lenU rfl (by assumption) tyS33) rfl <| L.makeSlice (m := xs.length) rfl rfl rfl rfl tyS33 tyZ60 (by omega) (by unfold maxLen; omega) rfl ?_
 intro g11 w1 hN11
 replace h := h.new hN11
 have hge_g11 := New.ge hN11 hm0.size
 replace hm0 := hm0.trans (hN11.mod.mono (by simp))
 have hb11 := hN11.blk
 clear hN11
 rw [uarr_made] at hb11
 refine L.v (R1.assign rfl) rfl <| L.nil <| X.seq <| W.seq <| W.region <| L.v (R1.assign rfl) rfl <| L.nil <| X.seq <| W.seq <| W.seq <| W.region ?_
 refine L.v (R1.move rfl) rfl <| L.v (R1.lenU rfl (by assumption) tyS33) rfl <| L.v ((R1.sub rfl rfl).as (wrap_i64 (by omega) (by omega))) rfl <| L.v (R1.assign rfl) rfl <| L.nil <| X.seq <| W.block <| W.loop (ι := Nat × Nat × List Nat) (fun (m, r, q) => [(0, va), (1, .int .u64 (b : Int)), (6, .slice (some ⟨g11, 0, none⟩) xs.length xs.length), (7, .int .u64 (r : Int)), (8, .int .i64 ((m : Int) - 1))]) (fun (m, r, q) w_ => m ≤ xs.length ∧ q.length = xs.length ∧ (∀ x ∈ q, x < 4294967296) ∧ r < b ∧ val (xs.drop m) = b * val (q.drop m) + r ∧ Blk w_ g11 60 (uarr q) ∧ U32 (g11 :: M) w_ va xs ∧ Mod [] w w_) (fun (m, r, q) => m) (xs.length, 0, List.replicate xs.length 0) ?_ ?_ ?_
 · exact ⟨rfl, rfl, rfl, rfl, rfl, trivial⟩
 ·
  exact ⟨Nat.le_refl _, by simp, rep_lt _, hb0, by simp [val], hb11, h, hm0⟩
 ·
  rintro ⟨m, r, q⟩ w2 ⟨hm, hql, hqx, hr, hv, hb11, h, hm0⟩
  refine W.seq <| W.seq <| W.region <| L.v (R1.move rfl) rfl <| L.v (R1.ge rfl rfl) rfl <| L.nil <| X.seq <| W.cond rfl ?_ ?_
  ·
   intro hc16
   try simp only [bq, ne_eq] at hc16
   have hm1 : 0 < m := by omega
   have hxm := h.lt (show m - 1 < xs.length by omega)
   have hq : (r * 4294967296 + xs[m - 1]) / b < 4294967296 := by rw [Nat.div_lt_iff_lt_mul (by omega)]; omega
   refine W.skip <| X.seq <| W.seq <| W.block <| W.seq <| W.region <| L.v (R1.move rfl) rfl <| L.v (R1.shl32 rfl rfl (by omega)) rfl <| L.v (R1.move rfl) rfl <| L.v (R1.move rfl) rfl <| L.v (R1.atU (j := (m - 1)) rfl rfl (by assumption) tyS33 (by omega) (by omega)) rfl ?_
   refine L.v (R1.ldU rfl (by assumption) tyP60 (by omega) rfl) rfl <| L.v (R1.convWL rfl tyI60 tyI57 (by omega)) rfl <| L.v ((R1.orL rfl rfl (by omega) (by omega)).as (j := (((r * 4294967296 + xs[m - 1]) : Nat) : Int)) (congrArg (fun n : Nat => (n : Int)) (or32 hxm))) rfl <| L.v (R1.assign rfl) rfl <| L.nil <| X.seq <| W.seq <| W.region <| L.v (R1.move rfl) rfl <| L.v (R1.move rfl) rfl <| L.v (R1.move rfl) rfl ?_
   refine L.v (R1.move rfl) rfl <| L.v (R1.quoL rfl rfl (by omega) (by omega)) rfl <| L.v ((R1.convLW rfl tyI57 tyI60).as (j := (((r * 4294967296 + xs[m - 1]) / b : Nat) : Int)) (by rw [Nat.mod_eq_of_lt hq])) rfl <| L.v (R1.atO (j := (m - 1)) rfl rfl tyS33 (by omega) (by omega)) rfl <| L.storeU rfl rfl hb11 (by omega) tyP60 ?_
   intro w3 hb11' hm3
   replace h := h.mod hm3 (by simp)
   replace hm0 := hm0.old1 hm3 hge_g11
   clear hm3
   replace hb11 := hb11'; clear hb11'
   refine L.nil <| X.seq <| W.region <| L.v (R1.move rfl) rfl <| L.v (R1.move rfl) rfl <| L.v (R1.remL rfl rfl (by omega)) rfl <| L.v (R1.assign rfl) rfl <| L.nil <| X.blockEnd <| X.seq <| W.region ?_
   refine L.v (R1.move rfl) rfl <| L.v ((R1.sub rfl rfl).as (j := ((m - 1 : Nat) : Int) - 1) (by rw [wrap_i64 (by omega) (by omega)]; omega)) rfl <| L.v (R1.assign rfl) rfl <| L.nil <| X.next (m - 1, (r * 4294967296 + xs[m - 1]) % b, q.set (m - 1) ((r * 4294967296 + xs[m - 1]) / b)) ?_ ?_ ?_
   · exact ⟨rfl, rfl, rfl, rfl, rfl, trivial⟩
   ·
    refine ⟨by omega, by simpa using hql, set_lt hqx hq, Nat.mod_lt _ hb0, ?_, hb11, h, hm0⟩
    rw [val_drop_set (by omega), val_drop_step (by omega), Nat.sub_add_cancel hm1]
    exact small_step hv rfl
   · first | omega | (dsimp only; omega)
  ·
   intro hc16
   try simp only [bq, ne_eq] at hc16
   obtain rfl : m = 0 := by omega
   rw [List.drop_zero, List.drop_zero] at hv
   refine W.exit <| X.thenExit <| X.nextExit <| X.here <| X.seq <| W.seq ?_
   have hU : U32 M w2 (.slice (some ⟨g11, 0, none⟩) xs.length xs.length) q := by
       have hU := U32.of_blk (M := M) hb11 (hbd0.not hge_g11) (by unfold maxLen; omega) hqx
       rw [hql] at hU; exact hU
   have hbdw := hbd0.gr hm0
   refine W.region <| L.v (R1.move rfl) rfl <| L.call rfl (c_r1_Trim hU hbdw (by omega)) rfl ?_
   rintro v38 w4 ⟨h38, hm4⟩
   replace hm0 := hm0.trans hm4
   clear hm4
   refine L.v (R1.move rfl) rfl <| L.v (R1.assign rfl) rfl <| L.v (R1.assign rfl) rfl <| L.nil <| X.seq <| W.ret <| X.result2 rfl (.tmp rfl (.tmp rfl .nil)) ?_
   have e1 : val xs / b = val q := by rw [hv, Nat.mul_add_div hb0, Nat.div_eq_of_lt hr, Nat.add_zero]
   have e2 : val xs % b = r := by rw [hv, Nat.mul_add_mod, Nat.mod_eq_of_lt hr]
   rw [e1, e2]
   exact ⟨_, rfl, h38, hm0⟩

end Go.Proofs.Ytfpipaoobmcomaa
