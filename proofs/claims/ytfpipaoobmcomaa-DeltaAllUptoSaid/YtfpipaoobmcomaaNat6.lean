/- Walks: what the functions compute. -/
import Derived.Test.YtfpipaoobmcomaaNat5
namespace Go.Proofs.Ytfpipaoobmcomaa
open Go.RowKit
set_option linter.unusedVariables false
set_option linter.unusedSimpArgs false
set_option maxRecDepth 10000
theorem c_nat_ShiftR {M : List Nat} {w : World} {va : Value} {xs : List Nat} {s : Nat} (h : U32 M w va xs) (hs0 : 0 < s) (hs : s < 32) (hbd : Bd M w) (hl : xs.length ≤ 1099511627776) :
    Ret Try.prog 93 #[va, .int .i64 (-(s : Int))] w (fun r w' => U32 M w' r (toL (val xs / 2 ^ s)) ∧ Mod [] w w') := by
 have hbd0 := hbd
 have hla := toL_len_40 h.2 hl
 have hp2 : 0 < 2 ^ s := Nat.pow_pos (by decide)
 refine Ret.of (vs := [va, .int .i64 (-(s : Int))]) (n := 95) Try.func93 rfl rfl rfl rfl ?_
 have hm0 : Mod [] w w := Mod.refl _ _
 refine W.seq <| W.region <| L.v (R1.assign rfl) rfl <| L.nil <| X.seq <| W.seq <| W.region <| L.v (R1.move rfl) rfl <| L.v ((R1.maxI rfl rfl).as (j := (-(s : Int))) (by omega)) rfl <| L.v ((R1.minI rfl rfl).as (j := (-(s : Int))) (by omega)) rfl <| L.v (R1.assign rfl) rfl ?_
 refine L.nil <| X.seq <| W.seq <| W.region <| L.v (R1.move rfl) rfl <| L.call rfl (c_nat_trim (by assumption)) rfl ?_
 rintro v17 w1 ⟨h17, hm1⟩
 replace h := h.gr hm1
 replace hm0 := hm0.trans hm1
 clear hm1
 obtain ⟨A17, c17, rfl⟩ := h17.form
 have hcap17 := h17.1.capOf rfl
 refine L.v (R1.assign rfl) rfl <| L.nil <| X.seq <| W.seq <| W.seq <| W.region <| L.v (R1.move rfl) rfl <| L.v ((R1.lt rfl rfl).asB (c := true) (by simp; omega)) rfl <| L.nil <| X.seq <| W.condT rfl ?_
 refine W.seq <| W.region <| L.v (R1.move rfl) rfl <| L.v ((R1.neg rfl).as (j := ((s : Nat) : Int)) (by rw [wrap_i64 (by omega) (by omega)]; omega)) rfl <| L.v ((R1.quoI (b := 32) rfl rfl (by omega) (by omega)).as (j := ((0 : Nat) : Int)) (by omega)) rfl <| L.v (R1.assign rfl) rfl <| L.nil <| X.seq <| W.seq <| W.seq <| W.region ?_
 refine L.v (R1.move rfl) rfl <| L.v (R1.move rfl) rfl <| L.v (R1.len rfl tyS33) rfl <| L.v (R1.ge rfl rfl) rfl <| L.nil <| X.seq <| W.cond rfl ?_ ?_
 ·
  intro hc26
  try simp only [bq, ne_eq] at hc26
  refine W.seq <| W.region <| L.v (R1.assign rfl) rfl <| L.nil <| X.seq <| W.ret <| X.thenRet <| X.thenRet <| X.result1 rfl (.tmp rfl .nil) ?_
  have h0 : toL (val xs) = [] := List.eq_nil_of_length_eq_zero (by omega)
  rw [toL_nil] at h0
  rw [h0, Nat.zero_div, toL_zero]
  exact ⟨U32.nil, hm0⟩
 ·
  intro hc26
  try simp only [bq, ne_eq] at hc26
  refine W.skip <| X.seq <| W.seq <| W.region <| L.v (R1.move rfl) rfl <| L.v ((R1.neg rfl).as (j := ((s : Nat) : Int)) (by rw [wrap_i64 (by omega) (by omega)]; omega)) rfl <| L.v ((R1.remI (b := 32) rfl rfl (by omega)).as (j := ((s : Nat) : Int)) (by omega)) rfl <| L.v (R1.convIL rfl tyI3 tyI74 (by omega)) rfl <| L.v (R1.assign rfl) rfl <| L.nil <| X.seq ?_
  refine W.seq <| W.region <| L.v (R1.move rfl) rfl <| L.v (R1.len rfl tyS33) rfl <| L.v (R1.move rfl) rfl <| L.v (R1.subI rfl rfl (by omega) (by omega)) rfl <| L.makeSlice (m := (toL (val xs)).length) rfl rfl rfl rfl tyS33 tyZ60 (by omega) (by unfold maxLen; omega) rfl ?_
  intro g35 w2 hN35
  replace h := h.new hN35
  have hge_g35 := New.ge hN35 hm0.size
  replace hm0 := hm0.trans (hN35.mod.mono (by simp))
  replace h17 := h17.new hN35
  have hb35 := hN35.blk
  clear hN35
  rw [uarr_made] at hb35
  refine L.v (R1.assign rfl) rfl <| L.nil <| X.seq <| W.seq <| W.seq <| W.region <| L.v (R1.move rfl) rfl <| L.v (R1.move rfl) rfl <| L.v ((R1.sliceL rfl rfl tyS33 (by omega) (by omega)).asV (v := cutS A17 c17 0 (toL (val xs)).length 1) rfl) rfl ?_
  have hcut := U32.cutL h17 rfl (Nat.zero_le _)
  rw [List.drop_zero] at hcut
  refine L.v (R1.lenU rfl hcut tyS33) rfl <| L.v (R1.move rfl) rfl <| L.nil <| X.seq <| W.block <| W.loop (ι := Nat × List Nat) (fun (i, cs) => [(6, .int .u64 (s : Int)), (7, .slice (some ⟨g35, 0, none⟩) (toL (val xs)).length (toL (val xs)).length), (38, cutS A17 c17 0 (toL (val xs)).length 1), (39, .int .i64 (((toL (val xs)).length : Nat) : Int)), (40, .int .i64 (i : Int))]) (fun (i, cs) w_ => i ≤ (toL (val xs)).length ∧ cs.length = (toL (val xs)).length ∧ (∀ x ∈ cs, x < 4294967296) ∧ val cs = val ((toL (val xs)).take i) / 2 ^ s ∧ (∀ j (hj : j < cs.length), i ≤ j → cs[j] = 0) ∧ Blk w_ g35 60 (uarr cs) ∧ U32 (g35 :: M) w_ (cutS A17 c17 0 (toL (val xs)).length 1) (toL (val xs)) ∧ Mod [] w w_) (fun (i, cs) => (toL (val xs)).length - i) (0, List.replicate (toL (val xs)).length 0) ?_ ?_ ?_
  · exact ⟨rfl, rfl, rfl, rfl, rfl, trivial⟩
  ·
   exact ⟨Nat.zero_le _, by simp, rep_lt _, by simp [val, val_replicate], by simp, hb35, hcut, hm0⟩
  ·
   rintro ⟨i, cs⟩ w3 ⟨hk, hcl, hcx, hv, hz, hb35, hcut, hm0⟩
   refine W.seq <| W.region <| L.v (R1.lt rfl rfl) rfl <| L.nil <| X.seq <| W.seq <| W.cond rfl ?_ ?_
   ·
    intro hc41
    try simp only [bq, ne_eq] at hc41
    have hi1 : i < (toL (val xs)).length := by omega
    have hxi := hcut.lt hi1
    obtain ⟨hw1, hw2⟩ := shr_word hs hxi
    have hh : (toL (val xs))[i] / 2 ^ s < 4294967296 := Nat.lt_of_le_of_lt (Nat.div_le_self _ _) hxi
    have hz0 := hz i (by omega) (Nat.le_refl _)
    have hlw : (toL (val xs))[i] % 2 ^ s * 2 ^ (32 - s) < 4294967296 := by rw [← hw2]; exact Nat.mod_lt _ (by decide)
    have hstep := shr_step (A := val ((toL (val xs)).take i)) (v := (toL (val xs))[i]) (P := 4294967296 ^ (i - 1)) hs
    have e1 := val_set (xs := cs) (j := i) (by omega) ((toL (val xs))[i] / 2 ^ s)
    rw [hz0, Nat.mul_zero, Nat.add_zero] at e1
    refine W.skip <| X.seq <| W.seq <| W.block <| W.seq <| W.region <| L.v (R1.move rfl) rfl <| L.v (R1.atU (j := i) rfl rfl hcut tyS33 rfl (by omega)) rfl <| L.v (R1.ldU rfl hcut tyP60 (by omega) rfl) rfl <| L.v (R1.assign rfl) rfl <| L.v (R1.assign rfl) rfl ?_
    refine L.nil <| X.seq <| W.seq <| W.region <| L.v (R1.move rfl) rfl <| L.v (R1.convWL rfl tyI60 tyI57 (by omega)) rfl <| L.v (R1.shl32 rfl rfl (by omega)) rfl <| L.v (R1.move rfl) rfl <| L.v (R1.shrL rfl rfl (by omega)) rfl <| L.v (R1.assign rfl) rfl <| L.nil ?_
    refine X.seq <| W.seq <| W.region <| L.v (R1.move rfl) rfl <| L.v (R1.move rfl) rfl <| L.v (R1.atO (j := i) rfl rfl tyS33 rfl (by omega)) rfl <| L.v (R1.ldO rfl (by assumption) (by omega) tyP60 rfl) rfl <| L.v (R1.move rfl) rfl <| L.v (R1.shr32 rfl rfl) rfl <| L.v ((R1.convLW rfl tyI57 tyI60).as (j := (((toL (val xs))[i] / 2 ^ s : Nat) : Int)) (by rw [hw1, Nat.mod_eq_of_lt hh])) rfl <| L.v ((R1.orW rfl rfl (by omega) (by omega)).as (j := (((toL (val xs))[i] / 2 ^ s : Nat) : Int)) (by rw [hz0, Nat.zero_or])) rfl ?_
    refine L.v (R1.atO (j := i) rfl rfl tyS33 rfl (by omega)) rfl <| L.storeU rfl rfl hb35 (by omega) tyP60 ?_
    intro w4 hb35' hm4
    replace hcut := hcut.mod hm4 (by simp)
    replace hm0 := hm0.old1 hm4 hge_g35
    clear hm4
    replace hb35 := hb35'; clear hb35'
    refine L.nil <| X.seq <| W.seq <| W.region <| L.v (R1.move rfl) rfl <| L.v (R1.gt rfl rfl) rfl <| L.nil <| X.seq <| W.cut (ι := List Nat) (fun cs2 => [(6, .int .u64 (s : Int)), (7, .slice (some ⟨g35, 0, none⟩) (toL (val xs)).length (toL (val xs)).length), (38, cutS A17 c17 0 (toL (val xs)).length 1), (39, .int .i64 (((toL (val xs)).length : Nat) : Int)), (40, .int .i64 (i : Int))]) (fun cs2 w_ => cs2.length = (toL (val xs)).length ∧ (∀ x ∈ cs2, x < 4294967296) ∧ val cs2 = val ((toL (val xs)).take (i + 1)) / 2 ^ s ∧ (∀ j (hj : j < cs2.length), i + 1 ≤ j → cs2[j] = 0) ∧ Blk w_ g35 60 (uarr cs2) ∧ U32 (g35 :: M) w_ (cutS A17 c17 0 (toL (val xs)).length 1) (toL (val xs)) ∧ Mod [] w w_) ?_ ?_
    ·
     refine W.cond rfl ?_ ?_
     ·
      intro hc60
      try simp only [bq, ne_eq] at hc60
      have hi0 : 0 < i := by omega
      have hpi : 4294967296 ^ (i - 1) * 4294967296 = 4294967296 ^ i := by rw [← Nat.pow_succ]; congr 1; omega
      have hc1 : cs[i - 1] < 2 ^ (32 - s) := shr_cell hs hi0 (by omega) (toL_lt _) (by omega) hv
      have hci := hcx _ (List.getElem_mem (show i - 1 < cs.length by omega))
      have hsum : cs[i - 1] + (toL (val xs))[i] % 2 ^ s * 2 ^ (32 - s) < 4294967296 := by
          rw [← or_high hc1]; exact Nat.or_lt_two_pow (n := 32) hci hlw
      have e2 := val_set (xs := cs.set i ((toL (val xs))[i] / 2 ^ s)) (j := i - 1) (by simp; omega) (cs[i - 1] + (toL (val xs))[i] % 2 ^ s * 2 ^ (32 - s))
      rw [List.getElem_set_ne (by omega), Nat.mul_add] at e2
      rw [hpi] at hstep
      refine W.region <| L.v (R1.move rfl) rfl <| L.v (R1.move rfl) rfl <| L.v (R1.subI (b := 1) rfl rfl (by omega) (by omega)) rfl <| L.v (R1.atO (j := (i - 1)) rfl rfl tyS33 rfl (by omega)) rfl <| L.v (R1.ldO rfl (by assumption) (by simp; omega) tyP60 (by rw [List.getElem_set_ne (by omega)])) rfl <| L.v (R1.move rfl) rfl <| L.v ((R1.convLW rfl tyI57 tyI60).as (j := (((toL (val xs))[i] % 2 ^ s * 2 ^ (32 - s) : Nat) : Int)) (by rw [hw2])) rfl <| L.v ((R1.orW rfl rfl (by omega) (by omega)).as (j := ((cs[i - 1] + (toL (val xs))[i] % 2 ^ s * 2 ^ (32 - s) : Nat) : Int)) (congrArg (fun n : Nat => (n : Int)) (or_high hc1))) rfl <| L.v (R1.atO (j := (i - 1)) rfl rfl tyS33 rfl (by omega)) rfl <| L.storeU rfl rfl hb35 (by simp; omega) tyP60 ?_
      intro w5 hb35' hm5
      replace hcut := hcut.mod hm5 (by simp)
      replace hm0 := hm0.old1 hm5 hge_g35
      clear hm5
      replace hb35 := hb35'; clear hb35'
      refine L.nil <| X.join ((cs.set i ((toL (val xs))[i] / 2 ^ s)).set (i - 1) (cs[i - 1] + (toL (val xs))[i] % 2 ^ s * 2 ^ (32 - s))) ?_ ?_
      · exact ⟨rfl, rfl, rfl, rfl, rfl, trivial⟩
      ·
       refine ⟨by simpa using hcl, set_lt (set_lt hcx hh) hsum, ?_, ?_, hb35, hcut, hm0⟩
       · rw [val_take_succ hi1, hstep]; omega
       · intro j hj hle
         rw [List.getElem_set_ne (by omega), List.getElem_set_ne (by omega)]
         exact hz j (by simpa using hj) (by omega)
     ·
      intro hc60
      try simp only [bq, ne_eq] at hc60
      obtain rfl : i = 0 := by omega
      refine W.skip <| X.join (cs.set 0 ((toL (val xs))[0] / 2 ^ s)) ?_ ?_
      · exact ⟨rfl, rfl, rfl, rfl, rfl, trivial⟩
      ·
       refine ⟨by simpa using hcl, set_lt hcx hh, ?_, ?_, hb35, hcut, hm0⟩
       · rw [val_take_succ hi1]; simp [val] at e1 hv ⊢; omega
       · intro j hj hle
         rw [List.getElem_set_ne (by omega)]
         exact hz j (by simpa using hj) (by omega)
    ·
     rintro cs2 wk ⟨hcl2, hcx2, hv2, hz2, hb35, hcut, hm0⟩
     refine X.blockEnd <| X.seq <| W.region <| L.v (R1.addI (b := 1) rfl rfl (by omega)) rfl <| L.v (R1.move rfl) rfl <| L.nil <| X.next (i + 1, cs2) ?_ ?_ ?_
     · exact ⟨rfl, rfl, rfl, rfl, rfl, trivial⟩
     ·
      exact ⟨by omega, hcl2, hcx2, hv2, hz2, hb35, hcut, hm0⟩
     · first | omega | (dsimp only; omega)
   ·
    intro hc41
    try simp only [bq, ne_eq] at hc41
    obtain rfl : i = (toL (val xs)).length := by omega
    rw [List.take_length, val_toL] at hv
    refine W.exit <| X.thenExit <| X.nextExit <| X.here <| X.seq <| W.seq ?_
    have hU : U32 M w3 (.slice (some ⟨g35, 0, none⟩) (toL (val xs)).length (toL (val xs)).length) cs := by
        have hU := U32.of_blk (M := M) hb35 (hbd0.not hge_g35) (by unfold maxLen; omega) hcx
        rw [hcl] at hU; exact hU
    refine W.region <| L.v (R1.move rfl) rfl <| L.call rfl (c_nat_trim hU) rfl ?_
    rintro v72 w6 ⟨h72, hm6⟩
    replace hm0 := hm0.trans hm6
    clear hm6
    refine L.v (R1.assign rfl) rfl <| L.nil <| X.seq <| W.ret <| X.thenRet <| X.result1 rfl (.tmp rfl .nil) ?_
    exact ⟨by rw [hv] at h72; exact h72, hm0⟩

theorem c_nat_Shift0 {M : List Nat} {w : World} {va : Value} {xs : List Nat} (h : U32 M w va xs) (hbd : Bd M w) (hl : xs.length ≤ 1099511627776) :
    Ret Try.prog 93 #[va, .int .i64 0] w (fun r w' => U32 M w' r (toL (val xs)) ∧ Mod [] w w') := by
 have hbd0 := hbd
 have hla := toL_len_40 h.2 hl
 have hs : 0 < 32 := by decide
 refine Ret.of (vs := [va, .int .i64 0]) (n := 95) Try.func93 rfl rfl rfl rfl ?_
 have hm0 : Mod [] w w := Mod.refl _ _
 refine W.seq <| W.region <| L.v (R1.assign rfl) rfl <| L.nil <| X.seq <| W.seq <| W.region <| L.v (R1.move rfl) rfl <| L.v ((R1.maxI rfl rfl).as (j := ((0 : Nat) : Int)) (by decide)) rfl <| L.v ((R1.minI rfl rfl).as (j := ((0 : Nat) : Int)) (by decide)) rfl <| L.v (R1.assign rfl) rfl ?_
 refine L.nil <| X.seq <| W.seq <| W.region <| L.v (R1.move rfl) rfl <| L.call rfl (c_nat_trim (by assumption)) rfl ?_
 rintro v17 w1 ⟨h17, hm1⟩
 replace h := h.gr hm1
 replace hm0 := hm0.trans hm1
 clear hm1
 refine L.v (R1.assign rfl) rfl <| L.nil <| X.seq <| W.seq <| W.seq <| W.region <| L.v (R1.move rfl) rfl <| L.v ((R1.lt rfl rfl).asB (c := false) (by simp)) rfl <| L.nil <| X.seq <| W.condF rfl ?_
 refine W.skip <| X.seq <| W.seq <| W.region <| L.v (R1.move rfl) rfl <| L.v ((R1.quoI (b := 32) rfl rfl (by omega) (by omega)).as (j := ((0 : Nat) : Int)) (by decide)) rfl <| L.v (R1.assign rfl) rfl <| L.nil <| X.seq <| W.seq <| W.region ?_
 refine L.v (R1.move rfl) rfl <| L.v (R1.move rfl) rfl <| L.v (R1.lenU rfl (by assumption) tyS33) rfl <| L.v ((R1.addI rfl rfl (by omega)).as (j := (((toL (val xs)).length : Nat) : Int)) (by omega)) rfl <| L.v (R1.addI (b := 1) rfl rfl (by omega)) rfl <| L.makeSlice (m := ((toL (val xs)).length + 1)) rfl rfl rfl rfl tyS33 tyZ60 (by omega) (by unfold maxLen; omega) rfl ?_
 intro g80 w2 hN80
 replace h := h.new hN80
 have hge_g80 := New.ge hN80 hm0.size
 replace hm0 := hm0.trans (hN80.mod.mono (by simp))
 replace h17 := h17.new hN80
 have hb80 := hN80.blk
 clear hN80
 rw [uarr_made] at hb80
 refine L.v (R1.assign rfl) rfl <| L.nil <| X.seq <| W.seq <| W.drawW (T := [11]) rfl (by decide +kernel) (NoHang.then NoHang.post) (fun w3 hm3 => ?_)
 replace h := h.gr hm3
 replace hm0 := hm0.trans hm3
 replace h17 := h17.gr hm3
 replace hb80 := Blk.gr hb80 hm3
 have hS1 : Mod [] w3 w3 := Mod.refl _ _
 clear hm3
 have hb80_s := hb80
 refine D.take 0 rfl (by decide +kernel) (fun w_ hS => (R1.move rfl)) hS1 rfl <| D.take 1 rfl (by decide +kernel) (fun w_ hS => (R1.move rfl)) hS1 rfl <| D.take 2 rfl (by decide +kernel) (fun w_ hS => ((R1.sliceL rfl rfl tyS33 (by omega) (by omega)).asV (v := .slice (some ⟨g80, 0, none⟩) ((toL (val xs)).length + 1) ((toL (val xs)).length + 1)) (by rw [Int.toNat_natCast]; exact cutS_lit0 _ _ _ (by omega)))) hS1 rfl <| D.take 3 rfl (by decide +kernel) (fun w_ hS => (R1.move rfl)) hS1 rfl <| D.take 4 rfl (by decide +kernel) (fun w_ hS => (R1.move rfl)) hS1 rfl <| D.take 5 rfl (by decide +kernel) (fun w_ hS => ((R1.remI (b := 32) rfl rfl (by omega)).as (j := ((0 : Nat) : Int)) (by decide))) hS1 rfl <| D.take 6 rfl (by decide +kernel) (fun w_ hS => (R1.convIL rfl tyI3 tyI74 (by omega))) hS1 rfl <| D.take 7 rfl (by decide +kernel) (fun w_ hS => (R1.move rfl)) hS1 rfl <| D.take 8 rfl (by decide +kernel) (fun w_ hS => (R1.lenU rfl (U32.gr (by assumption) hS) tyS33)) hS1 rfl <| D.take 9 rfl (by decide +kernel) (fun w_ hS => (R1.addI (b := 1) rfl rfl (by omega))) hS1 rfl <| D.one 10 rfl (by decide +kernel) (fun hX => ?_)
 refine L.call rfl (c_nat_left (s := 0) (n := ((toL (val xs)).length + 1)) h17 hs (by omega) (by omega)) rfl ?_
 rintro _ w4 ⟨g91, us91, rfl, hge_g91, hb91, hul91, hux91, huv91, hm4⟩
 replace hm0 := hm0.trans hm4
 replace hb80 := Blk.gr hb80 hm4
 replace hS1 := hS1.trans hm4
 clear hm4
 refine L.nil (hX _ _ ⟨.inr hS1, ?_⟩)
 have hU91 : U32 [] w4 (.slice (some ⟨g91, 0, none⟩) ((toL (val xs)).length + 1) ((toL (val xs)).length + 1)) us91 := by
     have hU := U32.of_blk (M := []) hb91 (by simp) (by unfold maxLen; omega) hux91
     rw [hul91] at hU; exact hU
 refine D.one 11 rfl (by decide +kernel) (fun hX => ?_)
 refine L.copyAll rfl rfl hb80 hU91 (by simp; omega) (by simp) (by omega) tyS33 rfl ?_
 intro w5 hb80' hm5
 replace hm0 := hm0.old1 hm5 hge_g80
 clear hm5
 replace hb80 := hb80'; clear hb80'
 refine L.nil (hX _ _ ⟨.inl rfl, ?_⟩)
 refine D.done (by decide +kernel) ?_ _
 refine X.seq <| W.seq ?_
 have hU : U32 M w5 (.slice (some ⟨g80, 0, none⟩) ((toL (val xs)).length + 1) ((toL (val xs)).length + 1)) us91 := by
     have hU := U32.of_blk (M := M) hb80 (hbd0.not hge_g80) (by unfold maxLen; omega) hux91
     rw [hul91] at hU; exact hU
 refine W.region <| L.v (R1.move rfl) rfl <| L.call rfl (c_nat_trim hU) rfl ?_
 rintro v94 w6 ⟨h94, hm6⟩
 replace hm0 := hm0.trans hm6
 clear hm6
 refine L.v (R1.assign rfl) rfl <| L.nil <| X.seq <| W.ret <| X.result1 rfl (.tmp rfl .nil) <| ⟨?_, hm0⟩
 have hv := val_lt (toL (val xs)) (toL_lt _)
 rw [val_toL] at hv
 have hv2 : val xs < 4294967296 ^ ((toL (val xs)).length + 1) := by rw [pow_LB_succ]; omega
 rw [val_toL, Nat.pow_zero, Nat.mul_one, Nat.mod_eq_of_lt hv2] at huv91
 rw [huv91] at h94
 exact h94


theorem c_nat_Shift {M : List Nat} {w : World} {va : Value} {xs : List Nat} {s : Nat} (h : U32 M w va xs) (hs : s < 32) (hbd : Bd M w) (hl : xs.length ≤ 1099511627776) :
    Ret Try.prog 93 #[va, .int .i64 (-(s : Int))] w (fun r w' => U32 M w' r (toL (val xs / 2 ^ s)) ∧ Mod [] w w') := by
  rcases Nat.eq_zero_or_pos s with h0 | h0
  · subst h0
    simpa using c_nat_Shift0 h hbd hl
  · exact c_nat_ShiftR h h0 hs hbd hl

end Go.Proofs.Ytfpipaoobmcomaa
