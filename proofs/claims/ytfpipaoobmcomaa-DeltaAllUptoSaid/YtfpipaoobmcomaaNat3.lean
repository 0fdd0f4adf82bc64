/- Walks: what the functions compute. -/
import Derived.Test.YtfpipaoobmcomaaNat2
namespace Go.Proofs.Ytfpipaoobmcomaa
open Go.RowKit
set_option linter.unusedVariables false
set_option linter.unusedSimpArgs false
set_option maxRecDepth 10000
theorem c_Sub32 {w : World} {x y b : Nat} (hx : x < 4294967296) (hy : y < 4294967296) (hb : b ≤ 1) :
    Ret Try.prog 95 #[.int .u32 (x : Int), .int .u32 (y : Int), .int .u32 (b : Int)] w (fun r w' => r = .tuple #[.int .u32 ((subW x y b : Nat) : Int), .int .u32 ((subB x y b : Nat) : Int)] ∧ Mod [] w w') := by
 have hd := subW_lt x y b
 have hxy : x ^^^ y < 4294967296 := Nat.xor_lt_two_pow (n := 32) hx hy
 have hA : (4294967295 - x) &&& y < 2 ^ 32 := Nat.lt_of_le_of_lt Nat.and_le_right hy
 have hB : (4294967295 - (x ^^^ y)) &&& subW x y b < 2 ^ 32 := Nat.lt_of_le_of_lt Nat.and_le_right hd
 refine Ret.of (vs := [.int .u32 (x : Int), .int .u32 (y : Int), .int .u32 (b : Int)]) (n := 25) Try.func95 rfl rfl rfl rfl ?_
 have hm0 : Mod [] w w := Mod.refl _ _
 refine W.seq <| W.region <| L.v (R1.assign rfl) rfl <| L.v (R1.assign rfl) rfl <| L.nil <| X.seq <| W.seq <| W.region <| L.v (R1.move rfl) rfl <| L.v (R1.move rfl) rfl <| L.v (R1.subW rfl rfl (by omega)) rfl ?_
 refine L.v (R1.move rfl) rfl <| L.v ((R1.subW rfl rfl (by omega)).as (j := ((subW x y b : Nat) : Int)) (by unfold subW; omega)) rfl <| L.v (R1.assign rfl) rfl <| L.nil <| X.seq <| W.seq <| W.region <| L.v (R1.move rfl) rfl <| L.v (R1.compl rfl (by omega)) rfl <| L.v (R1.move rfl) rfl <| L.v (R1.andW rfl rfl (by omega) hy) rfl ?_
 refine L.v (R1.move rfl) rfl <| L.v (R1.move rfl) rfl <| L.v (R1.xorW rfl rfl hx hy) rfl <| L.v (R1.compl rfl (by omega)) rfl <| L.v (R1.move rfl) rfl <| L.v (R1.andW rfl rfl (by omega) hd) rfl <| L.v (R1.orW rfl rfl hA hB) rfl <| L.v ((R1.shrW (b := 31) rfl rfl (by omega)).as (j := ((subB x y b : Nat) : Int)) (congrArg (fun n : Nat => (n : Int)) (sub_bits hx hy hb))) rfl <| L.v (R1.assign rfl) rfl <| L.nil <| X.seq ?_
 refine W.ret <| X.result2 rfl (.tmp rfl (.tmp rfl .nil)) ?_
 exact ⟨rfl, hm0⟩

theorem c_Add32 {w : World} {x y b : Nat} (hx : x < 4294967296) (hy : y < 4294967296) (hb : b ≤ 1) :
    Ret Try.prog 96 #[.int .u32 (x : Int), .int .u32 (y : Int), .int .u32 (b : Int)] w (fun r w' => r = .tuple #[.int .u32 (((x + y + b) % 4294967296 : Nat) : Int), .int .u32 (((x + y + b) / 4294967296 : Nat) : Int)] ∧ Mod [] w w') := by
 refine Ret.of (vs := [.int .u32 (x : Int), .int .u32 (y : Int), .int .u32 (b : Int)]) (n := 22) Try.func96 rfl rfl rfl rfl ?_
 have hm0 : Mod [] w w := Mod.refl _ _
 refine W.seq <| W.region <| L.v (R1.assign rfl) rfl <| L.v (R1.assign rfl) rfl <| L.nil <| X.seq <| W.seq <| W.region <| L.v (R1.move rfl) rfl <| L.v (R1.convWL rfl tyI60 tyI57 (by omega)) rfl <| L.v (R1.move rfl) rfl ?_
 refine L.v (R1.convWL rfl tyI60 tyI57 (by omega)) rfl <| L.v (R1.addL rfl rfl (by omega)) rfl <| L.v (R1.move rfl) rfl <| L.v (R1.convWL rfl tyI60 tyI57 (by omega)) rfl <| L.v (R1.addL rfl rfl (by omega)) rfl <| L.v (R1.assign rfl) rfl <| L.nil <| X.seq <| W.seq <| W.region <| L.v (R1.move rfl) rfl ?_
 refine L.v (R1.convLW rfl tyI57 tyI60) rfl <| L.v (R1.assign rfl) rfl <| L.nil <| X.seq <| W.seq <| W.region <| L.v (R1.move rfl) rfl <| L.v (R1.shr32 rfl rfl) rfl <| L.v ((R1.convLW rfl tyI57 tyI60).as (j := (((x + y + b) / 4294967296 : Nat) : Int)) (by omega)) rfl <| L.v (R1.assign rfl) rfl <| L.nil ?_
 refine X.seq <| W.ret <| X.result2 rfl (.tmp rfl (.tmp rfl .nil)) ?_
 exact ⟨rfl, hm0⟩

theorem c_Div32 {w : World} {a c y : Nat} (ha : a < y) (hc : c < 4294967296) (hy : y < 4294967296) :
    Ret Try.prog 88 #[.int .u32 (a : Int), .int .u32 (c : Int), .int .u32 (y : Int)] w (fun r w' => r = .tuple #[.int .u32 (((a * 4294967296 + c) / y : Nat) : Int), .int .u32 (((a * 4294967296 + c) % y : Nat) : Int)] ∧ Mod [] w w') := by
 have hq : (a * 4294967296 + c) / y < 4294967296 := by rw [Nat.div_lt_iff_lt_mul (by omega)]; omega
 have hr : (a * 4294967296 + c) % y < y := Nat.mod_lt _ (by omega)
 refine Ret.of (vs := [.int .u32 (a : Int), .int .u32 (c : Int), .int .u32 (y : Int)]) (n := 33) Try.func88 rfl rfl rfl rfl ?_
 have hm0 : Mod [] w w := Mod.refl _ _
 refine W.seq <| W.region <| L.v (R1.assign rfl) rfl <| L.v (R1.assign rfl) rfl <| L.nil <| X.seq <| W.seq <| W.seq <| W.region <| L.v (R1.move rfl) rfl <| L.v ((R1.ne rfl rfl).asB (c := true) (by simp; omega)) rfl ?_
 refine L.v (R1.move rfl) rfl <| L.on rfl rfl rfl (R1.move rfl) rfl <| L.on rfl rfl rfl (R1.move rfl) rfl <| L.on rfl rfl rfl ((R1.le rfl rfl).asB (c := false) (by simp; omega)) rfl <| L.v (R1.pickT rfl rfl) rfl <| L.nil <| X.seq <| W.condF rfl <| W.skip <| X.seq <| W.seq ?_
 refine W.region <| L.v (R1.move rfl) rfl <| L.v (R1.convWL rfl tyI60 tyI57 (by omega)) rfl <| L.v (R1.shl32 rfl rfl (by omega)) rfl <| L.v (R1.move rfl) rfl <| L.v (R1.convWL rfl tyI60 tyI57 (by omega)) rfl <| L.v ((R1.orL rfl rfl (by omega) (by omega)).as (j := (((a * 4294967296 + c) : Nat) : Int)) (congrArg (fun n : Nat => (n : Int)) (or32 hc))) rfl <| L.v (R1.assign rfl) rfl <| L.nil <| X.seq <| W.seq ?_
 refine W.drawW (T := []) rfl (by decide +kernel) (NoHang.then NoHang.post) (fun w1 hm1 => ?_)
 replace hm0 := hm0.trans hm1
 have hS1 : Mod [] w1 w1 := Mod.refl _ _
 clear hm1
 refine D.take 0 rfl (by decide +kernel) (fun w_ hS => (R1.move rfl)) hS1 rfl <| D.take 1 rfl (by decide +kernel) (fun w_ hS => (R1.move rfl)) hS1 rfl <| D.take 2 rfl (by decide +kernel) (fun w_ hS => (R1.convWL rfl tyI60 tyI57 (by omega))) hS1 rfl <| D.take 3 rfl (by decide +kernel) (fun w_ hS => (R1.quoL rfl rfl (by omega) (by omega))) hS1 rfl <| D.take 4 rfl (by decide +kernel) (fun w_ hS => ((R1.convLW rfl tyI57 tyI60).as (j := (((a * 4294967296 + c) / y : Nat) : Int)) (by rw [Nat.mod_eq_of_lt hq]))) hS1 rfl <| D.take 5 rfl (by decide +kernel) (fun w_ hS => (R1.move rfl)) hS1 rfl <| D.take 6 rfl (by decide +kernel) (fun w_ hS => (R1.move rfl)) hS1 rfl <| D.take 7 rfl (by decide +kernel) (fun w_ hS => (R1.convWL rfl tyI60 tyI57 (by omega))) hS1 rfl <| D.take 8 rfl (by decide +kernel) (fun w_ hS => (R1.remL rfl rfl (by omega))) hS1 rfl <| D.take 9 rfl (by decide +kernel) (fun w_ hS => ((R1.convLW rfl tyI57 tyI60).as (j := (((a * 4294967296 + c) % y : Nat) : Int)) (by rw [Nat.mod_eq_of_lt (show (a * 4294967296 + c) % y < 4294967296 by omega)]))) hS1 rfl <| D.take 10 rfl (by decide +kernel) (fun w_ hS => (R1.assign rfl)) hS1 rfl ?_
 refine D.take 11 rfl (by decide +kernel) (fun w_ hS => (R1.assign rfl)) hS1 rfl <| D.done (by decide +kernel) ?_ _
 refine X.seq <| W.ret <| X.result2 rfl (.tmp rfl (.tmp rfl .nil)) ?_
 exact ⟨rfl, hm0⟩

theorem c_nat_small {M : List Nat} {w : World} {va : Value} {xs : List Nat} {b : Nat} (h : U32 M w va xs) (hb0 : 0 < b) (hb : b < 4294967296) (hbd : Bd M w) (hl : xs.length ≤ 1099511627776) :
    Ret Try.prog 85 #[va, .int .u32 (b : Int)] w (fun r w' => ∃ v, r = .tuple #[v, .int .u32 ((val xs % b : Nat) : Int)] ∧ U32 M w' v (toL (val xs / b)) ∧ Mod [] w w') := by
 have hbd0 := hbd
 refine Ret.of (vs := [va, .int .u32 (b : Int)]) (n := 35) Try.func85 rfl rfl rfl rfl ?_
 have hm0 : Mod [] w w := Mod.refl _ _
 refine W.seq <| W.region <| L.v (R1.assign rfl) rfl <| L.v (R1.assign rfl) rfl <| L.nil <| X.seq <| W.seq <| W.region <| L.v (R1.move rfl) rfl <| L.v (R1.lenU rfl (by assumption) tyS33) rfl <| L.makeSlice (m := xs.length) rfl rfl rfl rfl tyS33 tyZ60 (by omega) (by unfold maxLen; omega) rfl ?_
 intro g11 w1 hN11
 replace h := h.new hN11
 have hge_g11 := New.ge hN11 hm0.size
 replace hm0 := hm0.trans (hN11.mod.mono (by simp))
 have hb11 := hN11.blk
 clear hN11
 rw [uarr_made] at hb11
 refine L.v (R1.assign rfl) rfl <| L.nil <| X.seq <| W.seq <| W.region <| L.v (R1.assign rfl) rfl <| L.nil <| X.seq <| W.seq <| W.seq <| W.region ?_
 refine L.v (R1.move rfl) rfl <| L.v (R1.lenU rfl (by assumption) tyS33) rfl <| L.v ((R1.sub rfl rfl).as (wrap_i64 (by omega) (by omega))) rfl <| L.v (R1.assign rfl) rfl <| L.nil <| X.seq <| W.block <| W.loop (ι := Nat × Nat × List Nat) (fun (m, r, q) => [(0, va), (1, .int .u32 (b : Int)), (6, .slice (some ⟨g11, 0, none⟩) xs.length xs.length), (7, .int .u32 (r : Int)), (8, .int .i64 ((m : Int) - 1))]) (fun (m, r, q) w_ => m ≤ xs.length ∧ q.length = xs.length ∧ (∀ x ∈ q, x < 4294967296) ∧ r < b ∧ val (xs.drop m) = b * val (q.drop m) + r ∧ Blk w_ g11 60 (uarr q) ∧ U32 (g11 :: M) w_ va xs ∧ Mod [] w w_) (fun (m, r, q) => m) (xs.length, 0, List.replicate xs.length 0) ?_ ?_ ?_
 · exact ⟨rfl, rfl, rfl, rfl, rfl, trivial⟩
 ·
  exact ⟨Nat.le_refl _, by simp, rep_lt _, hb0, by simp [val], hb11, h, hm0⟩
 ·
  rintro ⟨m, r, q⟩ w2 ⟨hm, hql, hqx, hr, hv, hb11, h, hm0⟩
  refine W.seq <| W.seq <| W.region <| L.v (R1.move rfl) rfl <| L.v (R1.ge rfl rfl) rfl <| L.nil <| X.seq <| W.cond rfl ?_ ?_
  ·
   intro hc16
   try simp only [bq, ne_eq] at hc16
   have hm1 : 0 < m := by omega
   have hxm := h.lt (show m - 1 < xs.length by omega)
   have hq : (r * 4294967296 + xs[m - 1]) / b < 4294967296 := by rw [Nat.div_lt_iff_lt_mul (by omega)]; omega
   refine W.skip <| X.seq <| W.seq <| W.block <| W.region <| L.v (R1.move rfl) rfl <| L.v (R1.move rfl) rfl <| L.v (R1.move rfl) rfl <| L.v (R1.move rfl) rfl <| L.v (R1.move rfl) rfl <| L.v (R1.atU (j := (m - 1)) rfl rfl (by assumption) tyS33 (by omega) (by omega)) rfl ?_
   refine L.v (R1.ldU rfl (by assumption) tyP60 (by omega) rfl) rfl <| L.v (R1.move rfl) rfl <| L.call rfl (c_Div32 hr (h.lt (show m - 1 < xs.length by omega)) hb) rfl ?_
   rintro _ w3 ⟨rfl, hm3⟩
   replace hb11 := Blk.gr hb11 hm3
   replace h := h.gr hm3
   replace hm0 := hm0.trans hm3
   clear hm3
   refine L.v (R1.move rfl) rfl <| L.v (R1.extract rfl rfl) rfl <| L.v (R1.extract rfl rfl) rfl <| L.v (R1.atO (j := (m - 1)) rfl rfl tyS33 (by omega) (by omega)) rfl <| L.storeU rfl rfl hb11 (by omega) tyP60 ?_
   intro w4 hb11' hm4
   replace h := h.mod hm4 (by simp)
   replace hm0 := hm0.old1 hm4 hge_g11
   clear hm4
   replace hb11 := hb11'; clear hb11'
   refine L.v (R1.assign rfl) rfl <| L.nil <| X.blockEnd <| X.seq <| W.region <| L.v (R1.move rfl) rfl <| L.v ((R1.sub rfl rfl).as (j := ((m - 1 : Nat) : Int) - 1) (by rw [wrap_i64 (by omega) (by omega)]; omega)) rfl <| L.v (R1.assign rfl) rfl <| L.nil <| X.next (m - 1, (r * 4294967296 + xs[m - 1]) % b, q.set (m - 1) ((r * 4294967296 + xs[m - 1]) / b)) ?_ ?_ ?_
   · exact ⟨rfl, rfl, rfl, rfl, rfl, trivial⟩
   ·
    refine ⟨by omega, by simpa using hql, set_lt hqx hq, Nat.mod_lt _ hb0, ?_, hb11, h, hm0⟩
    rw [val_drop_set (by omega), val_drop_step (by omega), Nat.sub_add_cancel hm1]
    exact small_step hv rfl
   · first | omega | (dsimp only; omega)
  ·
   intro hc16
   try simp only [bq, ne_eq] at hc16
   obtain rfl : m = 0 := by omega
   rw [List.drop_zero, List.drop_zero] at hv
   refine W.exit <| X.thenExit <| X.nextExit <| X.here <| X.seq <| W.seq ?_
   have hU : U32 M w2 (.slice (some ⟨g11, 0, none⟩) xs.length xs.length) q := by
       have hU := U32.of_blk (M := M) hb11 (hbd0.not hge_g11) (by unfold maxLen; omega) hqx
       rw [hql] at hU; exact hU
   refine W.region <| L.v (R1.move rfl) rfl <| L.call rfl (c_nat_trim hU) rfl ?_
   rintro v33 w5 ⟨h33, hm5⟩
   replace hm0 := hm0.trans hm5
   clear hm5
   refine L.v (R1.move rfl) rfl <| L.v (R1.assign rfl) rfl <| L.v (R1.assign rfl) rfl <| L.nil <| X.seq <| W.ret <| X.result2 rfl (.tmp rfl (.tmp rfl .nil)) ?_
   have e1 : val xs / b = val q := by rw [hv, Nat.mul_add_div hb0, Nat.div_eq_of_lt hr, Nat.add_zero]
   have e2 : val xs % b = r := by rw [hv, Nat.mul_add_mod, Nat.mod_eq_of_lt hr]
   rw [e1, e2]
   exact ⟨_, rfl, h33, hm0⟩

end Go.Proofs.Ytfpipaoobmcomaa
