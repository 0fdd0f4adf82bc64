/- Walks: what the functions compute. -/
import Derived.Test.YtkjllbpfcokalaaG10B
namespace Go.Proofs.Ytkjllbpfcokalaa
open Go.RowKit
set_option linter.unusedVariables false
set_option linter.unusedSimpArgs false
set_option maxRecDepth 10000

/-- Is a sum implied, by the answer's rows? -/
def impD (z0 : Int) (rs : List (List Rat)) (ok : Bool) (c : CR) : Bool := !ok || (isC c (heldG z0 : Int) && (decide (leadD (reduceD rs (rowD (heldG z0) (conT c))) = heldG z0) && decide ((reduceD rs (rowD (heldG z0) (conT c))).getD (heldG z0) 0 = 0)))
/-- The number that a variable must be, by the answer's rows. -/
def fixDD (z0 v : Int) (rs : List (List Rat)) (ok : Bool) : Option Rat := if ok = true ∧ 0 ≤ v ∧ v < (heldG z0 : Int) then fixD (heldG z0) v.toNat rs else none
theorem fixDD_no {z0 v : Int} {rs : List (List Rat)} {ok : Bool} (h : ok = false ∨ v < 0 ∨ (heldG z0 : Int) ≤ v) : fixDD z0 v rs ok = none := by
  unfold fixDD
  rw [if_neg]
  rintro ⟨h1, h2, h3⟩
  rcases h with h | h | h
  · rw [h] at h1; cases h1
  · omega
  · omega
theorem fixDD_in {z0 : Int} {V : Nat} {rs : List (List Rat)} {ok : Bool} (h : ok = true) (hv : (V : Int) < (heldG z0 : Int)) : fixDD z0 (V : Int) rs ok = fixD (heldG z0) V rs := by
  unfold fixDD; rw [if_pos ⟨h, by omega, hv⟩, Int.toNat_natCast]
theorem fixD_skip {n V i : Nat} {rs : List (List Rat)} {z : List Rat} (hz : rs[i]? = some z) (h : leadD z ≠ V) : fixD n V (rs.drop i) = fixD n V (rs.drop (i + 1)) := by
  rw [drop_get hz]; simp only [fixD]; rw [if_neg h]
theorem fixD_bad {n V i k : Nat} {rs : List (List Rat)} {z : List Rat} (hz : rs[i]? = some z) (h : leadD z = V) (hk : V < k) (hk2 : k < n) (h0 : z.getD k 0 ≠ 0) : fixD n V (rs.drop i) = none := by
  rw [drop_get hz]; simp only [fixD]; rw [if_pos h, if_neg]
  intro hall
  have := List.all_eq_true.1 hall k (by simpa using hk2)
  simp only [Bool.or_eq_true, decide_eq_true_eq] at this
  rcases this with h1 | h1
  · omega
  · exact h0 h1
theorem fixD_yes {n V i : Nat} {rs : List (List Rat)} {z : List Rat} (hz : rs[i]? = some z) (h : leadD z = V) (h0 : ∀ k, V < k → k < n → z.getD k 0 = 0) : fixD n V (rs.drop i) = some (-(z.getD n 0)) := by
  rw [drop_get hz]; simp only [fixD]; rw [if_pos h, if_pos]
  refine List.all_eq_true.2 (fun k hk => ?_)
  simp only [Bool.or_eq_true, decide_eq_true_eq]
  rcases Nat.lt_or_ge V k with h1 | h1
  · exact .inr (h0 k h1 (by simpa using hk))
  · exact .inl h1

theorem c_hold10 {w : World} {z0 : Int} :
    Ret Try.prog 40 #[.int .i64 z0] w (fun r w' => r = .int .i64 ((heldG z0 : Nat) : Int) ∧ Mod [] w w') := by
 refine Ret.of (vs := [.int .i64 z0]) (n := 6) Try.func40 rfl rfl rfl rfl ?_
 have hm0 : Mod [] w w := Mod.refl _ _
 refine W.seq <| W.region <| L.v (R1.assign rfl) rfl <| L.nil <| X.seq <| W.seq <| W.region <| L.v (R1.move rfl) rfl <| L.v (R1.maxI rfl rfl) rfl <| L.v (R1.minI rfl rfl) rfl <| L.v (R1.assign rfl) rfl ?_
 refine L.nil <| X.seq <| W.ret <| X.result1 rfl (.tmp rfl .nil) <| ⟨?_, hm0⟩
 congr 1; unfold heldG; omega

theorem c_Consistent10 {M : List Nat} {w : World} {vl : Value} {cs : List CR} {z0 : Int} {t : Nat} (hL : Lay rdC M w vl cs) (hbd : Bd M w) (oks : OkS z0 t cs) :
    Ret Try.prog 24 #[vl, .int .i64 z0] w (fun r w' => ∃ rs ok, AInv (heldG z0) t (vecs (heldG z0) cs) rs ok ∧ r = .bool ok ∧ Mod [] w w') := by
 refine Ret.of (vs := [vl, .int .i64 z0]) (n := 15) Try.func24 rfl rfl rfl rfl ?_
 have hm0 : Mod [] w w := Mod.refl _ _
 refine W.seq <| W.region <| L.v (R1.assign rfl) rfl <| L.nil <| X.seq <| W.seq <| W.region <| L.v (R1.move rfl) rfl <| L.v (R1.move rfl) rfl <| L.call rfl (c_hold10) rfl ?_
 rintro _ w1 ⟨rfl, hm1⟩
 replace hL := hL.gr hm1
 replace hbd := hbd.gr hm1
 replace hm0 := hm0.trans hm1
 clear hm1
 refine L.call rfl (c_solve10 hL hbd oks) rfl ?_
 rintro _ w2 ⟨vR, rs, ok, rfl, hlR, hA, hm2⟩
 replace hL := hL.gr hm2
 replace hbd := hbd.gr hm2
 replace hm0 := hm0.trans hm2
 clear hm2
 refine L.v (R1.move rfl) rfl <| L.v (R1.extract rfl rfl) rfl <| L.v (R1.extract rfl rfl) rfl <| L.v (R1.assign rfl) rfl <| L.v (R1.assign rfl) rfl <| L.nil <| X.seq <| W.seq <| W.region <| L.v (R1.move rfl) rfl <| L.v (R1.assign rfl) rfl ?_
 refine L.nil <| X.seq <| W.ret <| X.result1 rfl (.tmp rfl .nil) ?_
 exact ⟨rs, ok, hA, rfl, hm0⟩

theorem c_Rank10 {M : List Nat} {w : World} {vl : Value} {cs : List CR} {z0 : Int} {t : Nat} (hL : Lay rdC M w vl cs) (hbd : Bd M w) (oks : OkS z0 t cs) :
    Ret Try.prog 29 #[vl, .int .i64 z0] w (fun r w' => ∃ rs ok, AInv (heldG z0) t (vecs (heldG z0) cs) rs ok ∧ r = .int .i64 (rs.length : Int) ∧ Mod [] w w') := by
 refine Ret.of (vs := [vl, .int .i64 z0]) (n := 16) Try.func29 rfl rfl rfl rfl ?_
 have hm0 : Mod [] w w := Mod.refl _ _
 refine W.seq <| W.region <| L.v (R1.assign rfl) rfl <| L.nil <| X.seq <| W.seq <| W.region <| L.v (R1.move rfl) rfl <| L.v (R1.move rfl) rfl <| L.call rfl (c_hold10) rfl ?_
 rintro _ w1 ⟨rfl, hm1⟩
 replace hL := hL.gr hm1
 replace hbd := hbd.gr hm1
 replace hm0 := hm0.trans hm1
 clear hm1
 refine L.call rfl (c_solve10 hL hbd oks) rfl ?_
 rintro _ w2 ⟨vR, rs, ok, rfl, hlR, hA, hm2⟩
 replace hL := hL.gr hm2
 replace hbd := hbd.gr hm2
 replace hm0 := hm0.trans hm2
 clear hm2
 refine L.v (R1.move rfl) rfl <| L.v (R1.extract rfl rfl) rfl <| L.v (R1.extract rfl rfl) rfl <| L.v (R1.assign rfl) rfl <| L.v (R1.assign rfl) rfl <| L.nil <| X.seq <| W.seq <| W.region <| L.v (R1.move rfl) rfl <| L.v (R1.lenLay rfl hlR tyS61) rfl ?_
 refine L.v (R1.assign rfl) rfl <| L.nil <| X.seq <| W.ret <| X.result1 rfl (.tmp rfl .nil) ?_
 exact ⟨rs, ok, hA, rfl, hm0⟩

set_option maxHeartbeats 1000000 in
theorem c_Implies10 {M : List Nat} {w : World} {vl : Value} {cs : List CR} {z0 : Int} {t : Nat} (hL : Lay rdC M w vl cs) (hbd : Bd M w) (oks : OkS z0 t cs) {c : CR} {vt vn vd : Value} (ht : Lay rdT M w vt c.ts) (h : U32 M w vn c.k.n) (k : U32 M w vd c.k.d) (hsm : SmC 1099511627776 c) (hvc : isC c ((heldG z0) : Int) = true → OvC (heldG z0) t (conT c)) :
    Ret Try.prog 30 #[vl, .agg #[.int .i64 c.st, vt, .bool c.k.s, vn, vd], .int .i64 z0] w (fun r w' => ∃ rs ok, AInv (heldG z0) t (vecs (heldG z0) cs) rs ok ∧ r = .bool (impD z0 rs ok c) ∧ Mod [] w w') := by
 obtain ⟨T9, t9, rfl⟩ := ht.form
 obtain ⟨A9, c9, rfl⟩ := h.form
 obtain ⟨B9, e9, rfl⟩ := k.form
 have hhd := heldG_le z0
 refine Ret.of (vs := [vl, .agg #[.int .i64 c.st, .slice T9 c.ts.length t9, .bool c.k.s, .slice A9 c.k.n.length c9, .slice B9 c.k.d.length e9], .int .i64 z0]) (n := 40) Try.func30 rfl rfl rfl rfl ?_
 have hm0 : Mod [] w w := Mod.refl _ _
 refine W.seq <| W.region <| L.box rfl rfl ?_
 intro g4 w1 hN4
 replace hL := hL.new hN4
 replace hbd := hbd.new hN4
 replace ht := ht.new hN4
 replace h := h.new hN4
 replace k := k.new hN4
 have hge_g4 := New.ge hN4 hm0.size
 replace hm0 := hm0.trans (hN4.mod.mono (by simp))
 have hb4 := hN4.blk
 clear hN4
 refine L.v (R1.assign rfl) rfl <| L.nil <| X.seq <| W.seq <| W.region <| L.v (R1.move rfl) rfl <| L.call rfl (c_hold10) rfl ?_
 rintro _ w2 ⟨rfl, hm2⟩
 replace hL := hL.gr hm2
 replace hbd := hbd.gr hm2
 replace ht := ht.gr hm2
 replace h := h.gr hm2
 replace k := k.gr hm2
 replace hm0 := hm0.trans hm2
 replace hb4 := Blk.gr hb4 hm2
 clear hm2
 refine L.v (R1.assign rfl) rfl <| L.nil <| X.seq <| W.seq <| W.region <| L.v (R1.move rfl) rfl <| L.v (R1.move rfl) rfl <| L.call rfl (c_solve10 hL hbd oks) rfl ?_
 rintro _ w3 ⟨vR, rs, ok, rfl, hlR, hA, hm3⟩
 replace hL := hL.gr hm3
 replace hbd := hbd.gr hm3
 replace ht := ht.gr hm3
 replace h := h.gr hm3
 replace k := k.gr hm3
 replace hm0 := hm0.trans hm3
 replace hb4 := Blk.gr hb4 hm3
 clear hm3
 refine L.v (R1.move rfl) rfl <| L.v (R1.extract rfl rfl) rfl <| L.v (R1.extract rfl rfl) rfl <| L.v (R1.assign rfl) rfl <| L.v (R1.assign rfl) rfl <| L.nil <| X.seq <| W.seq <| W.seq <| W.region <| L.v (R1.move rfl) rfl ?_
 refine L.v (R1.not rfl) rfl <| L.nil <| X.seq <| W.cond rfl ?_ ?_
 ·
  intro hc19
  try simp only [bq, ne_eq] at hc19
  refine W.seq <| W.region <| L.v (R1.assign rfl) rfl <| L.nil <| X.seq <| W.ret <| X.thenRet <| X.result1 rfl (.tmp rfl .nil) ?_
  exact ⟨rs, ok, hA, by rw [impD, hc19]; rfl, hm0⟩
 ·
  intro hc19
  try simp only [bq, ne_eq] at hc19
  refine W.skip <| X.seq <| W.seq <| W.seq <| W.region <| L.v (R1.loadBox rfl hb4 tyG29) rfl <| L.v (R1.move rfl) rfl <| L.call rfl (c_ref8_Is ht h k (n := ((heldG z0) : Int)) (by omega) hbd hsm) rfl ?_
  rintro _ w4 ⟨rfl, hm4⟩
  replace hL := hL.gr hm4
  replace hbd := hbd.gr hm4
  replace ht := ht.gr hm4
  replace h := h.gr hm4
  replace k := k.gr hm4
  replace hm0 := hm0.trans hm4
  replace hb4 := Blk.gr hb4 hm4
  replace hlR := hlR.gr hm4
  clear hm4
  refine L.v (R1.not rfl) rfl <| L.nil <| X.seq <| W.cond rfl ?_ ?_
  ·
   intro hc23
   try simp only [bq, ne_eq] at hc23
   refine W.seq <| W.region <| L.v (R1.assign rfl) rfl <| L.nil <| X.seq <| W.ret <| X.thenRet <| X.result1 rfl (.tmp rfl .nil) ?_
   exact ⟨rs, ok, hA, by rw [impD, hc19, hc23]; rfl, hm0⟩
  ·
   intro hc23
   try simp only [bq, ne_eq] at hc23
   refine W.skip <| X.seq <| W.seq <| W.region <| L.v (R1.move rfl) rfl <| L.v (R1.loadBox rfl hb4 tyG29) rfl <| L.v (R1.move rfl) rfl <| L.call rfl (c_row ht h k hbd (heldG_le _) hc23 hsm.1) rfl ?_
   rintro v27 w5 ⟨css6, ho6, hl6, hmX⟩
   refine L.call rfl (c_reduce (hlR.ownd ho6 hmX) ho6 hl6 hmX.size (hbd.ownd ho6 hmX) (by rw [rowD_length]; omega) (oks.red_ok hA hc23 (hvc hc23)) (fun r hr => ⟨(hA.row_ok oks.bn r hr).1, by rw [(hA.row_ok oks.bn r hr).2, rowD_length]⟩) (hA.len (heldG_le _))) rfl ?_
   rintro a9 w6 ⟨css7, ho7, hl7, hm6⟩
   replace hm6 := hmX.trans hm6
   replace hL := hL.ownd ho7 hm6
   replace hbd := hbd.ownd ho7 hm6
   replace ht := ht.ownd ho7 hm6
   replace h := h.ownd ho7 hm6
   replace k := k.ownd ho7 hm6
   replace hlR := hlR.ownd ho7 hm6
   have hno_ho7_g4 := own_ne_old ho7 hb4
   replace ho7 := own_less ho7 hm0.size
   replace hm0 := hm0.trans hm6
   replace hb4 := Blk.gr hb4 hm6
   clear hm6
   obtain ⟨a, hae⟩ : ∃ a, a = reduceD rs (rowD (heldG z0) (conT c)) := ⟨_, rfl⟩
   rw [← hae] at ho7 hl7
   have hok9 := oks.red_ok hA hc23 (hvc hc23) rs.length (Nat.le_refl _)
   rw [List.take_length, ← hae, rowD_length] at hok9
   obtain ⟨hfa, hal⟩ := hok9
   refine L.v (R1.assign rfl) rfl <| L.nil <| X.seq <| W.seq <| W.region <| L.v (R1.move rfl) rfl <| L.call rfl (c_lead (own_read ho7 hl7) hbd hfa (by omega) (by omega)) rfl ?_
   rintro _ w7 ⟨rfl, hm7⟩
   replace hL := hL.gr hm7
   replace hbd := hbd.gr hm7
   replace ht := ht.gr hm7
   replace h := h.gr hm7
   replace k := k.gr hm7
   replace hm0 := hm0.trans hm7
   replace hb4 := Blk.gr hb4 hm7
   replace hlR := hlR.gr hm7
   replace ho7 := own_gr ho7 hm7 (by simp)
   replace hl7 := hl7.gr hm7
   clear hm7
   obtain ⟨kk, hkk⟩ : ∃ kk, kk = leadD a := ⟨_, rfl⟩
   rw [← hkk]
   refine L.v (R1.move rfl) rfl <| L.v ((R1.eq rfl rfl).asB (c := decide (kk = (heldG z0))) (by congr 1; apply propext; omega)) rfl <| L.v (R1.move rfl) rfl ?_
   cases hgd33 : decide (kk = (heldG z0))
   ·
    try simp only [bq, ne_eq] at hgd33
    refine L.off rfl rfl rfl rfl rfl <| L.off rfl rfl rfl rfl rfl <| L.off rfl rfl rfl rfl rfl <| L.off rfl rfl rfl rfl rfl <| L.off rfl rfl rfl rfl rfl <| L.v (R1.pickF rfl rfl) rfl <| L.v (R1.assign rfl) rfl <| L.nil <| X.seq <| W.ret <| X.result1 rfl (.tmp rfl .nil) ?_
    refine ⟨rs, ok, hA, ?_, hm0⟩
    rw [impD, hc19, hc23, ← hae, ← hkk]; first | (rw [decide_eq_true hgd33, getD_of hz37]; rfl) | (rw [decide_eq_false hgd33]; rfl)
   ·
    try simp only [bq, ne_eq] at hgd33
    refine L.on rfl rfl rfl (R1.move rfl) rfl <| L.on rfl rfl rfl (R1.move rfl) rfl <| L.on rfl rfl rfl (R1.atOwn (i := (heldG z0)) rfl rfl ho7 tyS38 rfl (by omega)) rfl ?_
    obtain ⟨z37, cs37, hz37, hE37, A37, a37, B37, b37, rfl, hn37, hd37⟩ := own_elemQ ho7 rfl hl7 (j := (heldG z0)) (by omega)
    refine L.on rfl rfl rfl (R1.loadE rfl hE37 tyG27) rfl <| L.callOn rfl rfl rfl rfl (c_ref2_Zero (q := z37) (rv_toL _) hn37 hd37 hbd (Nat.le_trans (hfa _ (List.mem_of_getElem? hz37)).1 (by decide)) (Nat.le_trans (hfa _ (List.mem_of_getElem? hz37)).2 (by decide))) rfl ?_
    rintro _ w8 ⟨rfl, hm8⟩
    replace hL := hL.gr hm8
    replace hbd := hbd.gr hm8
    replace ht := ht.gr hm8
    replace h := h.gr hm8
    replace k := k.gr hm8
    replace hm0 := hm0.trans hm8
    replace hb4 := Blk.gr hb4 hm8
    replace hlR := hlR.gr hm8
    replace ho7 := own_gr ho7 hm8 (by simp)
    replace hl7 := hl7.gr hm8
    replace hn37 := hn37.gr hm8
    replace hd37 := hd37.gr hm8
    clear hm8
    refine L.v (R1.pickT rfl rfl) rfl <| L.v (R1.assign rfl) rfl <| L.nil <| X.seq <| W.ret <| X.result1 rfl (.tmp rfl .nil) <| ⟨rs, ok, hA, ?_, hm0⟩
    rw [impD, hc19, hc23, ← hae, ← hkk]; first | (rw [decide_eq_true hgd33, getD_of hz37]; rfl) | (rw [decide_eq_false hgd33]; rfl)

set_option maxHeartbeats 1000000 in
theorem c_Fixed10 {M : List Nat} {w : World} {vl : Value} {cs : List CR} {z0 : Int} {t : Nat} (hL : Lay rdC M w vl cs) (hbd : Bd M w) (oks : OkS z0 t cs) {v : Int} :
    Ret Try.prog 19 #[vl, .int .i64 v, .int .i64 z0] w (fun r w' => ∃ rs ok q, AInv (heldG z0) t (vecs (heldG z0) cs) rs ok ∧ r = .tuple #[q, .bool (fixDD z0 v rs ok).isSome] ∧ RV M w' q ((fixDD z0 v rs ok).getD 0) ∧ Mod [] w w') := by
 have hhd := heldG_le z0
 refine Ret.of (vs := [vl, .int .i64 v, .int .i64 z0]) (n := 71) Try.func19 rfl rfl rfl rfl ?_
 have hm0 : Mod [] w w := Mod.refl _ _
 refine W.seq <| W.region <| L.alloc tyZ27 rfl ?_
 intro g6 w1 hN6
 replace hL := hL.new hN6
 replace hbd := hbd.new hN6
 have hge_g6 := New.ge hN6 hm0.size
 replace hm0 := hm0.trans (hN6.mod.mono (by simp))
 have hb6 := hN6.blk
 clear hN6
 refine L.v (R1.assign rfl) rfl <| L.nil <| X.seq <| W.seq <| W.region <| L.v (R1.move rfl) rfl <| L.call rfl (c_hold10) rfl ?_
 rintro _ w2 ⟨rfl, hm2⟩
 replace hL := hL.gr hm2
 replace hbd := hbd.gr hm2
 replace hm0 := hm0.trans hm2
 replace hb6 := Blk.gr hb6 hm2
 clear hm2
 refine L.v (R1.assign rfl) rfl <| L.nil <| X.seq <| W.seq <| W.region <| L.v (R1.move rfl) rfl <| L.v (R1.move rfl) rfl <| L.call rfl (c_solve10 hL hbd oks) rfl ?_
 rintro _ w3 ⟨vR, rs, ok, rfl, hlR, hA, hm3⟩
 replace hL := hL.gr hm3
 replace hbd := hbd.gr hm3
 replace hm0 := hm0.trans hm3
 replace hb6 := Blk.gr hb6 hm3
 clear hm3
 refine L.v (R1.move rfl) rfl <| L.v (R1.extract rfl rfl) rfl <| L.v (R1.extract rfl rfl) rfl <| L.v (R1.assign rfl) rfl <| L.v (R1.assign rfl) rfl <| L.nil <| X.seq <| W.seq <| W.seq <| W.region <| L.v (R1.move rfl) rfl ?_
 refine L.v (R1.not rfl) rfl <| L.v (R1.move rfl) rfl ?_
 cases hgd22 : (!ok)
 ·
  try simp only [bq, ne_eq] at hgd22
  refine L.on rfl rfl rfl (R1.move rfl) rfl <| L.on rfl rfl rfl ((R1.lt rfl rfl).asB (c := decide (v < 0)) (rfl)) rfl <| L.v (R1.pickF rfl rfl) rfl <| L.v (R1.move rfl) rfl ?_
  cases hgd26 : decide (v < 0)
  ·
   simp only [bq] at hgd26
   refine L.on rfl rfl rfl (R1.move rfl) rfl <| L.on rfl rfl rfl (R1.move rfl) rfl <| L.on rfl rfl rfl ((R1.ge rfl rfl).asB (c := decide (((heldG z0) : Int) ≤ v)) (rfl)) rfl <| L.v (R1.pickF rfl rfl) rfl <| L.nil <| X.seq <| W.cond rfl ?_ ?_
   ·
    intro hc30
    simp only [bq] at hc30
    refine W.seq <| W.region <| L.call rfl (c_ref2_Int (n := 0) (by decide) (by decide) hbd) rfl ?_
    rintro _ w4 ⟨⟨A31, c31, B31, e31, rfl, hn31, hd31⟩, hm4⟩
    replace hL := hL.gr hm4
    replace hbd := hbd.gr hm4
    replace hm0 := hm0.trans hm4
    replace hb6 := Blk.gr hb6 hm4
    replace hlR := hlR.gr hm4
    clear hm4
    have F31 := Fit.int (n := 0) (by decide) (by decide)
    refine L.storeBox rfl rfl hb6 rfl rfl tyG27 ?_
    intro w5 hb6' hm5
    replace hL := hL.mod hm5 (by simp)
    replace hbd := hbd.gr hm5
    replace hm0 := hm0.old1 hm5 hge_g6
    replace hlR := hlR.mod hm5 (by simp)
    replace hn31 := hn31.mod hm5 (by simp)
    replace hd31 := hd31.mod hm5 (by simp)
    clear hm5
    replace hb6 := hb6'; clear hb6'
    refine L.v (R1.assign rfl) rfl <| L.nil <| X.seq <| W.ret <| X.thenRet <| X.result2 rfl (.cell rfl (loadVar_blk hb6 tyG27) (.tmp rfl .nil)) ?_
    have hno := fixDD_no (z0 := z0) (v := v) (rs := rs) (ok := ok) (by first | exact .inl hgd22 | exact .inr (.inl hgd26) | exact .inr (.inr hc30))
    exact ⟨rs, ok, _, hA, by rw [hno]; rfl, by rw [hno]; exact (RV.of (q := ((0 : Int) : Rat)) (hn31.sub (by intro b hb; first | exact hb | (simp only [mq] at hb ⊢; grind))) (hd31.sub (by intro b hb; first | exact hb | (simp only [mq] at hb ⊢; grind))) (F31.mono (by decide))), hm0⟩
   ·
    intro hc30
    simp only [bq] at hc30
    obtain ⟨V, rfl⟩ : ∃ V : Nat, v = (V : Int) := ⟨v.toNat, by omega⟩
    have okr := hA.row_ok oks.bn
    have hrl := hA.len (heldG_le z0)
    have hfd := fixDD_in (rs := rs) hgd22 hc30
    refine W.skip <| X.seq <| W.seq <| W.seq <| W.region <| L.v (R1.assign rfl) rfl <| L.nil <| X.seq <| W.block <| W.loop (ι := Nat) (fun i => [(1, .int .i64 (V : Int)), (2, .int .i64 (((heldG z0) : Nat) : Int)), (6, .pointer (some ⟨g6, 0, none⟩)), (8, vR), (10, .int .i64 (i : Int))]) (fun i w_ => Lay (rdR rdP) (g6 :: M) w_ vR rs ∧ Blk w_ g6 27 #[.bool false, .slice none 0 0, .slice none 0 0] ∧ w.heap.size ≤ g6 ∧ Bd (g6 :: M) w_ ∧ Mod [] w w_ ∧ i ≤ rs.length ∧ fixD (heldG z0) V rs = fixD (heldG z0) V (rs.drop i)) (fun i => rs.length - i) 0 ?_ ?_ ?_
    · exact ⟨rfl, rfl, rfl, rfl, rfl, trivial⟩
    ·
     exact ⟨hlR.sub (by intro b hb; first | exact hb | (simp only [mq] at hb ⊢; grind)), hb6, hge_g6, hbd.sub (by intro b hb; first | exact hb | (simp only [mq] at hb ⊢; grind)), hm0, Nat.zero_le _, rfl⟩
    ·
     rintro i w6 ⟨hlR, hb6, hge_g6, hbd, hm0, hi, hfx⟩
     refine W.seq <| W.seq <| W.region <| L.v (R1.move rfl) rfl <| L.v (R1.move rfl) rfl <| L.v (R1.lenLay rfl hlR tyS61) rfl <| L.v (R1.lt rfl rfl) rfl <| L.nil <| X.seq <| W.cond rfl ?_ ?_
     ·
      intro hc35
      try simp only [bq, ne_eq] at hc35
      refine W.skip <| X.seq <| W.seq <| W.block <| W.seq <| W.seq <| W.region <| L.v (R1.move rfl) rfl <| L.v (R1.move rfl) rfl <| L.v (R1.atLay (j := i) rfl rfl hlR tyS61 rfl (by omega)) rfl ?_
      obtain ⟨z41, cs41, hz41, hE41, v41, rfl, hl41⟩ := Lay.elemQ hlR (j := i) (by omega)
      obtain ⟨A41, a41, rfl⟩ := hl41.form
      refine L.v (R1.loadE1 rfl hE41 tyP38) rfl <| L.call rfl (c_lead hl41 hbd (okr _ (List.mem_of_getElem? hz41)).1 (by have h9 := (okr _ (List.mem_of_getElem? hz41)).2; omega) (by have h9 := (okr _ (List.mem_of_getElem? hz41)).2; omega)) rfl ?_
      rintro _ w7 ⟨rfl, hm7⟩
      replace hlR := hlR.gr hm7
      replace hb6 := Blk.gr hb6 hm7
      replace hbd := hbd.gr hm7
      replace hm0 := hm0.trans hm7
      replace hl41 := hl41.gr hm7
      clear hm7
      refine L.v (R1.move rfl) rfl <| L.v ((R1.ne rfl rfl).asB (c := decide (leadD z41 ≠ V)) (by congr 1; apply propext; omega)) rfl <| L.nil <| X.seq <| W.cond rfl ?_ ?_
      ·
       intro hc44
       simp only [decide_eq_true_eq, decide_eq_false_iff_not, ne_eq, Decidable.not_not] at hc44
       refine W.exit <| X.thenExit <| X.here <| X.seq <| W.region <| L.v (R1.move rfl) rfl <| L.v (R1.addI (b := 1) rfl rfl (by omega)) rfl <| L.v (R1.assign rfl) rfl <| L.nil <| X.next (i + 1) ?_ ?_ ?_
       · exact ⟨rfl, rfl, rfl, rfl, rfl, trivial⟩
       ·
        exact ⟨hlR.sub (by intro b hb; first | exact hb | (simp only [mq] at hb ⊢; grind)), hb6, hge_g6, hbd.sub (by intro b hb; first | exact hb | (simp only [mq] at hb ⊢; grind)), hm0, by omega, by rw [hfx, fixD_skip hz41 hc44]⟩
       · first | omega | (dsimp only; omega)
      ·
       intro hc44
       simp only [decide_eq_true_eq, decide_eq_false_iff_not, ne_eq, Decidable.not_not] at hc44
       refine W.skip <| X.seq <| W.seq <| W.seq <| W.region <| L.v (R1.move rfl) rfl <| L.v (R1.addI (b := 1) rfl rfl (by omega)) rfl <| L.v (R1.assign rfl) rfl <| L.nil <| X.seq <| W.block ?_
       refine W.loop (ι := Nat) (fun k => [(1, .int .i64 (V : Int)), (2, .int .i64 (((heldG z0) : Nat) : Int)), (6, .pointer (some ⟨g6, 0, none⟩)), (8, vR), (10, .int .i64 (i : Int)), (11, .int .i64 (k : Int))]) (fun k w_ => Lay (rdR rdP) (g6 :: M) w_ vR rs ∧ Blk w_ g6 27 #[.bool false, .slice none 0 0, .slice none 0 0] ∧ w.heap.size ≤ g6 ∧ Bd (g6 :: M) w_ ∧ Mod [] w w_ ∧ k ≤ (heldG z0) ∧ V + 1 ≤ k ∧ (∀ j, V < j → j < k → z41.getD j 0 = 0)) (fun k => (heldG z0) - k) (V + 1) ?_ ?_ ?_
       · exact ⟨rfl, rfl, rfl, rfl, rfl, rfl, trivial⟩
       ·
        exact ⟨hlR.sub (by intro b hb; first | exact hb | (simp only [mq] at hb ⊢; grind)), hb6, hge_g6, hbd.sub (by intro b hb; first | exact hb | (simp only [mq] at hb ⊢; grind)), hm0, by omega, Nat.le_refl _, (fun j h1 h2 => by omega)⟩
       ·
        rintro k w8 ⟨hlR, hb6, hge_g6, hbd, hm0, hk, hk1, h0⟩
        refine W.seq <| W.seq <| W.region <| L.v (R1.move rfl) rfl <| L.v (R1.move rfl) rfl <| L.v (R1.lt rfl rfl) rfl <| L.nil <| X.seq <| W.cond rfl ?_ ?_
        ·
         intro hc49
         try simp only [bq, ne_eq] at hc49
         refine W.skip <| X.seq <| W.seq <| W.block <| W.seq <| W.region <| L.v (R1.move rfl) rfl <| L.v (R1.move rfl) rfl <| L.v (R1.atLay (j := i) rfl rfl hlR tyS61 rfl (by omega)) rfl ?_
         obtain ⟨z55, cs55, hz55, hE55, v55, rfl, hl55⟩ := Lay.elemQ hlR (j := i) (by omega)
         obtain ⟨A55, a55, rfl⟩ := hl55.form
         obtain rfl : z41 = z55 := by have h9 := hz55; rw [hz41] at h9; injection h9
         refine L.v (R1.loadE1 rfl hE55 tyP38) rfl <| L.v (R1.move rfl) rfl <| L.v (R1.atLay (j := k) rfl rfl hl55 tyS38 rfl (by have h9 := (okr _ (List.mem_of_getElem? hz41)).2; omega)) rfl ?_
         obtain ⟨z58, cs58, hz58, hE58, A58, a58, B58, b58, rfl, hn58, hd58⟩ := Lay.elemQ hl55 (j := k) (by have h9 := (okr _ (List.mem_of_getElem? hz41)).2; omega)
         refine L.v (R1.loadE rfl hE58 tyG27) rfl <| L.call rfl (c_ref2_Zero (q := z58) (rv_toL _) hn58 hd58 hbd (Nat.le_trans ((okr _ (List.mem_of_getElem? hz41)).1 _ (List.mem_of_getElem? hz58)).1 (by decide)) (Nat.le_trans ((okr _ (List.mem_of_getElem? hz41)).1 _ (List.mem_of_getElem? hz58)).2 (by decide))) rfl ?_
         rintro _ w9 ⟨rfl, hm9⟩
         replace hlR := hlR.gr hm9
         replace hb6 := Blk.gr hb6 hm9
         replace hbd := hbd.gr hm9
         replace hm0 := hm0.trans hm9
         replace hl55 := hl55.gr hm9
         replace hn58 := hn58.gr hm9
         replace hd58 := hd58.gr hm9
         clear hm9
         refine L.v (R1.not rfl) rfl <| L.nil <| X.seq <| W.cond rfl ?_ ?_
         ·
          intro hc60
          simp only [Bool.not_eq_true', Bool.not_eq_false', decide_eq_true_eq, decide_eq_false_iff_not] at hc60
          refine W.seq <| W.region <| L.call rfl (c_ref2_Int (n := 0) (by decide) (by decide) hbd) rfl ?_
          rintro _ w10 ⟨⟨A61, c61, B61, e61, rfl, hn61, hd61⟩, hm10⟩
          replace hlR := hlR.gr hm10
          replace hb6 := Blk.gr hb6 hm10
          replace hbd := hbd.gr hm10
          replace hm0 := hm0.trans hm10
          replace hl55 := hl55.gr hm10
          replace hn58 := hn58.gr hm10
          replace hd58 := hd58.gr hm10
          clear hm10
          have F61 := Fit.int (n := 0) (by decide) (by decide)
          refine L.storeBox rfl rfl hb6 rfl rfl tyG27 ?_
          intro w11 hb6' hm11
          replace hlR := hlR.mod hm11 (by simp)
          replace hbd := hbd.gr hm11
          replace hm0 := hm0.old1 hm11 hge_g6
          replace hl55 := hl55.mod hm11 (by simp)
          replace hn58 := hn58.mod hm11 (by simp)
          replace hd58 := hd58.mod hm11 (by simp)
          replace hn61 := hn61.mod hm11 (by simp)
          replace hd61 := hd61.mod hm11 (by simp)
          clear hm11
          replace hb6 := hb6'; clear hb6'
          refine L.v (R1.assign rfl) rfl <| L.nil <| X.seq <| W.ret <| X.blockRet <| X.thenRet <| X.nextRet <| X.blockRet <| X.thenRet <| X.blockRet <| X.thenRet ?_
          refine X.nextRet <| X.blockRet <| X.thenRet <| X.result2 rfl (.cell rfl (loadVar_blk hb6 tyG27) (.tmp rfl .nil)) ?_
          have hno := fixD_bad (n := (heldG z0)) (k := k) hz41 hc44 (by omega) (by omega) (by rw [getD_of hz58]; exact hc60)
          exact ⟨rs, ok, _, hA, by rw [hfd, hfx, hno]; rfl, by rw [hfd, hfx, hno]; exact (RV.of (q := ((0 : Int) : Rat)) (hn61.sub (by intro b hb; first | exact hb | (simp only [mq] at hb ⊢; grind))) (hd61.sub (by intro b hb; first | exact hb | (simp only [mq] at hb ⊢; grind))) (F61.mono (by decide))), hm0⟩
         ·
          intro hc60
          simp only [Bool.not_eq_true', Bool.not_eq_false', decide_eq_true_eq, decide_eq_false_iff_not] at hc60
          refine W.skip <| X.blockEnd <| X.seq <| W.region <| L.v (R1.move rfl) rfl <| L.v (R1.addI (b := 1) rfl rfl (by omega)) rfl <| L.v (R1.assign rfl) rfl <| L.nil <| X.next (k + 1) ?_ ?_ ?_
          · exact ⟨rfl, rfl, rfl, rfl, rfl, rfl, trivial⟩
          ·
           exact ⟨hlR.sub (by intro b hb; first | exact hb | (simp only [mq] at hb ⊢; grind)), hb6, hge_g6, hbd.sub (by intro b hb; first | exact hb | (simp only [mq] at hb ⊢; grind)), hm0, by omega, by omega, up_to h0 (by rw [getD_of hz58]; exact hc60)⟩
          · first | omega | (dsimp only; omega)
        ·
         intro hc49
         try simp only [bq, ne_eq] at hc49
         have hkn : k = (heldG z0) := by omega
         refine W.exit <| X.thenExit <| X.nextExit <| X.here <| X.seq <| W.seq <| W.region <| L.v (R1.move rfl) rfl <| L.v (R1.move rfl) rfl <| L.v (R1.atLay (j := i) rfl rfl hlR tyS61 rfl (by omega)) rfl ?_
         obtain ⟨z65, cs65, hz65, hE65, v65, rfl, hl65⟩ := Lay.elemQ hlR (j := i) (by omega)
         obtain ⟨A65, a65, rfl⟩ := hl65.form
         obtain rfl : z41 = z65 := by have h9 := hz65; rw [hz41] at h9; injection h9
         refine L.v (R1.loadE1 rfl hE65 tyP38) rfl <| L.v (R1.move rfl) rfl <| L.v (R1.atLay (j := (heldG z0)) rfl rfl hl65 tyS38 rfl (by have h9 := (okr _ (List.mem_of_getElem? hz41)).2; omega)) rfl ?_
         obtain ⟨z68, cs68, hz68, hE68, A68, a68, B68, b68, rfl, hn68, hd68⟩ := Lay.elemQ hl65 (j := (heldG z0)) (by have h9 := (okr _ (List.mem_of_getElem? hz41)).2; omega)
         refine L.v (R1.loadE rfl hE68 tyG27) rfl <| L.call rfl (c_ref2_Neg (q := z68) (rv_toL _) hn68 hd68 hbd (Nat.le_trans ((okr _ (List.mem_of_getElem? hz41)).1 _ (List.mem_of_getElem? hz68)).1 (by decide)) (Nat.le_trans ((okr _ (List.mem_of_getElem? hz41)).1 _ (List.mem_of_getElem? hz68)).2 (by decide))) rfl ?_
         rintro _ w12 ⟨⟨A69, c69, B69, e69, rfl, hn69, hd69⟩, hm12⟩
         replace hlR := hlR.gr hm12
         replace hb6 := Blk.gr hb6 hm12
         replace hbd := hbd.gr hm12
         replace hm0 := hm0.trans hm12
         replace hl65 := hl65.gr hm12
         replace hn68 := hn68.gr hm12
         replace hd68 := hd68.gr hm12
         clear hm12
         have F69 := Fit.neg ((okr _ (List.mem_of_getElem? hz41)).1 _ (List.mem_of_getElem? hz68))
         refine L.storeBox rfl rfl hb6 rfl rfl tyG27 ?_
         intro w13 hb6' hm13
         replace hlR := hlR.mod hm13 (by simp)
         replace hbd := hbd.gr hm13
         replace hm0 := hm0.old1 hm13 hge_g6
         replace hl65 := hl65.mod hm13 (by simp)
         replace hn68 := hn68.mod hm13 (by simp)
         replace hd68 := hd68.mod hm13 (by simp)
         replace hn69 := hn69.mod hm13 (by simp)
         replace hd69 := hd69.mod hm13 (by simp)
         clear hm13
         replace hb6 := hb6'; clear hb6'
         refine L.v (R1.assign rfl) rfl <| L.nil <| X.seq <| W.ret <| X.blockRet <| X.thenRet <| X.nextRet <| X.blockRet <| X.thenRet <| X.result2 rfl (.cell rfl (loadVar_blk hb6 tyG27) (.tmp rfl .nil)) ?_
         have hye := fixD_yes (n := (heldG z0)) hz41 hc44 (fun j h1 h2 => h0 j h1 (by omega))
         rw [getD_of hz68] at hye
         exact ⟨rs, ok, _, hA, by rw [hfd, hfx, hye]; rfl, by rw [hfd, hfx, hye]; exact RV.of (hn69.sub (by intro b hb; first | exact hb | (simp only [mq] at hb ⊢; grind))) (hd69.sub (by intro b hb; first | exact hb | (simp only [mq] at hb ⊢; grind))) F69, hm0⟩
     ·
      intro hc35
      try simp only [bq, ne_eq] at hc35
      obtain rfl : i = rs.length := by omega
      rw [List.drop_length] at hfx
      refine W.exit <| X.thenExit <| X.nextExit <| X.here <| X.seq <| W.seq <| W.region <| L.call rfl (c_ref2_Int (n := 0) (by decide) (by decide) hbd) rfl ?_
      rintro _ w14 ⟨⟨A70, c70, B70, e70, rfl, hn70, hd70⟩, hm14⟩
      replace hlR := hlR.gr hm14
      replace hb6 := Blk.gr hb6 hm14
      replace hbd := hbd.gr hm14
      replace hm0 := hm0.trans hm14
      clear hm14
      have F70 := Fit.int (n := 0) (by decide) (by decide)
      refine L.storeBox rfl rfl hb6 rfl rfl tyG27 ?_
      intro w15 hb6' hm15
      replace hlR := hlR.mod hm15 (by simp)
      replace hbd := hbd.gr hm15
      replace hm0 := hm0.old1 hm15 hge_g6
      replace hn70 := hn70.mod hm15 (by simp)
      replace hd70 := hd70.mod hm15 (by simp)
      clear hm15
      replace hb6 := hb6'; clear hb6'
      refine L.v (R1.assign rfl) rfl <| L.nil <| X.seq <| W.ret <| X.result2 rfl (.cell rfl (loadVar_blk hb6 tyG27) (.tmp rfl .nil)) ?_
      exact ⟨rs, ok, _, hA, by rw [hfd, hfx]; rfl, by rw [hfd, hfx]; exact (RV.of (q := ((0 : Int) : Rat)) (hn70.sub (by intro b hb; first | exact hb | (simp only [mq] at hb ⊢; grind))) (hd70.sub (by intro b hb; first | exact hb | (simp only [mq] at hb ⊢; grind))) (F70.mono (by decide))), hm0⟩
  ·
   simp only [bq] at hgd26
   refine L.off rfl rfl rfl rfl rfl <| L.off rfl rfl rfl rfl rfl <| L.off rfl rfl rfl rfl rfl <| L.v (R1.pickT rfl rfl) rfl <| L.nil <| X.seq <| W.condT rfl <| W.seq <| W.region <| L.call rfl (c_ref2_Int (n := 0) (by decide) (by decide) hbd) rfl ?_
   rintro _ w16 ⟨⟨A31, c31, B31, e31, rfl, hn31, hd31⟩, hm16⟩
   replace hL := hL.gr hm16
   replace hbd := hbd.gr hm16
   replace hm0 := hm0.trans hm16
   replace hb6 := Blk.gr hb6 hm16
   replace hlR := hlR.gr hm16
   clear hm16
   have F31 := Fit.int (n := 0) (by decide) (by decide)
   refine L.storeBox rfl rfl hb6 rfl rfl tyG27 ?_
   intro w17 hb6' hm17
   replace hL := hL.mod hm17 (by simp)
   replace hbd := hbd.gr hm17
   replace hm0 := hm0.old1 hm17 hge_g6
   replace hlR := hlR.mod hm17 (by simp)
   replace hn31 := hn31.mod hm17 (by simp)
   replace hd31 := hd31.mod hm17 (by simp)
   clear hm17
   replace hb6 := hb6'; clear hb6'
   refine L.v (R1.assign rfl) rfl <| L.nil <| X.seq <| W.ret <| X.thenRet <| X.result2 rfl (.cell rfl (loadVar_blk hb6 tyG27) (.tmp rfl .nil)) ?_
   have hno := fixDD_no (z0 := z0) (v := v) (rs := rs) (ok := ok) (by first | exact .inl hgd22 | exact .inr (.inl hgd26) | exact .inr (.inr hc30))
   exact ⟨rs, ok, _, hA, by rw [hno]; rfl, by rw [hno]; exact (RV.of (q := ((0 : Int) : Rat)) (hn31.sub (by intro b hb; first | exact hb | (simp only [mq] at hb ⊢; grind))) (hd31.sub (by intro b hb; first | exact hb | (simp only [mq] at hb ⊢; grind))) (F31.mono (by decide))), hm0⟩
 ·
  try simp only [bq, ne_eq] at hgd22
  refine L.off rfl rfl rfl rfl rfl <| L.off rfl rfl rfl rfl rfl <| L.v (R1.pickT rfl rfl) rfl <| L.v (R1.move rfl) rfl <| L.off rfl rfl rfl rfl rfl <| L.off rfl rfl rfl rfl rfl <| L.off rfl rfl rfl rfl rfl <| L.v (R1.pickT rfl rfl) rfl <| L.nil <| X.seq <| W.condT rfl ?_
  refine W.seq <| W.region <| L.call rfl (c_ref2_Int (n := 0) (by decide) (by decide) hbd) rfl ?_
  rintro _ w18 ⟨⟨A31, c31, B31, e31, rfl, hn31, hd31⟩, hm18⟩
  replace hL := hL.gr hm18
  replace hbd := hbd.gr hm18
  replace hm0 := hm0.trans hm18
  replace hb6 := Blk.gr hb6 hm18
  replace hlR := hlR.gr hm18
  clear hm18
  have F31 := Fit.int (n := 0) (by decide) (by decide)
  refine L.storeBox rfl rfl hb6 rfl rfl tyG27 ?_
  intro w19 hb6' hm19
  replace hL := hL.mod hm19 (by simp)
  replace hbd := hbd.gr hm19
  replace hm0 := hm0.old1 hm19 hge_g6
  replace hlR := hlR.mod hm19 (by simp)
  replace hn31 := hn31.mod hm19 (by simp)
  replace hd31 := hd31.mod hm19 (by simp)
  clear hm19
  replace hb6 := hb6'; clear hb6'
  refine L.v (R1.assign rfl) rfl <| L.nil <| X.seq <| W.ret <| X.thenRet <| X.result2 rfl (.cell rfl (loadVar_blk hb6 tyG27) (.tmp rfl .nil)) ?_
  have hno := fixDD_no (z0 := z0) (v := v) (rs := rs) (ok := ok) (by first | exact .inl hgd22 | exact .inr (.inl hgd26) | exact .inr (.inr hc30))
  exact ⟨rs, ok, _, hA, by rw [hno]; rfl, by rw [hno]; exact (RV.of (q := ((0 : Int) : Rat)) (hn31.sub (by intro b hb; first | exact hb | (simp only [mq] at hb ⊢; grind))) (hd31.sub (by intro b hb; first | exact hb | (simp only [mq] at hb ⊢; grind))) (F31.mono (by decide))), hm0⟩

end Go.Proofs.Ytkjllbpfcokalaa
