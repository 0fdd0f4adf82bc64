/- Walks: what the functions compute. -/
import Derived.Test.YtpnhihljgkohcaaG10A
import Derived.Test.YtpnhihljgkohcaaGaC
namespace Go.Proofs.Ytpnhihljgkohcaa
open Go.RowKit
set_option linter.unusedVariables false
set_option linter.unusedSimpArgs false
set_option maxRecDepth 10000

theorem RepDs.of_mem {n : Nat} : ∀ {rs : List (List Rat)} {R : List Row}, RepDs n rs R → ∀ {x : List Rat}, x ∈ rs → ∃ r ∈ R, RepD n x r
  | _, _, .cons h1 h2, x, hx => by
    rcases List.mem_cons.1 hx with rfl | h3
    · exact ⟨_, by simp, h1⟩
    · obtain ⟨r, h4, h5⟩ := h2.of_mem h3; exact ⟨r, by simp [h4], h5⟩
theorem RepDs.split {n : Nat} : ∀ {rs1 rs2 : List (List Rat)} {R : List Row}, RepDs n (rs1 ++ rs2) R → ∃ R1 R2, R = R1 ++ R2 ∧ RepDs n rs1 R1
  | [], _, R, _ => ⟨[], R, rfl, .nil⟩
  | r :: rs1, rs2, _, .cons h1 h2 => by
    obtain ⟨R1, R2, e, h3⟩ := RepDs.split h2
    exact ⟨_ :: R1, R2, by rw [e]; rfl, .cons h1 h3⟩
theorem fitL_dv {a : List Rat} {D T : Nat} (hD : 0 < D) (hlt : D < 4294967296 ^ T) (h : Ov D T (dv a)) (hT : T ≤ 17179869184) : FitL a := fun x hx => by
  obtain ⟨i, hi, rfl⟩ := List.mem_iff_getElem.1 hx
  obtain ⟨z, h1, h2⟩ := h i
  have e : dv a i = a[i] := by simp [dv, List.getD, hi]
  rw [e] at h1
  exact (Fit.ov h1 hD hlt h2).mono hT
theorem AInv.row_ok {n t : Nat} {L : List Vec} {rs : List (List Rat)} {ok : Bool} (h : AInv n t L rs ok) (hb : 4 * bnd t n + 4 * t + 8 ≤ 17179869184) : ∀ r ∈ rs, FitL r ∧ r.length = n + 1 := fun x hx => by
  obtain ⟨R, D, h1, h2, h3⟩ := h
  obtain ⟨r, hr, h4⟩ := h1.of_mem hx
  have hT := bnd_mono (t := t) h2.rank_n
  have hov := h3.ov r hr
  rw [← h4.vec] at hov
  exact ⟨fitL_dv h3.pos h3.lt hov (by omega), h4.len⟩
theorem AInv.red_fit {n t d : Nat} {L : List Vec} {rs : List (List Rat)} {ok : Bool} {c : List Rat} (h : AInv n t L rs ok) (hn : n ≤ 64) (hb : 4 * bnd t n + 4 * t + 8 ≤ 17179869184) (hc : c.length = n + 1) (hd : 0 < d) (hdt : d < 4294967296 ^ t) (ho : Ov d t (dv c)) : ∀ i, (∀ x ∈ reduceD (rs.take i) c, Fit x (t + bnd t n + 1)) ∧ (reduceD (rs.take i) c).length = c.length := fun i => by
  obtain ⟨R, D, h1, h2, h3⟩ := h
  have hr := h2.rank_n
  have hT := bnd_mono (t := t) hr
  have h1' : RepDs n (rs.take i ++ rs.drop i) R := by rw [List.take_append_drop]; exact h1
  obtain ⟨R1, R2, e, h4⟩ := h1'.split
  obtain ⟨h5, h6⟩ := reduceD_spec h4 hc
  subst e
  have hlen : R1.length < 4294967295 := by simp at hr; omega
  have h7 := red_ov h2.good.take hlen h3.lt (fun r hr => h3.ov r (by simp [hr])) ho
  rw [← h6] at h7
  refine ⟨fun x hx => ?_, by rw [h5, hc]⟩
  obtain ⟨j, hj, rfl⟩ := List.mem_iff_getElem.1 hx
  obtain ⟨z, h8, h9⟩ := h7 j
  have e : dv (reduceD (rs.take i) c) j = (reduceD (rs.take i) c)[j] := by simp [dv, List.getD, hj]
  rw [e] at h8
  have hlt : D * d < 4294967296 ^ (t + bnd t (R1 ++ R2).length + 1) := by
    have h10 : D * d < 4294967296 ^ bnd t (R1 ++ R2).length * 4294967296 ^ t := Nat.mul_lt_mul'' h3.lt hdt
    have h11 : 4294967296 ^ (t + bnd t (R1 ++ R2).length + 1) = 4294967296 ^ bnd t (R1 ++ R2).length * 4294967296 ^ t * 4294967296 := by rw [Nat.pow_succ, Nat.pow_add, Nat.mul_comm (4294967296 ^ t)]
    omega
  exact (Fit.ov h8 (Nat.mul_pos h3.pos hd) hlt h9).mono (by omega)
theorem AInv.red_ok {n t d : Nat} {L : List Vec} {rs : List (List Rat)} {ok : Bool} {c : List Rat} (h : AInv n t L rs ok) (hn : n ≤ 64) (hb : 4 * bnd t n + 4 * t + 8 ≤ 17179869184) (hc : c.length = n + 1) (hd : 0 < d) (hdt : d < 4294967296 ^ t) (ho : Ov d t (dv c)) : ∀ i, i ≤ rs.length → FitL (reduceD (rs.take i) c) ∧ (reduceD (rs.take i) c).length = c.length := fun i _ =>
  let ⟨h1, h2⟩ := h.red_fit hn hb hc hd hdt ho i
  ⟨fun x hx => (h1 x hx).mono (by omega), h2⟩
theorem AInv.len {n t : Nat} {L : List Vec} {rs : List (List Rat)} {ok : Bool} (h : AInv n t L rs ok) (hn : n ≤ 64) : rs.length ≤ 64 := by
  obtain ⟨R, h1, h2⟩ := h.rank
  have := h1.rank_n; omega
theorem OkS.red_ok {z0 : Int} {t : Nat} {cs : List CR} (h : OkS z0 t cs) {L : List Vec} {rs : List (List Rat)} {ok : Bool} (hA : AInv (heldG z0) t L rs ok) {c : CR} (hc : isC c (heldG z0 : Int) = true) (hv : OvC (heldG z0) t (conT c)) : ∀ i, i ≤ rs.length → FitL (reduceD (rs.take i) (rowD (heldG z0) (conT c))) ∧ (reduceD (rs.take i) (rowD (heldG z0) (conT c))).length = (rowD (heldG z0) (conT c)).length := by
  obtain ⟨d, h1, h2, h3⟩ := hv
  obtain ⟨_, _, h4, h5⟩ := isC_spec hc
  exact hA.red_ok (heldG_le z0) h.bn (rowD_length _ _) h1 h2 (by rw [rowD_dv h5]; exact h3)
/-- The bound of the reduced row's numbers leaves room for a quotient and a product. -/
theorem OkS.red_fit {z0 : Int} {t : Nat} {cs : List CR} (h : OkS z0 t cs) {L : List Vec} {rs : List (List Rat)} {ok : Bool} (hA : AInv (heldG z0) t L rs ok) {c : CR} (hc : isC c (heldG z0 : Int) = true) (hv : OvC (heldG z0) t (conT c)) : ∀ x ∈ reduceD rs (rowD (heldG z0) (conT c)), Fit x (t + bnd t (heldG z0) + 1) := by
  obtain ⟨d, h1, h2, h3⟩ := hv
  obtain ⟨_, _, h4, h5⟩ := isC_spec hc
  have h6 := (hA.red_fit (heldG_le z0) h.bn (rowD_length _ _) h1 h2 (by rw [rowD_dv h5]; exact h3) rs.length).1
  rwa [List.take_length] at h6
theorem OkS.stepD {z0 : Int} {t : Nat} {cs : List CR} {L : List Vec} {rs : List (List Rat)} {ok : Bool} (hA : AInv (heldG z0) t L rs ok) {c : CR} (hc : isC c (heldG z0 : Int) = true) (hv : OvC (heldG z0) t (conT c)) : AInv (heldG z0) t (L ++ [cv (heldG z0) (conT c).1 (conT c).2]) (solveD (heldG z0) rs ok (rowD (heldG z0) (conT c))).1 (solveD (heldG z0) rs ok (rowD (heldG z0) (conT c))).2 := by
  obtain ⟨d, h1, h2, h3⟩ := hv
  obtain ⟨_, _, h4, h5⟩ := isC_spec hc
  have h6 := hA.step (heldG_le z0) (rowD_length (heldG z0) (conT c)) h1 (by rw [rowD_dv h5]; exact h3)
  rwa [rowD_dv h5] at h6
/-- What becomes of a row beside a new one. -/
def stepD (k : Nat) (b : List Rat) (r : List Rat) : List Rat := if r.getD k 0 = 0 then r else lessD r b (r.getD k 0)
theorem solveD_n {n : Nat} {rs : List (List Rat)} {ok : Bool} {c a : List Rat} (ha : a = reduceD rs c) (h : leadD a = n) : solveD n rs ok c = (rs, ok && decide (a.getD n 0 = 0)) := by
  subst ha
  unfold solveD
  simp only [if_pos h]
theorem solveD_k {n : Nat} {rs : List (List Rat)} {ok : Bool} {c a b : List Rat} {k : Nat} {x : Rat} (ha : a = reduceD rs c) (hk : k = leadD a) (h : ¬ k = n) (hx : x = 1 / a.getD k 0) (hb : b = a.map fun z => z * x) : solveD n rs ok c = (rs.map (stepD k b) ++ [b], ok) := by
  subst ha; subst hk; subst hx; subst hb
  unfold solveD
  simp only [if_neg h]
  rfl
theorem updD_T {rs : List (List Rat)} {j k : Nat} {b z : List Rat} {y : Rat} (hz : rs[j]? = some z) (hk : z[k]? = some y) (hy : y ≠ 0) : (upd (stepD k b) rs j).set j (lessD z b y) = upd (stepD k b) rs (j + 1) := by
  rw [← upd_set hz]
  congr 1
  unfold stepD; rw [getD_of hk, if_neg hy]
theorem updD_F {rs : List (List Rat)} {j k : Nat} {b z : List Rat} {y : Rat} (hz : rs[j]? = some z) (hk : z[k]? = some y) (hy : y = 0) : upd (stepD k b) rs j = upd (stepD k b) rs (j + 1) :=
  upd_same hz (by unfold stepD; rw [getD_of hk, if_pos hy])
theorem leadD_lt {a : List Rat} (h : 0 < a.length) : leadD a < a.length := (leadD_spec (l := a) (by intro e; rw [e] at h; simp at h)).1
set_option maxHeartbeats 2000000 in
theorem c_solve10 {M : List Nat} {w : World} {vl : Value} {cs : List CR} {z0 : Int} {t : Nat} (hL : Lay rdC M w vl cs) (hbd : Bd M w) (oks : OkS z0 t cs) :
    Ret Try.prog 37 #[vl, .int .i64 (((heldG z0) : Nat) : Int)] w (fun r w' => ∃ vR rs ok, r = .tuple #[vR, .bool ok] ∧ Lay (rdR rdP) M w' vR rs ∧ AInv (heldG z0) t (vecs (heldG z0) cs) rs ok ∧ Mod [] w w') := by
 have hbd0 := hbd
 obtain ⟨TL, tL, rfl⟩ := hL.form
 have hmx := hL.max; unfold maxLen at hmx
 have hhd := heldG_le z0
 have hbn := oks.bn
 refine Ret.of (vs := [.slice TL cs.length tL, .int .i64 (((heldG z0) : Nat) : Int)]) (n := 110) Try.func37 rfl rfl rfl rfl ?_
 have hm0 : Mod [] w w := Mod.refl _ _
 refine W.seq <| W.region <| L.v (R1.assign rfl) rfl <| L.v (R1.assign rfl) rfl <| L.nil <| X.seq <| W.seq <| W.region <| L.v (R1.assign rfl) rfl <| L.nil <| X.seq ?_
 refine W.seq <| W.region <| L.v (R1.assign rfl) rfl <| L.nil <| X.seq <| W.seq <| W.seq <| W.region <| L.v (R1.assign rfl) rfl <| L.nil <| X.seq ?_
 refine W.block <| W.loop (ι := Nat × Value × List (List Value) × List (List Rat) × Bool) (fun (i, u, css, rs, ok) => [(0, .slice TL cs.length tL), (1, .int .i64 (((heldG z0) : Nat) : Int)), (6, u), (7, .bool ok), (8, .int .i64 (i : Int))]) (fun (i, u, css, rs, ok) w_ => Lay rdC (ownL u ++ M) w_ (.slice TL cs.length tL) cs ∧ w_.ownsRow w.heap.size 23 1 u rs.length css.flatten ∧ LayL (rdR rdP) (ownL u ++ M) w_ css rs ∧ Bd (ownL u ++ M) w_ ∧ Mod [] w w_ ∧ i ≤ cs.length ∧ AInv (heldG z0) t (vecs (heldG z0) (cs.take i)) rs ok) (fun (i, u, css, rs, ok) => cs.length - i) (0, .slice none 0 0, [], [], true) ?_ ?_ ?_
 · exact ⟨rfl, rfl, rfl, rfl, rfl, trivial⟩
 ·
  exact ⟨hL.sub (by intro b hb; first | exact hb | (simp only [mq] at hb ⊢; grind)), own_nil _ _ _ _, LayL.nil, hbd.sub (by intro b hb; first | exact hb | (simp only [mq] at hb ⊢; grind)), hm0, Nat.zero_le _, AInv.nil _ _⟩
 ·
  rintro ⟨i, u, css, rs, ok⟩ w1 ⟨hL, ho, hl, hbd, hm0, hi, hA⟩
  refine W.seq <| W.seq <| W.region <| L.v (R1.move rfl) rfl <| L.v (R1.move rfl) rfl <| L.v (R1.lenLay rfl hL tyS22) rfl <| L.v (R1.lt rfl rfl) rfl <| L.nil <| X.seq <| W.cond rfl ?_ ?_
  ·
   intro hc18
   try simp only [bq, ne_eq] at hc18
   refine W.skip <| X.seq <| W.seq <| W.block <| W.seq <| W.seq <| W.region <| L.v (R1.move rfl) rfl <| L.v (R1.move rfl) rfl <| L.v (R1.atLay (j := i) rfl rfl hL tyS22 rfl (by omega)) rfl ?_
   obtain ⟨z24, cs24, hz24, hE24, vt24, ds24, rfl, ht24, vn24, vd24, rfl, hn24, hd24⟩ := Lay.elemQ hL (j := i) (by omega)
   obtain ⟨T24, t24, rfl⟩ := ht24.form
   obtain ⟨A24, c24, rfl⟩ := hn24.form
   obtain ⟨B24, e24, rfl⟩ := hd24.form
   refine L.v (R1.loadE rfl hE24 tyG33) rfl <| L.v (R1.move rfl) rfl <| L.call rfl (c_ref8_Is ht24 hn24 hd24 (n := ((heldG z0) : Int)) (by omega) hbd (oks.sm _ (List.mem_of_getElem? hz24))) rfl ?_
   rintro _ w2 ⟨rfl, hm2⟩
   replace hL := hL.gr hm2
   replace ho := own_gr ho hm2 (by simp)
   replace hl := hl.gr hm2
   replace hbd := hbd.gr hm2
   replace hm0 := hm0.trans hm2
   replace ht24 := ht24.gr hm2
   replace hn24 := hn24.gr hm2
   replace hd24 := hd24.gr hm2
   clear hm2
   refine L.v (R1.not rfl) rfl <| L.nil <| X.seq <| W.cond rfl ?_ ?_
   ·
    intro hc27
    simp only [Bool.not_eq_true', Bool.not_eq_false'] at hc27
    refine W.exit <| X.thenExit <| X.here <| X.seq <| W.region <| L.v (R1.move rfl) rfl <| L.v (R1.addI (b := 1) rfl rfl (by omega)) rfl <| L.v (R1.assign rfl) rfl <| L.nil <| X.next (i + 1, u, css, rs, ok) ?_ ?_ ?_
    · exact ⟨rfl, rfl, rfl, rfl, rfl, trivial⟩
    ·
     exact ⟨hL.sub (by intro b hb; first | exact hb | (simp only [mq] at hb ⊢; grind)), ho, hl.sub (by intro b hb; first | exact hb | (simp only [mq] at hb ⊢; grind)), hbd.sub (by intro b hb; first | exact hb | (simp only [mq] at hb ⊢; grind)), hm0, by omega, by rw [vecs_no hz24 hc27]; exact hA⟩
    · first | omega | (dsimp only; omega)
   ·
    intro hc27
    simp only [Bool.not_eq_true', Bool.not_eq_false'] at hc27
    refine W.skip <| X.seq <| W.seq <| W.region <| L.v (R1.move rfl) rfl <| L.v (R1.move rfl) rfl <| L.v (R1.move rfl) rfl <| L.v (R1.atLay (j := i) rfl rfl hL tyS22 rfl (by omega)) rfl ?_
    obtain ⟨z32, cs32, hz32, hE32, vt32, ds32, rfl, ht32, vn32, vd32, rfl, hn32, hd32⟩ := Lay.elemQ hL (j := i) (by omega)
    obtain ⟨T32, t32, rfl⟩ := ht32.form
    obtain ⟨A32, c32, rfl⟩ := hn32.form
    obtain ⟨B32, e32, rfl⟩ := hd32.form
    obtain rfl : z24 = z32 := by have h9 := hz32; rw [hz24] at h9; injection h9
    refine L.v (R1.loadE rfl hE32 tyG33) rfl <| L.v (R1.move rfl) rfl <| L.call rfl (c_row ht32 hn32 hd32 hbd (heldG_le _) hc27 (oks.sm _ (List.mem_of_getElem? hz24)).1) rfl ?_
    rintro v34 w3 ⟨css6, ho6, hl6, hmX⟩
    refine L.call rfl (c_reduce (M := (ownL u ++ M)) ((own_read ho hl).ownd ho6 hmX) ho6 hl6 hmX.size (hbd.ownd ho6 hmX) (by rw [rowD_length]; omega) (oks.red_ok hA hc27 (oks.ov _ (List.mem_of_getElem? hz24) hc27)) (fun r hr => ⟨(hA.row_ok oks.bn r hr).1, by rw [(hA.row_ok oks.bn r hr).2, rowD_length]⟩) (hA.len (heldG_le _))) rfl ?_
    rintro a9 w4 ⟨css7, ho7, hl7, hm4⟩
    replace hm4 := hmX.trans hm4
    replace hL := hL.ownd ho7 hm4
    replace hl := hl.ownd ho7 hm4
    replace hbd := hbd.ownd ho7 hm4
    replace ht24 := ht24.ownd ho7 hm4
    replace hn24 := hn24.ownd ho7 hm4
    replace hd24 := hd24.ownd ho7 hm4
    replace ht32 := ht32.ownd ho7 hm4
    replace hn32 := hn32.ownd ho7 hm4
    replace hd32 := hd32.ownd ho7 hm4
    have haw_ho_ho7 := own_away_res ho ho7
    replace ho7 := own_less ho7 hm0.size
    replace ho := own_gr ho hm4 (by simp)
    replace hm0 := hm0.trans hm4
    clear hm4
    obtain ⟨a, hae⟩ : ∃ a, a = reduceD rs (rowD (heldG z0) (conT z24)) := ⟨_, rfl⟩
    rw [← hae] at ho7 hl7
    have hok9 := oks.red_ok hA hc27 (oks.ov _ (List.mem_of_getElem? hz24) hc27) rs.length (Nat.le_refl _)
    rw [List.take_length, ← hae, rowD_length] at hok9
    obtain ⟨hfa, hal⟩ := hok9
    have hft := oks.red_fit hA hc27 (oks.ov _ (List.mem_of_getElem? hz24) hc27)
    rw [← hae] at hft
    refine L.v (R1.assign rfl) rfl <| L.nil <| X.seq <| W.seq <| W.region <| L.v (R1.move rfl) rfl <| L.call rfl (c_lead (own_read ho7 hl7) hbd hfa (by omega) (by omega)) rfl ?_
    rintro _ w5 ⟨rfl, hm5⟩
    replace hL := hL.gr hm5
    replace ho := own_gr ho hm5 (by simp)
    replace hl := hl.gr hm5
    replace hbd := hbd.gr hm5
    replace hm0 := hm0.trans hm5
    replace ht24 := ht24.gr hm5
    replace hn24 := hn24.gr hm5
    replace hd24 := hd24.gr hm5
    replace ht32 := ht32.gr hm5
    replace hn32 := hn32.gr hm5
    replace hd32 := hd32.gr hm5
    replace ho7 := own_gr ho7 hm5 (by simp)
    replace hl7 := hl7.gr hm5
    clear hm5
    obtain ⟨kk, hkk⟩ : ∃ kk, kk = leadD a := ⟨_, rfl⟩
    rw [← hkk]
    have hkl : kk < a.length := by rw [hkk]; exact leadD_lt (by omega)
    refine L.v (R1.assign rfl) rfl <| L.nil <| X.seq <| W.seq <| W.seq <| W.region <| L.v (R1.move rfl) rfl <| L.v (R1.move rfl) rfl <| L.v ((R1.eq rfl rfl).asB (c := decide (kk = (heldG z0))) (by congr 1; apply propext; omega)) rfl <| L.nil <| X.seq ?_
    refine W.cond rfl ?_ ?_
    ·
     intro hc40
     try simp only [bq, ne_eq] at hc40
     refine W.seq <| W.region <| L.v (R1.move rfl) rfl <| L.v (R1.move rfl) rfl ?_
     cases ok
     ·
      try simp only [bq, ne_eq] at hgd42
      refine L.off rfl rfl rfl rfl rfl <| L.off rfl rfl rfl rfl rfl <| L.off rfl rfl rfl rfl rfl <| L.off rfl rfl rfl rfl rfl <| L.off rfl rfl rfl rfl rfl <| L.v (R1.pickF rfl rfl) rfl <| L.v (R1.assign rfl) rfl <| L.nil <| X.seq <| W.exit <| X.thenExit ?_
      refine X.here <| X.seq <| W.region <| L.v (R1.move rfl) rfl <| L.v (R1.addI (b := 1) rfl rfl (by omega)) rfl <| L.v (R1.assign rfl) rfl <| L.nil <| X.next (i + 1, u, css, rs, false) ?_ ?_ ?_
      · exact ⟨rfl, rfl, rfl, rfl, rfl, trivial⟩
      ·
       exact ⟨hL.sub (by intro b hb; first | exact hb | (simp only [mq] at hb ⊢; grind)), ho, hl.sub (by intro b hb; first | exact hb | (simp only [mq] at hb ⊢; grind)), hbd.sub (by intro b hb; first | exact hb | (simp only [mq] at hb ⊢; grind)), hm0, by omega, by have h9 := OkS.stepD (cs := cs) (ok := false) hA hc27 (oks.ov _ (List.mem_of_getElem? hz24) hc27); rw [solveD_n hae (hkk.symm.trans hc40)] at h9; rw [vecs_yes hz24 hc27]; exact h9⟩
      · first | omega | (dsimp only; omega)
     ·
      try simp only [bq, ne_eq] at hgd42
      refine L.on rfl rfl rfl (R1.move rfl) rfl <| L.on rfl rfl rfl (R1.move rfl) rfl <| L.on rfl rfl rfl (R1.atOwn (i := (heldG z0)) rfl rfl ho7 tyS23 rfl (by omega)) rfl ?_
      obtain ⟨z46, cs46, hz46, hE46, A46, a46, B46, b46, rfl, hn46, hd46⟩ := own_elemQ ho7 rfl hl7 (j := (heldG z0)) (by omega)
      refine L.on rfl rfl rfl (R1.loadE rfl hE46 tyG31) rfl <| L.callOn rfl rfl rfl rfl (c_ref2_Zero (q := z46) (rv_toL _) hn46 hd46 hbd (Nat.le_trans (hfa _ (List.mem_of_getElem? hz46)).1 (by decide)) (Nat.le_trans (hfa _ (List.mem_of_getElem? hz46)).2 (by decide))) rfl ?_
      rintro _ w6 ⟨rfl, hm6⟩
      replace hL := hL.gr hm6
      replace ho := own_gr ho hm6 (by simp)
      replace hl := hl.gr hm6
      replace hbd := hbd.gr hm6
      replace hm0 := hm0.trans hm6
      clear hm6
      refine L.v (R1.pickT rfl rfl) rfl <| L.v (R1.assign rfl) rfl <| L.nil <| X.seq <| W.exit <| X.thenExit <| X.here <| X.seq <| W.region <| L.v (R1.move rfl) rfl <| L.v (R1.addI (b := 1) rfl rfl (by omega)) rfl ?_
      refine L.v (R1.assign rfl) rfl <| L.nil <| X.next (i + 1, u, css, rs, decide (z46 = 0)) ?_ ?_ ?_
      · exact ⟨rfl, rfl, rfl, rfl, rfl, trivial⟩
      ·
       exact ⟨hL.sub (by intro b hb; first | exact hb | (simp only [mq] at hb ⊢; grind)), ho, hl.sub (by intro b hb; first | exact hb | (simp only [mq] at hb ⊢; grind)), hbd.sub (by intro b hb; first | exact hb | (simp only [mq] at hb ⊢; grind)), hm0, by omega, by have h9 := OkS.stepD (cs := cs) (ok := true) hA hc27 (oks.ov _ (List.mem_of_getElem? hz24) hc27); rw [solveD_n hae (hkk.symm.trans hc40)] at h9; rw [vecs_yes hz24 hc27]; rw [getD_of hz46] at h9; exact h9⟩
      · first | omega | (dsimp only; omega)
    ·
     intro hc40
     try simp only [bq, ne_eq] at hc40
     refine W.skip <| X.seq <| W.seq <| W.cut (ι := Rat × Option Addr × Nat × Option Addr × Nat × Nat) (fun (x, A55, c55, B55, e55, g11) => [(0, .slice TL cs.length tL), (1, .int .i64 (((heldG z0) : Nat) : Int)), (6, u), (7, .bool ok), (8, .int .i64 (i : Int)), (9, a9), (10, .int .i64 (kk : Int)), (11, .pointer (some ⟨g11, 0, none⟩))]) (fun (x, A55, c55, B55, e55, g11) w_ => Lay rdC (ownL a9 ++ (ownL u ++ M)) w_ (.slice TL cs.length tL) cs ∧ w_.ownsRow w.heap.size 23 1 u rs.length css.flatten ∧ LayL (rdR rdP) (ownL a9 ++ (ownL u ++ M)) w_ css rs ∧ Bd (ownL a9 ++ (ownL u ++ M)) w_ ∧ Mod [] w w_ ∧ Away u a9 ∧ w_.ownsRow w.heap.size 31 3 a9 a.length css7.flatten ∧ LayL rdP (ownL a9 ++ (ownL u ++ M)) w_ css7 a ∧ Blk w_ g11 31 #[.bool (decide (x.num < 0)), .slice A55 (toL x.num.natAbs).length c55, .slice B55 (toL x.den).length e55] ∧ u.ownBlock ≠ some g11 ∧ a9.ownBlock ≠ some g11 ∧ U32 (ownL a9 ++ (ownL u ++ M)) w_ (.slice A55 (toL x.num.natAbs).length c55) (toL x.num.natAbs) ∧ U32 (ownL a9 ++ (ownL u ++ M)) w_ (.slice B55 (toL x.den).length e55) (toL x.den) ∧ x = 1 / a.getD kk 0 ∧ Fit x (2 + (t + bnd t (heldG z0) + 1))) ?_ ?_
     ·
      refine W.drawW (T := []) rfl (by decide +kernel) (NoHang.join (NoHang.then (NoHang.block (NoHang.then (NoHang.next (NoHang.block (NoHang.then NoHang.post))))))) (fun w7 hm7 => ?_)
      replace hL := hL.gr hm7
      replace ho := own_gr ho hm7 (by simp)
      replace hl := hl.gr hm7
      replace hbd := hbd.gr hm7
      replace hm0 := hm0.trans hm7
      replace ho7 := own_gr ho7 hm7 (by simp)
      replace hl7 := hl7.gr hm7
      have hS1 : Mod [] w7 w7 := Mod.refl _ _
      clear hm7
      refine D.take 1 rfl (by decide +kernel) (fun w_ hS => (R1.move rfl)) hS1 rfl <| D.take 2 rfl (by decide +kernel) (fun w_ hS => (R1.move rfl)) hS1 rfl <| D.take 3 rfl (by decide +kernel) (fun w_ hS => (R1.atOwn (i := kk) rfl rfl (own_gr ho7 hS (by simp)) tyS23 rfl (by omega))) hS1 rfl ?_
      obtain ⟨z54, cs54, hz54, hE54, A54, a54, B54, b54, rfl, hn54, hd54⟩ := own_elemQ ho7 rfl hl7 (j := kk) (by omega)
      refine D.take 4 rfl (by decide +kernel) (fun w_ hS => (R1.loadE rfl (SlE.gr hE54 hS) tyG31)) hS1 rfl <| D.many (rs := [0, 9]) (by decide +kernel) rfl ?_
      intro i_ hi_
      simp only [List.mem_cons, List.not_mem_nil, or_false] at hi_
      rcases hi_ with rfl | rfl
      ·
       refine ⟨_, rfl, fun hX => ?_⟩
       refine L.call rfl (c_ref2_Int (n := 1) (by decide) (by decide) hbd) rfl ?_
       rintro _ w8 ⟨⟨A50, c50, B50, e50, rfl, hn50, hd50⟩, hm8⟩
       replace hL := hL.gr hm8
       replace ho := own_gr ho hm8 (by simp)
       replace hl := hl.gr hm8
       replace hbd := hbd.gr hm8
       replace hm0 := hm0.trans hm8
       replace ho7 := own_gr ho7 hm8 (by simp)
       replace hl7 := hl7.gr hm8
       replace hn54 := hn54.gr hm8
       replace hd54 := hd54.gr hm8
       replace hS1 := hS1.trans hm8
       clear hm8
       have F50 := Fit.int (n := 1) (by decide) (by decide)
       refine L.nil (hX _ _ ⟨.inr hS1, ?_⟩)
       refine D.many (rs := [5, 9]) (by decide +kernel) rfl ?_
       intro i_ hi_
       simp only [List.mem_cons, List.not_mem_nil, or_false] at hi_
       rcases hi_ with rfl | rfl
       ·
        refine ⟨_, rfl, fun hX => ?_⟩
        refine L.call rfl (c_ref2_Div (qa := (((1 : Int)) : Rat)) (qb := z54) (rv_toL _) (rv_toL _) hn50 hd50 hn54 hd54 hbd (Nat.le_trans F50.1 (by decide)) (Nat.le_trans F50.2 (by decide)) (Nat.le_trans (hfa _ (List.mem_of_getElem? hz54)).1 (by decide)) (Nat.le_trans (hfa _ (List.mem_of_getElem? hz54)).2 (by decide))) rfl ?_
        rintro _ w9 ⟨v55, rfl, ⟨A55, c55, B55, e55, rfl, hn55, hd55⟩, hm9⟩
        replace hL := hL.gr hm9
        replace ho := own_gr ho hm9 (by simp)
        replace hl := hl.gr hm9
        replace hbd := hbd.gr hm9
        replace hm0 := hm0.trans hm9
        replace ho7 := own_gr ho7 hm9 (by simp)
        replace hl7 := hl7.gr hm9
        replace hS1 := hS1.trans hm9
        clear hm9
        have F55 := Fit.div F50 (hfa _ (List.mem_of_getElem? hz54)) (by decide)
        refine L.nil (hX _ _ ⟨.inr hS1, ?_⟩)
        refine D.take 6 rfl (by decide +kernel) (fun w_ hS => (R1.move rfl)) hS1 rfl <| D.take 7 rfl (by decide +kernel) (fun w_ hS => (R1.extract rfl rfl)) hS1 rfl <| D.take 8 rfl (by decide +kernel) (fun w_ hS => (R1.extract rfl rfl)) hS1 rfl <| D.one 9 rfl (by decide +kernel) (fun hX => ?_)
        refine L.alloc tyZ31 rfl ?_
        intro g11 w10 hN11
        have hgs_g11 := New.ge hN11 hS1.size
        replace hS1 := hS1.trans hN11.mod
        replace hL := hL.new hN11
        have hno_ho_g11 := own_ne_new ho hN11
        replace ho := own_gr ho hN11.mod (by simp)
        replace hl := hl.new hN11
        replace hbd := hbd.new hN11
        have hge_g11 := New.ge hN11 hm0.size
        replace hm0 := hm0.trans (hN11.mod.mono (by simp))
        have hno_ho7_g11 := own_ne_new ho7 hN11
        replace ho7 := own_gr ho7 hN11.mod (by simp)
        replace hl7 := hl7.new hN11
        replace hn55 := hn55.new hN11
        replace hd55 := hd55.new hN11
        have hb11 := hN11.blk
        clear hN11
        refine L.nil (hX _ _ ⟨.inr hS1, ?_⟩)
        refine D.one 10 rfl (by decide +kernel) (fun hX => ?_)
        refine L.storeBox rfl rfl hb11 rfl rfl tyG31 ?_
        intro w11 hb11' hm11
        replace hS1 := hS1.old1 hm11 hgs_g11
        replace hL := hL.mod hm11 (by simp)
        replace ho := own_far ho hm11 hno_ho_g11
        replace hl := hl.mod hm11 (by simp)
        replace hbd := hbd.gr hm11
        replace hm0 := hm0.old1 hm11 hge_g11
        replace ho7 := own_far ho7 hm11 hno_ho7_g11
        replace hl7 := hl7.mod hm11 (by simp)
        replace hn55 := hn55.mod hm11 (by simp)
        replace hd55 := hd55.mod hm11 (by simp)
        clear hm11
        replace hb11 := hb11'; clear hb11'
        refine L.nil (hX _ _ ⟨.inr hS1, ?_⟩)
        refine D.take 11 rfl (by decide +kernel) (fun w_ hS => (R1.assign rfl)) hS1 rfl <| D.done (by decide +kernel) ?_ _
        refine X.join ((((1 : Int)) : Rat) / z54, A55, c55, B55, e55, g11) ?_ ?_
        · exact ⟨rfl, rfl, rfl, rfl, rfl, rfl, rfl, rfl, trivial⟩
        ·
         exact ⟨hL.sub (by intro b hb; first | exact hb | (simp only [mq] at hb ⊢; grind)), ho, hl.sub (by intro b hb; first | exact hb | (simp only [mq] at hb ⊢; grind)), hbd.sub (by intro b hb; first | exact hb | (simp only [mq] at hb ⊢; grind)), hm0, haw_ho_ho7, ho7, hl7.sub (by intro b hb; first | exact hb | (simp only [mq] at hb ⊢; grind)), hb11, hno_ho_g11, hno_ho7_g11, hn55.sub (by intro b hb; first | exact hb | (simp only [mq] at hb ⊢; grind)), hd55.sub (by intro b hb; first | exact hb | (simp only [mq] at hb ⊢; grind)), by rw [getD_of hz54]; rfl, (Fit.div (Fit.int (n := 1) (by decide) (by decide)) (hft _ (List.mem_of_getElem? hz54)) (by decide))⟩
       ·
        refine ⟨_, rfl, fun hX => ?_⟩
        refine L.alloc tyZ31 rfl ?_
        intro g11 w12 hN11
        have hgs_g11 := New.ge hN11 hS1.size
        replace hS1 := hS1.trans hN11.mod
        replace hL := hL.new hN11
        have hno_ho_g11 := own_ne_new ho hN11
        replace ho := own_gr ho hN11.mod (by simp)
        replace hl := hl.new hN11
        replace hbd := hbd.new hN11
        have hge_g11 := New.ge hN11 hm0.size
        replace hm0 := hm0.trans (hN11.mod.mono (by simp))
        have hno_ho7_g11 := own_ne_new ho7 hN11
        replace ho7 := own_gr ho7 hN11.mod (by simp)
        replace hl7 := hl7.new hN11
        replace hn54 := hn54.new hN11
        replace hd54 := hd54.new hN11
        replace hn50 := hn50.new hN11
        replace hd50 := hd50.new hN11
        have hb11 := hN11.blk
        clear hN11
        refine L.nil (hX _ _ ⟨.inr hS1, ?_⟩)
        refine D.one 5 rfl (by decide +kernel) (fun hX => ?_)
        refine L.call rfl (c_ref2_Div (qa := (((1 : Int)) : Rat)) (qb := z54) (rv_toL _) (rv_toL _) hn50 hd50 hn54 hd54 hbd (Nat.le_trans F50.1 (by decide)) (Nat.le_trans F50.2 (by decide)) (Nat.le_trans (hfa _ (List.mem_of_getElem? hz54)).1 (by decide)) (Nat.le_trans (hfa _ (List.mem_of_getElem? hz54)).2 (by decide))) rfl ?_
        rintro _ w13 ⟨v55, rfl, ⟨A55, c55, B55, e55, rfl, hn55, hd55⟩, hm13⟩
        replace hL := hL.gr hm13
        replace ho := own_gr ho hm13 (by simp)
        replace hl := hl.gr hm13
        replace hbd := hbd.gr hm13
        replace hm0 := hm0.trans hm13
        replace ho7 := own_gr ho7 hm13 (by simp)
        replace hl7 := hl7.gr hm13
        replace hb11 := Blk.gr hb11 hm13
        replace hS1 := hS1.trans hm13
        clear hm13
        have F55 := Fit.div F50 (hfa _ (List.mem_of_getElem? hz54)) (by decide)
        refine L.nil (hX _ _ ⟨.inr hS1, ?_⟩)
        refine D.take 6 rfl (by decide +kernel) (fun w_ hS => (R1.move rfl)) hS1 rfl <| D.take 7 rfl (by decide +kernel) (fun w_ hS => (R1.extract rfl rfl)) hS1 rfl <| D.take 8 rfl (by decide +kernel) (fun w_ hS => (R1.extract rfl rfl)) hS1 rfl <| D.one 10 rfl (by decide +kernel) (fun hX => ?_)
        refine L.storeBox rfl rfl hb11 rfl rfl tyG31 ?_
        intro w14 hb11' hm14
        replace hS1 := hS1.old1 hm14 hgs_g11
        replace hL := hL.mod hm14 (by simp)
        replace ho := own_far ho hm14 hno_ho_g11
        replace hl := hl.mod hm14 (by simp)
        replace hbd := hbd.gr hm14
        replace hm0 := hm0.old1 hm14 hge_g11
        replace ho7 := own_far ho7 hm14 hno_ho7_g11
        replace hl7 := hl7.mod hm14 (by simp)
        replace hn55 := hn55.mod hm14 (by simp)
        replace hd55 := hd55.mod hm14 (by simp)
        clear hm14
        replace hb11 := hb11'; clear hb11'
        refine L.nil (hX _ _ ⟨.inr hS1, ?_⟩)
        refine D.take 11 rfl (by decide +kernel) (fun w_ hS => (R1.assign rfl)) hS1 rfl <| D.done (by decide +kernel) ?_ _
        refine X.join ((((1 : Int)) : Rat) / z54, A55, c55, B55, e55, g11) ?_ ?_
        · exact ⟨rfl, rfl, rfl, rfl, rfl, rfl, rfl, rfl, trivial⟩
        ·
         exact ⟨hL.sub (by intro b hb; first | exact hb | (simp only [mq] at hb ⊢; grind)), ho, hl.sub (by intro b hb; first | exact hb | (simp only [mq] at hb ⊢; grind)), hbd.sub (by intro b hb; first | exact hb | (simp only [mq] at hb ⊢; grind)), hm0, haw_ho_ho7, ho7, hl7.sub (by intro b hb; first | exact hb | (simp only [mq] at hb ⊢; grind)), hb11, hno_ho_g11, hno_ho7_g11, hn55.sub (by intro b hb; first | exact hb | (simp only [mq] at hb ⊢; grind)), hd55.sub (by intro b hb; first | exact hb | (simp only [mq] at hb ⊢; grind)), by rw [getD_of hz54]; rfl, (Fit.div (Fit.int (n := 1) (by decide) (by decide)) (hft _ (List.mem_of_getElem? hz54)) (by decide))⟩
      ·
       refine ⟨_, rfl, fun hX => ?_⟩
       refine L.alloc tyZ31 rfl ?_
       intro g11 w15 hN11
       have hgs_g11 := New.ge hN11 hS1.size
       replace hS1 := hS1.trans hN11.mod
       replace hL := hL.new hN11
       have hno_ho_g11 := own_ne_new ho hN11
       replace ho := own_gr ho hN11.mod (by simp)
       replace hl := hl.new hN11
       replace hbd := hbd.new hN11
       have hge_g11 := New.ge hN11 hm0.size
       replace hm0 := hm0.trans (hN11.mod.mono (by simp))
       have hno_ho7_g11 := own_ne_new ho7 hN11
       replace ho7 := own_gr ho7 hN11.mod (by simp)
       replace hl7 := hl7.new hN11
       replace hn54 := hn54.new hN11
       replace hd54 := hd54.new hN11
       have hb11 := hN11.blk
       clear hN11
       refine L.nil (hX _ _ ⟨.inr hS1, ?_⟩)
       refine D.one 0 rfl (by decide +kernel) (fun hX => ?_)
       refine L.call rfl (c_ref2_Int (n := 1) (by decide) (by decide) hbd) rfl ?_
       rintro _ w16 ⟨⟨A50, c50, B50, e50, rfl, hn50, hd50⟩, hm16⟩
       replace hL := hL.gr hm16
       replace ho := own_gr ho hm16 (by simp)
       replace hl := hl.gr hm16
       replace hbd := hbd.gr hm16
       replace hm0 := hm0.trans hm16
       replace ho7 := own_gr ho7 hm16 (by simp)
       replace hl7 := hl7.gr hm16
       replace hn54 := hn54.gr hm16
       replace hd54 := hd54.gr hm16
       replace hb11 := Blk.gr hb11 hm16
       replace hS1 := hS1.trans hm16
       clear hm16
       have F50 := Fit.int (n := 1) (by decide) (by decide)
       refine L.nil (hX _ _ ⟨.inr hS1, ?_⟩)
       refine D.one 5 rfl (by decide +kernel) (fun hX => ?_)
       refine L.call rfl (c_ref2_Div (qa := (((1 : Int)) : Rat)) (qb := z54) (rv_toL _) (rv_toL _) hn50 hd50 hn54 hd54 hbd (Nat.le_trans F50.1 (by decide)) (Nat.le_trans F50.2 (by decide)) (Nat.le_trans (hfa _ (List.mem_of_getElem? hz54)).1 (by decide)) (Nat.le_trans (hfa _ (List.mem_of_getElem? hz54)).2 (by decide))) rfl ?_
       rintro _ w17 ⟨v55, rfl, ⟨A55, c55, B55, e55, rfl, hn55, hd55⟩, hm17⟩
       replace hL := hL.gr hm17
       replace ho := own_gr ho hm17 (by simp)
       replace hl := hl.gr hm17
       replace hbd := hbd.gr hm17
       replace hm0 := hm0.trans hm17
       replace ho7 := own_gr ho7 hm17 (by simp)
       replace hl7 := hl7.gr hm17
       replace hb11 := Blk.gr hb11 hm17
       replace hS1 := hS1.trans hm17
       clear hm17
       have F55 := Fit.div F50 (hfa _ (List.mem_of_getElem? hz54)) (by decide)
       refine L.nil (hX _ _ ⟨.inr hS1, ?_⟩)
       refine D.take 6 rfl (by decide +kernel) (fun w_ hS => (R1.move rfl)) hS1 rfl <| D.take 7 rfl (by decide +kernel) (fun w_ hS => (R1.extract rfl rfl)) hS1 rfl <| D.take 8 rfl (by decide +kernel) (fun w_ hS => (R1.extract rfl rfl)) hS1 rfl <| D.one 10 rfl (by decide +kernel) (fun hX => ?_)
       refine L.storeBox rfl rfl hb11 rfl rfl tyG31 ?_
       intro w18 hb11' hm18
       replace hS1 := hS1.old1 hm18 hgs_g11
       replace hL := hL.mod hm18 (by simp)
       replace ho := own_far ho hm18 hno_ho_g11
       replace hl := hl.mod hm18 (by simp)
       replace hbd := hbd.gr hm18
       replace hm0 := hm0.old1 hm18 hge_g11
       replace ho7 := own_far ho7 hm18 hno_ho7_g11
       replace hl7 := hl7.mod hm18 (by simp)
       replace hn55 := hn55.mod hm18 (by simp)
       replace hd55 := hd55.mod hm18 (by simp)
       clear hm18
       replace hb11 := hb11'; clear hb11'
       refine L.nil (hX _ _ ⟨.inr hS1, ?_⟩)
       refine D.take 11 rfl (by decide +kernel) (fun w_ hS => (R1.assign rfl)) hS1 rfl <| D.done (by decide +kernel) ?_ _
       refine X.join ((((1 : Int)) : Rat) / z54, A55, c55, B55, e55, g11) ?_ ?_
       · exact ⟨rfl, rfl, rfl, rfl, rfl, rfl, rfl, rfl, trivial⟩
       ·
        exact ⟨hL.sub (by intro b hb; first | exact hb | (simp only [mq] at hb ⊢; grind)), ho, hl.sub (by intro b hb; first | exact hb | (simp only [mq] at hb ⊢; grind)), hbd.sub (by intro b hb; first | exact hb | (simp only [mq] at hb ⊢; grind)), hm0, haw_ho_ho7, ho7, hl7.sub (by intro b hb; first | exact hb | (simp only [mq] at hb ⊢; grind)), hb11, hno_ho_g11, hno_ho7_g11, hn55.sub (by intro b hb; first | exact hb | (simp only [mq] at hb ⊢; grind)), hd55.sub (by intro b hb; first | exact hb | (simp only [mq] at hb ⊢; grind)), by rw [getD_of hz54]; rfl, (Fit.div (Fit.int (n := 1) (by decide) (by decide)) (hft _ (List.mem_of_getElem? hz54)) (by decide))⟩
     ·
      rintro ⟨x, A55, c55, B55, e55, g11⟩ wj ⟨hL, ho, hl, hbd, hm0, haw_ho_ho7, ho7, hl7, hb11, hno_ho_g11, hno_ho7_g11, hn55, hd55, hx, Fx⟩
      refine X.seq <| W.seq <| W.seq <| W.region <| L.v (R1.assign rfl) rfl <| L.nil <| X.seq <| W.block <| W.loop (ι := Nat × List (List Value)) (fun (j, css7) => [(0, .slice TL cs.length tL), (1, .int .i64 (((heldG z0) : Nat) : Int)), (6, u), (7, .bool ok), (8, .int .i64 (i : Int)), (9, a9), (10, .int .i64 (kk : Int)), (11, .pointer (some ⟨g11, 0, none⟩)), (13, .int .i64 (j : Int))]) (fun (j, css7) w_ => Lay rdC (ownL a9 ++ (ownL u ++ M)) w_ (.slice TL cs.length tL) cs ∧ w_.ownsRow w.heap.size 23 1 u rs.length css.flatten ∧ LayL (rdR rdP) (ownL a9 ++ (ownL u ++ M)) w_ css rs ∧ Bd (ownL a9 ++ (ownL u ++ M)) w_ ∧ Mod [] w w_ ∧ Away u a9 ∧ w_.ownsRow w.heap.size 31 3 a9 a.length css7.flatten ∧ LayL rdP (ownL a9 ++ (ownL u ++ M)) w_ css7 (upd (fun z => z * x) a j) ∧ Blk w_ g11 31 #[.bool (decide (x.num < 0)), .slice A55 (toL x.num.natAbs).length c55, .slice B55 (toL x.den).length e55] ∧ u.ownBlock ≠ some g11 ∧ a9.ownBlock ≠ some g11 ∧ U32 (ownL a9 ++ (ownL u ++ M)) w_ (.slice A55 (toL x.num.natAbs).length c55) (toL x.num.natAbs) ∧ U32 (ownL a9 ++ (ownL u ++ M)) w_ (.slice B55 (toL x.den).length e55) (toL x.den) ∧ j ≤ a.length) (fun (j, css7) => a.length - j) (0, css7) ?_ ?_ ?_
      · exact ⟨rfl, rfl, rfl, rfl, rfl, rfl, rfl, rfl, rfl, trivial⟩
      ·
       exact ⟨hL.sub (by intro b hb; first | exact hb | (simp only [mq] at hb ⊢; grind)), ho, hl.sub (by intro b hb; first | exact hb | (simp only [mq] at hb ⊢; grind)), hbd.sub (by intro b hb; first | exact hb | (simp only [mq] at hb ⊢; grind)), hm0, haw_ho_ho7, ho7, by rw [upd_zero]; exact hl7.sub (by intro b hb; first | exact hb | (simp only [mq] at hb ⊢; grind)), hb11, hno_ho_g11, hno_ho7_g11, hn55.sub (by intro b hb; first | exact hb | (simp only [mq] at hb ⊢; grind)), hd55.sub (by intro b hb; first | exact hb | (simp only [mq] at hb ⊢; grind)), Nat.zero_le _⟩
      ·
       rintro ⟨j, css7⟩ w19 ⟨hL, ho, hl, hbd, hm0, haw_ho_ho7, ho7, hl7, hb11, hno_ho_g11, hno_ho7_g11, hn55, hd55, hj⟩
       refine W.seq <| W.seq <| W.region <| L.v (R1.move rfl) rfl <| L.v (R1.move rfl) rfl <| L.v (R1.lenOwn rfl ho7 tyS23) rfl <| L.v (R1.lt rfl rfl) rfl <| L.nil <| X.seq <| W.cond rfl ?_ ?_
       ·
        intro hc61
        try simp only [bq, ne_eq] at hc61
        refine W.skip <| X.seq <| W.seq <| W.block <| W.drawW (T := [9]) rfl (by decide +kernel) (NoHang.block (NoHang.then (NoHang.next (NoHang.block (NoHang.then (NoHang.block (NoHang.then (NoHang.next (NoHang.block (NoHang.then NoHang.post)))))))))) (fun w20 hm20 => ?_)
        replace hL := hL.gr hm20
        replace ho := own_gr ho hm20 (by simp)
        replace hl := hl.gr hm20
        replace hbd := hbd.gr hm20
        replace hm0 := hm0.trans hm20
        replace ho7 := own_gr ho7 hm20 (by simp)
        replace hl7 := hl7.gr hm20
        replace hb11 := Blk.gr hb11 hm20
        replace hn55 := hn55.gr hm20
        replace hd55 := hd55.gr hm20
        have hS2 : Mod [] w20 w20 := Mod.refl _ _
        clear hm20
        have hL_s := hL
        have ho_s := ho
        have hl_s := hl
        have ho7_s := ho7
        have hl7_s := hl7
        have hb11_s := hb11
        have hn55_s := hn55
        have hd55_s := hd55
        refine D.take 0 rfl (by decide +kernel) (fun w_ hS => (R1.move rfl)) hS2 rfl <| D.take 1 rfl (by decide +kernel) (fun w_ hS => (R1.move rfl)) hS2 rfl <| D.take 2 rfl (by decide +kernel) (fun w_ hS => (R1.move rfl)) hS2 rfl <| D.take 3 rfl (by decide +kernel) (fun w_ hS => (R1.move rfl)) hS2 rfl <| D.take 4 rfl (by decide +kernel) (fun w_ hS => (R1.atOwn (i := j) rfl rfl (own_gr ho7_s hS (by simp)) tyS23 rfl (by omega))) hS2 rfl ?_
        obtain ⟨z69, cs69, hz69, hE69, A69, a69, B69, b69, rfl, hn69, hd69⟩ := own_elemQ ho7 rfl hl7 (j := j) (by rw [upd_length]; omega)
        refine D.take 5 rfl (by decide +kernel) (fun w_ hS => (R1.loadE rfl (SlE.gr hE69 hS) tyG31)) hS2 rfl ?_
        have hzr := hz69
        rw [upd_get (by omega)] at hzr
        refine D.take 6 rfl (by decide +kernel) (fun w_ hS => (R1.loadBox rfl (Blk.gr hb11_s hS) tyG31)) hS2 rfl <| D.one 7 rfl (by decide +kernel) (fun hX => ?_)
        refine L.call rfl (c_ref2_Mul (qa := z69) (qb := x) (rv_toL _) (rv_toL _) hn69 hd69 hn55 hd55 hbd (Nat.le_trans (hfa _ (List.mem_of_getElem? hzr)).1 (by decide)) (Nat.le_trans (hfa _ (List.mem_of_getElem? hzr)).2 (by decide)) (Nat.le_trans Fx.1 (by omega)) (Nat.le_trans Fx.2 (by omega))) rfl ?_
        rintro _ w21 ⟨⟨A71, c71, B71, e71, rfl, hn71, hd71⟩, hm21⟩
        replace hL := hL.gr hm21
        replace ho := own_gr ho hm21 (by simp)
        replace hl := hl.gr hm21
        replace hbd := hbd.gr hm21
        replace hm0 := hm0.trans hm21
        replace ho7 := own_gr ho7 hm21 (by simp)
        replace hl7 := hl7.gr hm21
        replace hb11 := Blk.gr hb11 hm21
        replace hn55 := hn55.gr hm21
        replace hd55 := hd55.gr hm21
        replace hn69 := hn69.gr hm21
        replace hd69 := hd69.gr hm21
        replace hS2 := hS2.trans hm21
        clear hm21
        have F71 := Fit.mul (hfa _ (List.mem_of_getElem? hzr)) Fx
        refine L.nil (hX _ _ ⟨.inr hS2, ?_⟩)
        refine D.take 8 rfl (by decide +kernel) (fun w_ hS => (R1.atOwn (i := j) rfl rfl (own_gr ho7_s hS (by simp)) tyS23 rfl (by omega))) hS2 rfl <| D.one 9 rfl (by decide +kernel) (fun hX => ?_)
        refine L.storeOwnA rfl rfl rfl ho7 hl7 (by first | exact mem_own | (intro b hb; simp [hb])) (by rw [upd_length]; omega) ((⟨_, _, _, _, rfl, hn71, hd71⟩ : rdP.rd _ _ _ (z69 * x))) tyG31 ?_
        intro w22 ho7' hl7' hm22
        replace hL := hL.mod hm22 (by first | exact mem_own | (intro b hb; simp [hb]))
        replace ho := own_away (s' := 1) (el' := 0) (k' := 0) (B' := 0) (ys := []) ho hm22 (by first | assumption | exact Away.symm (by assumption))
        replace hl := hl.mod hm22 (by first | exact mem_own | (intro b hb; simp [hb]))
        replace hbd := hbd.gr hm22
        replace hm0 := Mod.oldOwn hm0 hm22 ho7
        replace hb11 := Blk.ownfar hb11 hm22 hno_ho7_g11
        replace hn55 := hn55.mod hm22 (by first | exact mem_own | (intro b hb; simp [hb]))
        replace hd55 := hd55.mod hm22 (by first | exact mem_own | (intro b hb; simp [hb]))
        replace hn69 := hn69.mod hm22 (by first | exact mem_own | (intro b hb; simp [hb]))
        replace hd69 := hd69.mod hm22 (by first | exact mem_own | (intro b hb; simp [hb]))
        replace hn71 := hn71.mod hm22 (by first | exact mem_own | (intro b hb; simp [hb]))
        replace hd71 := hd71.mod hm22 (by first | exact mem_own | (intro b hb; simp [hb]))
        clear hm22 hl7
        replace ho7 := ho7'; clear ho7'
        have hl7 := hl7'; clear hl7'
        refine L.nil (hX _ _ ⟨.inl rfl, ?_⟩)
        refine D.done (by decide +kernel) ?_ _
        refine X.blockEnd <| X.seq <| W.region <| L.v (R1.move rfl) rfl <| L.v (R1.addI (b := 1) rfl rfl (by omega)) rfl <| L.v (R1.assign rfl) rfl <| L.nil <| X.next (j + 1, css7.set j [.bool (decide ((z69 * x).num < 0)), .slice A71 (toL (z69 * x).num.natAbs).length c71, .slice B71 (toL (z69 * x).den).length e71]) ?_ ?_ ?_
        · exact ⟨rfl, rfl, rfl, rfl, rfl, rfl, rfl, rfl, rfl, trivial⟩
        ·
         exact ⟨hL.sub (by intro b hb; first | exact hb | (simp only [mq] at hb ⊢; grind)), ho, hl.sub (by intro b hb; first | exact hb | (simp only [mq] at hb ⊢; grind)), hbd.sub (by intro b hb; first | exact hb | (simp only [mq] at hb ⊢; grind)), hm0, haw_ho_ho7, ho7, by rw [← upd_set hzr]; exact hl7.sub (by intro b hb; first | exact hb | (simp only [mq] at hb ⊢; grind)), hb11, hno_ho_g11, hno_ho7_g11, hn55.sub (by intro b hb; first | exact hb | (simp only [mq] at hb ⊢; grind)), hd55.sub (by intro b hb; first | exact hb | (simp only [mq] at hb ⊢; grind)), by omega⟩
        · first | omega | (dsimp only; omega)
       ·
        intro hc61
        try simp only [bq, ne_eq] at hc61
        obtain rfl : j = a.length := by omega
        rw [upd_all] at hl7
        obtain ⟨b, hbe⟩ : ∃ b, b = a.map (fun z => z * x) := ⟨_, rfl⟩
        rw [← hbe] at hl7
        have hbl : b.length = (heldG z0) + 1 := by rw [hbe, List.length_map]; exact hal
        have hAb : Lay rdP (ownL u ++ M) w19 a9 b := own_lay2 hbd0 ho7 (by rw [hbl, hal]) hl7 haw_ho_ho7 (by intro b hb; first | exact hb | (simp only [mq] at hb ⊢; grind))
        have hfb : FitL b := fun y hy => by rw [hbe] at hy; obtain ⟨z, hz, rfl⟩ := List.mem_map.1 hy; exact ((hft z hz).mul Fx).mono (by omega)
        have okr := hA.row_ok oks.bn
        have hrl9 := hA.len (heldG_le z0)
        refine W.exit <| X.thenExit <| X.nextExit <| X.here <| X.seq <| W.seq <| W.seq <| W.region <| L.v (R1.assign rfl) rfl <| L.nil <| X.seq ?_
        refine W.block <| W.loop (ι := Nat × List (List Value)) (fun (j, css) => [(0, .slice TL cs.length tL), (1, .int .i64 (((heldG z0) : Nat) : Int)), (6, u), (7, .bool ok), (8, .int .i64 (i : Int)), (9, a9), (10, .int .i64 (kk : Int)), (14, .int .i64 (j : Int))]) (fun (j, css) w_ => Lay rdC (ownL u ++ M) w_ (.slice TL cs.length tL) cs ∧ w_.ownsRow w.heap.size 23 1 u rs.length css.flatten ∧ LayL (rdR rdP) (ownL u ++ M) w_ css (upd (stepD kk b) rs j) ∧ Lay rdP (ownL u ++ M) w_ a9 b ∧ Bd (ownL u ++ M) w_ ∧ Mod [] w w_ ∧ j ≤ rs.length) (fun (j, css) => rs.length - j) (0, css) ?_ ?_ ?_
        · exact ⟨rfl, rfl, rfl, rfl, rfl, rfl, rfl, rfl, trivial⟩
        ·
         exact ⟨hL.sub (by intro b hb; first | exact hb | (simp only [mq] at hb ⊢; grind)), ho, by rw [upd_zero]; exact hl.sub (by intro b hb; first | exact hb | (simp only [mq] at hb ⊢; grind)), hAb.sub (by intro b hb; first | exact hb | (simp only [mq] at hb ⊢; grind)), hbd.sub (by intro b hb; first | exact hb | (simp only [mq] at hb ⊢; grind)), hm0, Nat.zero_le _⟩
        ·
         rintro ⟨j, css⟩ w23 ⟨hL, ho, hl, hAb, hbd, hm0, hj⟩
         refine W.seq <| W.seq <| W.region <| L.v (R1.move rfl) rfl <| L.v (R1.move rfl) rfl <| L.v (R1.lenOwn rfl ho tyS63) rfl <| L.v (R1.lt rfl rfl) rfl <| L.nil <| X.seq <| W.cond rfl ?_ ?_
         ·
          intro hc76
          try simp only [bq, ne_eq] at hc76
          refine W.skip <| X.seq <| W.seq <| W.block <| W.seq <| W.region <| L.v (R1.move rfl) rfl <| L.v (R1.move rfl) rfl <| L.v (R1.atOwn (i := j) rfl rfl ho tyS63 rfl (by omega)) rfl ?_
          obtain ⟨z82, cs82, hz82, hE82, v82, rfl, hl82⟩ := own_elemQ ho rfl hl (j := j) (by rw [upd_length]; omega)
          obtain ⟨A82, a82, rfl⟩ := hl82.form
          refine L.v (R1.loadE1 rfl hE82 tyP23) rfl ?_
          have hzr := hz82
          rw [upd_get (by omega)] at hzr
          have hkz : kk < z82.length := by rw [(okr _ (List.mem_of_getElem? hzr)).2]; omega
          refine L.v (R1.move rfl) rfl <| L.v (R1.atLay (j := kk) rfl rfl hl82 tyS23 rfl hkz) rfl ?_
          obtain ⟨z85, cs85, hz85, hE85, A85, a85, B85, b85, rfl, hn85, hd85⟩ := Lay.elemQ hl82 (j := kk) hkz
          refine L.v (R1.loadE rfl hE85 tyG31) rfl <| L.call rfl (c_ref2_Zero (q := z85) (rv_toL _) hn85 hd85 hbd (Nat.le_trans ((okr _ (List.mem_of_getElem? hzr)).1 _ (List.mem_of_getElem? hz85)).1 (by decide)) (Nat.le_trans ((okr _ (List.mem_of_getElem? hzr)).1 _ (List.mem_of_getElem? hz85)).2 (by decide))) rfl ?_
          rintro _ w24 ⟨rfl, hm24⟩
          replace hL := hL.gr hm24
          replace ho := own_gr ho hm24 (by simp)
          replace hl := hl.gr hm24
          replace hAb := hAb.gr hm24
          replace hbd := hbd.gr hm24
          replace hm0 := hm0.trans hm24
          replace hl82 := hl82.gr hm24
          replace hn85 := hn85.gr hm24
          replace hd85 := hd85.gr hm24
          clear hm24
          refine L.v (R1.not rfl) rfl <| L.nil <| X.seq <| W.cond rfl ?_ ?_
          ·
           intro hc87
           simp only [Bool.not_eq_true', Bool.not_eq_false', decide_eq_true_eq, decide_eq_false_iff_not] at hc87
           refine W.drawW (T := [16]) rfl (by decide +kernel) (NoHang.block (NoHang.then (NoHang.next (NoHang.block (NoHang.then (NoHang.block (NoHang.then (NoHang.next (NoHang.block (NoHang.then NoHang.post)))))))))) (fun w25 hm25 => ?_)
           replace hL := hL.gr hm25
           replace ho := own_gr ho hm25 (by simp)
           replace hl := hl.gr hm25
           replace hAb := hAb.gr hm25
           replace hbd := hbd.gr hm25
           replace hm0 := hm0.trans hm25
           replace hl82 := hl82.gr hm25
           replace hn85 := hn85.gr hm25
           replace hd85 := hd85.gr hm25
           have hS3 : Mod [] w25 w25 := Mod.refl _ _
           clear hm25
           have ho_s := ho
           refine D.take 0 rfl (by decide +kernel) (fun w_ hS => (R1.move rfl)) hS3 rfl <| D.take 1 rfl (by decide +kernel) (fun w_ hS => (R1.move rfl)) hS3 rfl <| D.take 2 rfl (by decide +kernel) (fun w_ hS => (R1.move rfl)) hS3 rfl <| D.take 3 rfl (by decide +kernel) (fun w_ hS => (R1.move rfl)) hS3 rfl <| D.take 4 rfl (by decide +kernel) (fun w_ hS => (R1.atOwn (i := j) rfl rfl (own_gr ho_s hS (by simp)) tyS63 rfl (by omega))) hS3 rfl ?_
           obtain ⟨z93, cs93, hz93, hE93, v93, rfl, hl93⟩ := own_elemQ ho rfl hl (j := j) (by rw [upd_length]; omega)
           obtain ⟨A93, a93, rfl⟩ := hl93.form
           obtain rfl : z82 = z93 := by have h9 := hz93; rw [hz82] at h9; injection h9
           refine D.take 5 rfl (by decide +kernel) (fun w_ hS => (R1.loadE1 rfl (SlE.gr hE93 hS) tyP23)) hS3 rfl <| D.take 6 rfl (by decide +kernel) (fun w_ hS => (R1.move rfl)) hS3 rfl <| D.take 7 rfl (by decide +kernel) (fun w_ hS => (R1.move rfl)) hS3 rfl <| D.take 8 rfl (by decide +kernel) (fun w_ hS => (R1.move rfl)) hS3 rfl <| D.take 9 rfl (by decide +kernel) (fun w_ hS => (R1.atOwn (i := j) rfl rfl (own_gr ho_s hS (by simp)) tyS63 rfl (by omega))) hS3 rfl ?_
           obtain ⟨z98, cs98, hz98, hE98, v98, rfl, hl98⟩ := own_elemQ ho rfl hl (j := j) (by rw [upd_length]; omega)
           obtain ⟨A98, a98, rfl⟩ := hl98.form
           obtain rfl : z82 = z98 := by have h9 := hz98; rw [hz82] at h9; injection h9
           refine D.take 10 rfl (by decide +kernel) (fun w_ hS => (R1.loadE1 rfl (SlE.gr hE98 hS) tyP23)) hS3 rfl <| D.take 11 rfl (by decide +kernel) (fun w_ hS => (R1.move rfl)) hS3 rfl <| D.take 12 rfl (by decide +kernel) (fun w_ hS => (R1.atLay (j := kk) rfl rfl (Lay.gr hl98 hS) tyS23 rfl hkz)) hS3 rfl ?_
           obtain ⟨z101, cs101, hz101, hE101, A101, a101, B101, b101, rfl, hn101, hd101⟩ := Lay.elemQ hl98 (j := kk) hkz
           obtain rfl : z85 = z101 := by have h9 := hz101; rw [hz85] at h9; injection h9
           refine D.take 13 rfl (by decide +kernel) (fun w_ hS => (R1.loadE rfl (SlE.gr hE101 hS) tyG31)) hS3 rfl <| D.one 14 rfl (by decide +kernel) (fun hX => ?_)
           refine L.call rfl (c_lessR hl93 hAb ⟨_, _, _, _, rfl, hn101, hd101⟩ hbd (okr _ (List.mem_of_getElem? hzr)).1 hfb ((okr _ (List.mem_of_getElem? hzr)).1 _ (List.mem_of_getElem? hz101)) (by rw [(okr _ (List.mem_of_getElem? hzr)).2, hbl]) (by rw [(okr _ (List.mem_of_getElem? hzr)).2]; omega)) rfl ?_
           rintro v102 w26 ⟨hl102, hm26⟩
           replace hL := hL.gr hm26
           replace ho := own_gr ho hm26 (by simp)
           replace hl := hl.gr hm26
           replace hAb := hAb.gr hm26
           replace hbd := hbd.gr hm26
           replace hm0 := hm0.trans hm26
           replace hl82 := hl82.gr hm26
           replace hn85 := hn85.gr hm26
           replace hd85 := hd85.gr hm26
           replace hl93 := hl93.gr hm26
           replace hl98 := hl98.gr hm26
           replace hn101 := hn101.gr hm26
           replace hd101 := hd101.gr hm26
           replace hS3 := hS3.trans hm26
           clear hm26
           refine L.nil (hX _ _ ⟨.inr hS3, ?_⟩)
           refine D.take 15 rfl (by decide +kernel) (fun w_ hS => (R1.atOwn (i := j) rfl rfl (own_gr ho_s hS (by simp)) tyS63 rfl (by omega))) hS3 rfl <| D.one 16 rfl (by decide +kernel) (fun hX => ?_)
           refine L.storeOwnS rfl rfl ho hl (by first | exact mem_own | (intro b hb; simp [hb])) (by rw [upd_length]; omega) (hl102) tyP23 ?_
           intro w27 ho' hl' hm27
           replace hL := hL.mod hm27 (by first | exact mem_own | (intro b hb; simp [hb]))
           replace hAb := hAb.mod hm27 (by first | exact mem_own | (intro b hb; simp [hb]))
           replace hbd := hbd.gr hm27
           replace hm0 := Mod.oldOwn hm0 hm27 ho
           replace hl82 := hl82.mod hm27 (by first | exact mem_own | (intro b hb; simp [hb]))
           replace hn85 := hn85.mod hm27 (by first | exact mem_own | (intro b hb; simp [hb]))
           replace hd85 := hd85.mod hm27 (by first | exact mem_own | (intro b hb; simp [hb]))
           replace hl93 := hl93.mod hm27 (by first | exact mem_own | (intro b hb; simp [hb]))
           replace hl98 := hl98.mod hm27 (by first | exact mem_own | (intro b hb; simp [hb]))
           replace hn101 := hn101.mod hm27 (by first | exact mem_own | (intro b hb; simp [hb]))
           replace hd101 := hd101.mod hm27 (by first | exact mem_own | (intro b hb; simp [hb]))
           replace hl102 := hl102.mod hm27 (by first | exact mem_own | (intro b hb; simp [hb]))
           clear hm27 hl
           replace ho := ho'; clear ho'
           have hl := hl'; clear hl'
           refine L.nil (hX _ _ ⟨.inl rfl, ?_⟩)
           refine D.done (by decide +kernel) ?_ _
           refine X.blockEnd <| X.seq <| W.region <| L.v (R1.move rfl) rfl <| L.v (R1.addI (b := 1) rfl rfl (by omega)) rfl <| L.v (R1.assign rfl) rfl <| L.nil <| X.next (j + 1, css.set j [v102]) ?_ ?_ ?_
           · exact ⟨rfl, rfl, rfl, rfl, rfl, rfl, rfl, rfl, trivial⟩
           ·
            exact ⟨hL.sub (by intro b hb; first | exact hb | (simp only [mq] at hb ⊢; grind)), ho, by rw [← updD_T hzr hz85 hc87]; exact hl.sub (by intro b hb; first | exact hb | (simp only [mq] at hb ⊢; grind)), hAb.sub (by intro b hb; first | exact hb | (simp only [mq] at hb ⊢; grind)), hbd.sub (by intro b hb; first | exact hb | (simp only [mq] at hb ⊢; grind)), hm0, by omega⟩
           · first | omega | (dsimp only; omega)
          ·
           intro hc87
           simp only [Bool.not_eq_true', Bool.not_eq_false', decide_eq_true_eq, decide_eq_false_iff_not] at hc87
           refine W.skip <| X.blockEnd <| X.seq <| W.region <| L.v (R1.move rfl) rfl <| L.v (R1.addI (b := 1) rfl rfl (by omega)) rfl <| L.v (R1.assign rfl) rfl <| L.nil <| X.next (j + 1, css) ?_ ?_ ?_
           · exact ⟨rfl, rfl, rfl, rfl, rfl, rfl, rfl, rfl, trivial⟩
           ·
            exact ⟨hL.sub (by intro b hb; first | exact hb | (simp only [mq] at hb ⊢; grind)), ho, by rw [← updD_F hzr hz85 hc87]; exact hl.sub (by intro b hb; first | exact hb | (simp only [mq] at hb ⊢; grind)), hAb.sub (by intro b hb; first | exact hb | (simp only [mq] at hb ⊢; grind)), hbd.sub (by intro b hb; first | exact hb | (simp only [mq] at hb ⊢; grind)), hm0, by omega⟩
           · first | omega | (dsimp only; omega)
         ·
          intro hc76
          try simp only [bq, ne_eq] at hc76
          obtain rfl : j = rs.length := by omega
          rw [upd_all] at hl
          refine W.exit <| X.thenExit <| X.nextExit <| X.here <| X.seq ?_
          have hok10 := hA.len (heldG_le z0)
          refine W.region <| L.v (R1.move rfl) rfl <| L.v (R1.move rfl) rfl <| L.build1 rfl (lay_one hAb) tyS63 tyZ23 rfl ?_
          intro g106 w28 hN106
          replace hL := hL.gr hN106.mod
          replace ho := own_gr ho hN106.mod (by simp)
          replace hl := hl.gr hN106.mod
          replace hAb := hAb.gr hN106.mod
          replace hbd := hbd.gr hN106.mod
          replace hm0 := hm0.trans hN106.mod
          have hrow : Sl [] w28 1 (.slice (some ⟨g106, 0, none⟩) 1 1) 1 [a9] := Sl.row1 hN106.blk (by simp)
          clear hN106
          refine L.append rfl rfl ho hrow (by intro c hc; rw [List.mem_singleton.1 hc]; exact lay_one hAb) tyS63 tyZ23 (by omega) (by unfold maxLen; omega) hm0.size rfl ?_
          intro v107 w29 ho107' hG107
          replace hL := hL.grew2 hG107 (by first | exact mem_own | (intro b hb; simp [hb]))
          replace hl := hl.grew2 hG107 (by first | exact mem_own | (intro b hb; simp [hb]))
          replace hAb := hAb.grew2 hG107 (by first | exact mem_own | (intro b hb; simp [hb]))
          replace hbd := hbd.grew2 hG107 (by first | exact mem_own | (intro b hb; simp [hb]))
          replace hm0 := Mod.oldOwn hm0 hG107.mod ho
          replace ho := ho107'; clear ho107'
          clear hG107
          refine L.v (R1.assign rfl) rfl <| L.nil <| X.blockEnd <| X.seq <| W.region <| L.v (R1.move rfl) rfl <| L.v (R1.addI (b := 1) rfl rfl (by omega)) rfl <| L.v (R1.assign rfl) rfl <| L.nil <| X.next (i + 1, v107, css ++ [[a9]], (solveD (heldG z0) rs ok (rowD (heldG z0) (conT z24))).1, ok) ?_ ?_ ?_
          · exact ⟨rfl, rfl, rfl, rfl, rfl, trivial⟩
          ·
           have hsk := solveD_k (n := (heldG z0)) (ok := ok) hae hkk hc40 hx hbe
           have h9 := OkS.stepD (cs := cs) (ok := ok) hA hc27 (oks.ov _ (List.mem_of_getElem? hz24) hc27)
           have e9 : (solveD (heldG z0) rs ok (rowD (heldG z0) (conT z24))).2 = ok := by rw [hsk]
           rw [e9] at h9
           exact ⟨hL.sub (by intro b hb; first | exact hb | (simp only [mq] at hb ⊢; grind)), own_congr ho (by rw [hsk]; simp) (by simp), by rw [hsk]; exact (hl.sub (by intro b hb; first | exact hb | (simp only [mq] at hb ⊢; grind))).append (LayL.one _ b ⟨a9, rfl, hAb.sub (by intro b hb; first | exact hb | (simp only [mq] at hb ⊢; grind))⟩), hbd.sub (by intro b hb; first | exact hb | (simp only [mq] at hb ⊢; grind)), hm0, by omega, by rw [vecs_yes hz24 hc27]; exact h9⟩
          · first | omega | (dsimp only; omega)
  ·
   intro hc18
   try simp only [bq, ne_eq] at hc18
   obtain rfl : i = cs.length := by omega
   rw [List.take_length] at hA
   refine W.exit <| X.thenExit <| X.nextExit <| X.here <| X.seq <| W.seq <| W.region <| L.v (R1.move rfl) rfl <| L.v (R1.move rfl) rfl <| L.v (R1.assign rfl) rfl <| L.v (R1.assign rfl) rfl ?_
   refine L.nil <| X.seq <| W.ret <| X.result2 rfl (.tmp rfl (.tmp rfl .nil)) ?_
   exact ⟨u, rs, ok, rfl, own_lay hbd0 ho hl (by intro b hb; first | exact hb | (simp only [mq] at hb ⊢; grind)), hA, hm0⟩

end Go.Proofs.Ytpnhihljgkohcaa
