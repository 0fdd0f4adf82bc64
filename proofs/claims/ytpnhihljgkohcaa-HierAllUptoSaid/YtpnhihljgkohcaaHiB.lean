/- Walks: what the functions compute. -/
import Derived.Test.YtpnhihljgkohcaaHiA
import Derived.Test.YtpnhihljgkohcaaGPA
namespace Go.Proofs.Ytpnhihljgkohcaa
open Go.RowKit
set_option linter.unusedVariables false
set_option linter.unusedSimpArgs false
set_option maxRecDepth 10000

theorem stay_isC {n v : Nat} (bs : List QR) (h : v < n) : isC (stC bs v) (n : Int) = true := by
  show (decide ((0 : Int) ≤ 4) && (decide ((4 : Int) ≤ 4) && ((QR.nf (-(valOf bs (v : Int)))).is && (decide ((0 : Int) ≤ (v : Int)) && (decide ((v : Int) < (n : Int)) && ((QR.nf ((1 : Int) : Rat)).is && (decide ((QR.nf ((1 : Int) : Rat)).n.length ≠ 0) && true))))))) = true
  rw [nf_is, nf_is, nf_len (by decide) (by decide), decide_eq_true (show (0 : Int) ≤ (v : Int) by omega), decide_eq_true (show (v : Int) < (n : Int) by omega)]; decide
theorem ints_at {l : List Nat} {i : Nat} {p : Nat} (h : l[i]? = some p) (hi : i < (l.map fun (x : Nat) => (x : Int)).length) : (l.map fun (x : Nat) => (x : Int))[i] = (p : Int) := by
  obtain ⟨h1, rfl⟩ := List.getElem?_eq_some_iff.1 h
  simp
theorem fzC_at {n : Nat} {l : List CR} {i : Nat} {z : CR} (h : (fzC n l)[i]? = some z) : ∃ p, (fz n l)[i]? = some p ∧ p.1 = z ∧ (fzI n l)[i]? = some p.2 := by
  unfold fzC at h
  rw [List.getElem?_map, Option.map_eq_some_iff] at h
  obtain ⟨p, h1, h2⟩ := h
  refine ⟨p, h1, h2, ?_⟩
  unfold fzI; rw [List.getElem?_map, h1]; rfl
theorem fz_lens (n : Nat) (l : List CR) : (fzC n l).length = (fz n l).length ∧ (fzI n l).length = (fz n l).length := by unfold fzC fzI; simp
theorem fzC_sub (n : Nat) (l : List CR) : ∀ c ∈ fzC n l, c ∈ l ∧ isC c (n : Int) = true := fun c h => by
  rw [fzC_filter] at h; exact List.mem_filter.1 h

set_option maxHeartbeats 2000000 in
theorem c_all12 {M : List Nat} {w : World} {vl vb : Value} {cs : List CR} {bs : List QR} {n : Nat} (hL : Lay rdC M w vl cs) (hvb : Lay rdQ M w vb bs) (hbd : Bd M w) (hsm : ∀ c ∈ cs, SmC 150 c) (hsb : ∀ q ∈ bs, SmQ 3 q) (hcl : cs.length ≤ 1000) (hn64 : n ≤ 64) :
    Ret Try.prog 26 #[vl, vb, .int .i64 (n : Int)] w (fun r w' => ∃ r1 r2, r = .tuple #[r1, r2] ∧ Lay rdC M w' r1 (fzC n (cs ++ staysL bs n)) ∧ Lay rdI M w' r2 ((fzI n (cs ++ staysL bs n)).map fun (x : Nat) => (x : Int)) ∧ Mod [] w w') := by
 have hbd0 := hbd
 obtain ⟨TL, tL, rfl⟩ := hL.form
 obtain ⟨TB, tB, rfl⟩ := hvb.form
 refine Ret.of (vs := [.slice TL cs.length tL, .slice TB bs.length tB, .int .i64 (n : Int)]) (n := 72) Try.func26 rfl rfl rfl rfl ?_
 have hm0 : Mod [] w w := Mod.refl _ _
 refine W.seq <| W.region <| L.v (R1.assign rfl) rfl <| L.v (R1.assign rfl) rfl <| L.nil <| X.seq <| W.seq <| W.region <| L.v (R1.assign rfl) rfl <| L.nil <| X.seq ?_
 refine W.seq <| W.region <| L.v (R1.assign rfl) rfl <| L.nil <| X.seq <| W.seq <| W.seq <| W.region <| L.v (R1.assign rfl) rfl <| L.nil <| X.seq ?_
 refine W.block <| W.loop (ι := Nat × Value × List (List Value) × Value) (fun (i, u1, css, u2) => [(0, .slice TL cs.length tL), (1, .slice TB bs.length tB), (2, .int .i64 (n : Int)), (8, u1), (9, u2), (10, .int .i64 (i : Int))]) (fun (i, u1, css, u2) w_ => Lay rdC (ownL u1 ++ (ownL u2 ++ M)) w_ (.slice TL cs.length tL) cs ∧ Lay rdQ (ownL u1 ++ (ownL u2 ++ M)) w_ (.slice TB bs.length tB) bs ∧ w_.ownsRow w.heap.size 33 5 u1 (fzC n (cs.take i)).length css.flatten ∧ LayL rdC (ownL u1 ++ (ownL u2 ++ M)) w_ css (fzC n (cs.take i)) ∧ w_.ownsRow w.heap.size 3 1 u2 (fzI n (cs.take i)).length (ints (fzI n (cs.take i))) ∧ Away u1 u2 ∧ Bd (ownL u1 ++ (ownL u2 ++ M)) w_ ∧ Mod [] w w_ ∧ i ≤ cs.length) (fun (i, u1, css, u2) => cs.length - i) (0, .slice none 0 0, [], .slice none 0 0) ?_ ?_ ?_
 · exact ⟨rfl, rfl, rfl, rfl, rfl, rfl, trivial⟩
 ·
  exact ⟨hL.sub (by intro b hb; first | exact hb | (simp only [mq] at hb ⊢; grind)), hvb.sub (by intro b hb; first | exact hb | (simp only [mq] at hb ⊢; grind)), own_nil _ _ _ _, LayL.nil, own_nil _ _ _ _, Away.nil _ _, hbd.sub (by intro b hb; first | exact hb | (simp only [mq] at hb ⊢; grind)), hm0, Nat.zero_le _⟩
 ·
  rintro ⟨i, u1, css, u2⟩ w1 ⟨hL, hvb, ho1, hl, ho2, haw, hbd, hm0, hi⟩
  refine W.seq <| W.seq <| W.region <| L.v (R1.move rfl) rfl <| L.v (R1.move rfl) rfl <| L.v (R1.lenLay rfl hL tyS22) rfl <| L.v (R1.lt rfl rfl) rfl <| L.nil <| X.seq <| W.cond rfl ?_ ?_
  ·
   intro hc17
   try simp only [bq, ne_eq] at hc17
   refine W.skip <| X.seq <| W.seq <| W.block <| W.seq <| W.region <| L.v (R1.move rfl) rfl <| L.v (R1.move rfl) rfl <| L.v (R1.atLay (j := i) rfl rfl hL tyS22 rfl (by omega)) rfl ?_
   obtain ⟨z23, cs23, hz23, hE23, vt23, ds23, rfl, ht23, vn23, vd23, rfl, hn23, hd23⟩ := Lay.elemQ hL (j := i) (by omega)
   obtain ⟨T23, t23, rfl⟩ := ht23.form
   obtain ⟨A23, c23, rfl⟩ := hn23.form
   obtain ⟨B23, e23, rfl⟩ := hd23.form
   refine L.v (R1.loadE rfl hE23 tyG33) rfl <| L.v (R1.move rfl) rfl <| L.call rfl (c_ref8_Is ht23 hn23 hd23 (n := (n : Int)) (by omega) hbd ((hsm _ (List.mem_of_getElem? hz23)).mono (by decide))) rfl ?_
   rintro _ w2 ⟨rfl, hm2⟩
   replace hL := hL.gr hm2
   replace hvb := hvb.gr hm2
   replace ho1 := own_gr ho1 hm2 (by simp)
   replace hl := hl.gr hm2
   replace ho2 := own_gr ho2 hm2 (by simp)
   replace hbd := hbd.gr hm2
   replace hm0 := hm0.trans hm2
   replace ht23 := ht23.gr hm2
   replace hn23 := hn23.gr hm2
   replace hd23 := hd23.gr hm2
   clear hm2
   refine L.nil <| X.seq <| W.cond rfl ?_ ?_
   ·
    intro hc25
    have hcc_ := hc25
    refine W.region <| L.v (R1.move rfl) rfl <| L.v (R1.move rfl) rfl <| L.v (R1.move rfl) rfl <| L.v (R1.atLay (j := i) rfl rfl hL tyS22 rfl (by omega)) rfl ?_
    obtain ⟨z30, cs30, hz30, hE30, vt30, ds30, rfl, ht30, vn30, vd30, rfl, hn30, hd30⟩ := Lay.elemQ hL (j := i) (by omega)
    obtain ⟨T30, t30, rfl⟩ := ht30.form
    obtain ⟨A30, c30, rfl⟩ := hn30.form
    obtain ⟨B30, e30, rfl⟩ := hd30.form
    obtain rfl : z23 = z30 := by have h9 := hz30; rw [hz23] at h9; injection h9
    refine L.v (R1.loadE rfl hE30 tyG33) rfl <| L.buildSlice (cells := [.int .i64 z23.st, .slice T30 z23.ts.length t30, .bool z23.k.s, .slice A30 z23.k.n.length c30, .slice B30 z23.k.d.length e30]) rfl tyS22 tyZ33 (fillK1 _ _ _ _ _ _ _ _ _ _ _) (by decide) (by decide) rfl ?_
    intro g31 w3 hN31
    replace hL := hL.gr hN31.mod
    replace hvb := hvb.gr hN31.mod
    replace ho1 := own_gr ho1 hN31.mod (by simp)
    replace hl := hl.gr hN31.mod
    replace ho2 := own_gr ho2 hN31.mod (by simp)
    replace hbd := hbd.gr hN31.mod
    replace hm0 := hm0.trans hN31.mod
    replace ht23 := ht23.gr hN31.mod
    replace hn23 := hn23.gr hN31.mod
    replace hd23 := hd23.gr hN31.mod
    replace ht30 := ht30.gr hN31.mod
    replace hn30 := hn30.gr hN31.mod
    replace hd30 := hd30.gr hN31.mod
    have hrow : Sl [] w3 5 (.slice (some ⟨g31, 0, none⟩) 1 1) 1 [.int .i64 z23.st, .slice T30 z23.ts.length t30, .bool z23.k.s, .slice A30 z23.k.n.length c30, .slice B30 z23.k.d.length e30] := Sl.of_blk hN31.blk 0 (Nat.le_refl _) (by decide) rfl (by simp) (fun j hj => by simp)
    clear hN31
    have hfl := fz_len n (cs.take i)
    rw [List.length_take] at hfl
    have hfc : (fzC n (cs.take i)).length = (fz n (cs.take i)).length := by unfold fzC; simp
    have hfi : (fzI n (cs.take i)).length = (fz n (cs.take i)).length := by unfold fzI; simp
    refine L.append rfl rfl ho1 hrow (by intro c hc; simp only [List.mem_cons, List.not_mem_nil, or_false] at hc; rcases hc with rfl | rfl | rfl | rfl | rfl <;> rfl) tyS22 tyZ33 (by omega) (by unfold maxLen; omega) hm0.size rfl ?_
    intro v32 w4 ho32' hG32
    have haw_ := (Away.grew haw.symm hG32 ho2).symm
    replace hL := hL.grew2 hG32 (by first | exact mem_own | (intro b hb; simp [hb]))
    replace hvb := hvb.grew2 hG32 (by first | exact mem_own | (intro b hb; simp [hb]))
    replace hl := hl.grew2 hG32 (by first | exact mem_own | (intro b hb; simp [hb]))
    replace ho2 := own_away (s' := 1) (el' := 0) (k' := 0) (B' := 0) (ys := []) ho2 hG32.mod (by first | assumption | exact Away.symm (by assumption))
    replace hbd := hbd.grew2 hG32 (by first | exact mem_own | (intro b hb; simp [hb]))
    replace hm0 := Mod.oldOwn hm0 hG32.mod ho1
    replace ht23 := ht23.grew2 hG32 (by first | exact mem_own | (intro b hb; simp [hb]))
    replace hn23 := hn23.grew2 hG32 (by first | exact mem_own | (intro b hb; simp [hb]))
    replace hd23 := hd23.grew2 hG32 (by first | exact mem_own | (intro b hb; simp [hb]))
    replace ht30 := ht30.grew2 hG32 (by first | exact mem_own | (intro b hb; simp [hb]))
    replace hn30 := hn30.grew2 hG32 (by first | exact mem_own | (intro b hb; simp [hb]))
    replace hd30 := hd30.grew2 hG32 (by first | exact mem_own | (intro b hb; simp [hb]))
    replace haw := haw_; clear haw_
    replace ho1 := ho32'; clear ho32'
    clear hG32
    refine L.v (R1.move rfl) rfl <| L.v (R1.move rfl) rfl <| L.build1 rfl rfl tyS42 tyZ3 rfl ?_
    intro g35 w5 hN35
    replace hL := hL.gr hN35.mod
    replace hvb := hvb.gr hN35.mod
    replace ho1 := own_gr ho1 hN35.mod (by simp)
    replace hl := hl.gr hN35.mod
    replace ho2 := own_gr ho2 hN35.mod (by simp)
    replace hbd := hbd.gr hN35.mod
    replace hm0 := hm0.trans hN35.mod
    replace ht23 := ht23.gr hN35.mod
    replace hn23 := hn23.gr hN35.mod
    replace hd23 := hd23.gr hN35.mod
    replace ht30 := ht30.gr hN35.mod
    replace hn30 := hn30.gr hN35.mod
    replace hd30 := hd30.gr hN35.mod
    have hrow : Sl [] w5 1 (.slice (some ⟨g35, 0, none⟩) 1 1) 1 [.int .i64 ((i : Int))] := Sl.row1 hN35.blk (by simp)
    clear hN35
    refine L.append rfl rfl ho2 hrow (by simp [Value.oneCell']) tyS42 tyZ3 (by omega) (by unfold maxLen; omega) hm0.size rfl ?_
    intro v36 w6 ho36' hG36
    have haw_ := Away.grew haw hG36 ho1
    replace hL := hL.grew2 hG36 (by first | exact mem_own | (intro b hb; simp [hb]))
    replace hvb := hvb.grew2 hG36 (by first | exact mem_own | (intro b hb; simp [hb]))
    replace ho1 := own_away (s' := 1) (el' := 0) (k' := 0) (B' := 0) (ys := []) ho1 hG36.mod (by first | assumption | exact Away.symm (by assumption))
    replace hl := hl.grew2 hG36 (by first | exact mem_own | (intro b hb; simp [hb]))
    replace hbd := hbd.grew2 hG36 (by first | exact mem_own | (intro b hb; simp [hb]))
    replace hm0 := Mod.oldOwn hm0 hG36.mod ho2
    replace ht23 := ht23.grew2 hG36 (by first | exact mem_own | (intro b hb; simp [hb]))
    replace hn23 := hn23.grew2 hG36 (by first | exact mem_own | (intro b hb; simp [hb]))
    replace hd23 := hd23.grew2 hG36 (by first | exact mem_own | (intro b hb; simp [hb]))
    replace ht30 := ht30.grew2 hG36 (by first | exact mem_own | (intro b hb; simp [hb]))
    replace hn30 := hn30.grew2 hG36 (by first | exact mem_own | (intro b hb; simp [hb]))
    replace hd30 := hd30.grew2 hG36 (by first | exact mem_own | (intro b hb; simp [hb]))
    replace haw := haw_; clear haw_
    replace ho2 := ho36'; clear ho36'
    clear hG36
    refine L.v (R1.assign rfl) rfl <| L.v (R1.assign rfl) rfl <| L.nil <| X.blockEnd <| X.seq <| W.region <| L.v (R1.move rfl) rfl <| L.v (R1.addI (b := 1) rfl rfl (by omega)) rfl <| L.v (R1.assign rfl) rfl <| L.nil <| X.next (i + 1, v32, css ++ [[.int .i64 z23.st, .slice T30 z23.ts.length t30, .bool z23.k.s, .slice A30 z23.k.n.length c30, .slice B30 z23.k.d.length e30]], v36) ?_ ?_ ?_
    · exact ⟨rfl, rfl, rfl, rfl, rfl, rfl, trivial⟩
    ·
     obtain ⟨e1, e2⟩ := take_snoc hz23
     obtain ⟨e3, e4⟩ := fz_yes (n := n) (l := cs.take i) hc25
     rw [← e1] at e3 e4
     rw [e2] at e4
     exact ⟨hL.sub (by intro b hb; first | exact hb | (simp only [mq] at hb ⊢; grind)), hvb.sub (by intro b hb; first | exact hb | (simp only [mq] at hb ⊢; grind)), own_congr ho1 (by rw [e3]; simp) (by simp), by rw [e3]; exact (hl.sub (by intro b hb; first | exact hb | (simp only [mq] at hb ⊢; grind))).append (LayL.one _ z23 (rdC_mk (ht30.sub (by intro b hb; first | exact hb | (simp only [mq] at hb ⊢; grind))) (hn30.sub (by intro b hb; first | exact hb | (simp only [mq] at hb ⊢; grind))) (hd30.sub (by intro b hb; first | exact hb | (simp only [mq] at hb ⊢; grind))))), own_congr ho2 (by rw [e4]; simp) (by rw [e4, ints_append]; rfl), haw, hbd.sub (by intro b hb; first | exact hb | (simp only [mq] at hb ⊢; grind)), hm0, by omega⟩
    · first | omega | (dsimp only; omega)
   ·
    intro hc25
    have hcc_ := hc25
    refine W.skip <| X.blockEnd <| X.seq <| W.region <| L.v (R1.move rfl) rfl <| L.v (R1.addI (b := 1) rfl rfl (by omega)) rfl <| L.v (R1.assign rfl) rfl <| L.nil <| X.next (i + 1, u1, css, u2) ?_ ?_ ?_
    · exact ⟨rfl, rfl, rfl, rfl, rfl, rfl, trivial⟩
    ·
     obtain ⟨e1, e2⟩ := take_snoc hz23
     obtain ⟨e3, e4⟩ := fz_no (n := n) (l := cs.take i) hc25
     rw [← e1] at e3 e4
     exact ⟨hL.sub (by intro b hb; first | exact hb | (simp only [mq] at hb ⊢; grind)), hvb.sub (by intro b hb; first | exact hb | (simp only [mq] at hb ⊢; grind)), own_congr ho1 (by rw [e3]) rfl, by rw [e3]; exact hl.sub (by intro b hb; first | exact hb | (simp only [mq] at hb ⊢; grind)), own_congr ho2 (by rw [e4]) (by rw [e4]), haw, hbd.sub (by intro b hb; first | exact hb | (simp only [mq] at hb ⊢; grind)), hm0, by omega⟩
    · first | omega | (dsimp only; omega)
  ·
   intro hc17
   try simp only [bq, ne_eq] at hc17
   obtain rfl : i = cs.length := by omega
   rw [List.take_length] at ho1 hl ho2
   refine W.exit <| X.thenExit <| X.nextExit <| X.here <| X.seq <| W.seq <| W.seq <| W.region <| L.v (R1.assign rfl) rfl <| L.nil <| X.seq ?_
   refine W.block <| W.loop (ι := Nat × Value × List (List Value) × Value) (fun (v, u1, css, u2) => [(0, .slice TL cs.length tL), (1, .slice TB bs.length tB), (2, .int .i64 (n : Int)), (8, u1), (9, u2), (11, .int .i64 (v : Int))]) (fun (v, u1, css, u2) w_ => Lay rdC (ownL u1 ++ (ownL u2 ++ M)) w_ (.slice TL cs.length tL) cs ∧ Lay rdQ (ownL u1 ++ (ownL u2 ++ M)) w_ (.slice TB bs.length tB) bs ∧ w_.ownsRow w.heap.size 33 5 u1 (fzC n (cs ++ staysL bs v)).length css.flatten ∧ LayL rdC (ownL u1 ++ (ownL u2 ++ M)) w_ css (fzC n (cs ++ staysL bs v)) ∧ w_.ownsRow w.heap.size 3 1 u2 (fzI n (cs ++ staysL bs v)).length (ints (fzI n (cs ++ staysL bs v))) ∧ Away u1 u2 ∧ Bd (ownL u1 ++ (ownL u2 ++ M)) w_ ∧ Mod [] w w_ ∧ v ≤ n) (fun (v, u1, css, u2) => n - v) (0, u1, css, u2) ?_ ?_ ?_
   · exact ⟨rfl, rfl, rfl, rfl, rfl, rfl, trivial⟩
   ·
    exact ⟨hL.sub (by intro b hb; first | exact hb | (simp only [mq] at hb ⊢; grind)), hvb.sub (by intro b hb; first | exact hb | (simp only [mq] at hb ⊢; grind)), own_congr ho1 (by simp [staysL]) rfl, by simpa [staysL] using hl.sub (by intro b hb; first | exact hb | (simp only [mq] at hb ⊢; grind)), own_congr ho2 (by simp [staysL]) (by simp [staysL]), haw, hbd.sub (by intro b hb; first | exact hb | (simp only [mq] at hb ⊢; grind)), hm0, Nat.zero_le _⟩
   ·
    rintro ⟨v, u1, css, u2⟩ w7 ⟨hL, hvb, ho1, hl, ho2, haw, hbd, hm0, hi⟩
    refine W.seq <| W.seq <| W.region <| L.v (R1.move rfl) rfl <| L.v (R1.move rfl) rfl <| L.v (R1.lt rfl rfl) rfl <| L.nil <| X.seq <| W.cond rfl ?_ ?_
    ·
     intro hc39
     try simp only [bq, ne_eq] at hc39
     refine W.skip <| X.seq <| W.seq <| W.block <| W.seq <| W.region <| L.call rfl (c_ref2_Int (n := 0) (by decide) (by decide) hbd) rfl ?_
     rintro _ w8 ⟨⟨A42, c42, B42, e42, rfl, hn42, hd42⟩, hm8⟩
     replace hL := hL.gr hm8
     replace hvb := hvb.gr hm8
     replace ho1 := own_gr ho1 hm8 (by simp)
     replace hl := hl.gr hm8
     replace ho2 := own_gr ho2 hm8 (by simp)
     replace hbd := hbd.gr hm8
     replace hm0 := hm0.trans hm8
     clear hm8
     have F42 := Fit.int (n := 0) (by decide) (by decide)
     refine L.alloc tyZ31 rfl ?_
     intro g12 w9 hN12
     replace hL := hL.new hN12
     replace hvb := hvb.new hN12
     have hno_ho1_g12 := own_ne_new ho1 hN12
     replace ho1 := own_gr ho1 hN12.mod (by simp)
     replace hl := hl.new hN12
     have hno_ho2_g12 := own_ne_new ho2 hN12
     replace ho2 := own_gr ho2 hN12.mod (by simp)
     replace hbd := hbd.new hN12
     have hge_g12 := New.ge hN12 hm0.size
     replace hm0 := hm0.trans (hN12.mod.mono (by simp))
     replace hn42 := hn42.new hN12
     replace hd42 := hd42.new hN12
     have hb12 := hN12.blk
     clear hN12
     refine L.storeBox rfl rfl hb12 rfl rfl tyG31 ?_
     intro w10 hb12' hm10
     replace hL := hL.mod hm10 (by simp)
     replace hvb := hvb.mod hm10 (by simp)
     replace ho1 := own_far ho1 hm10 hno_ho1_g12
     replace hl := hl.mod hm10 (by simp)
     replace ho2 := own_far ho2 hm10 hno_ho2_g12
     replace hbd := hbd.gr hm10
     replace hm0 := hm0.old1 hm10 hge_g12
     replace hn42 := hn42.mod hm10 (by simp)
     replace hd42 := hd42.mod hm10 (by simp)
     clear hm10
     replace hb12 := hb12'; clear hb12'
     refine L.nil <| X.seq <| W.seq <| W.seq <| W.region <| L.v (R1.move rfl) rfl <| L.v (R1.move rfl) rfl <| L.v (R1.lenLay rfl hvb tyS23) rfl <| L.v (R1.lt rfl rfl) rfl <| L.nil <| X.seq ?_
     refine W.cut (ι := Option Addr × Nat × Option Addr × Nat) (fun (A12, c12, B12, e12) => [(0, .slice TL cs.length tL), (1, .slice TB bs.length tB), (2, .int .i64 (n : Int)), (8, u1), (9, u2), (11, .int .i64 (v : Int)), (12, .pointer (some ⟨g12, 0, none⟩))]) (fun (A12, c12, B12, e12) w_ => Lay rdC (g12 :: (ownL u1 ++ (ownL u2 ++ M))) w_ (.slice TL cs.length tL) cs ∧ Lay rdQ (g12 :: (ownL u1 ++ (ownL u2 ++ M))) w_ (.slice TB bs.length tB) bs ∧ w_.ownsRow w.heap.size 33 5 u1 (fzC n (cs ++ staysL bs v)).length css.flatten ∧ LayL rdC (g12 :: (ownL u1 ++ (ownL u2 ++ M))) w_ css (fzC n (cs ++ staysL bs v)) ∧ w_.ownsRow w.heap.size 3 1 u2 (fzI n (cs ++ staysL bs v)).length (ints (fzI n (cs ++ staysL bs v))) ∧ Away u1 u2 ∧ Bd (g12 :: (ownL u1 ++ (ownL u2 ++ M))) w_ ∧ Mod [] w w_ ∧ U32 (g12 :: (ownL u1 ++ (ownL u2 ++ M))) w_ (.slice A12 (toL (valOf bs (v : Int)).num.natAbs).length c12) (toL (valOf bs (v : Int)).num.natAbs) ∧ U32 (g12 :: (ownL u1 ++ (ownL u2 ++ M))) w_ (.slice B12 (toL (valOf bs (v : Int)).den).length e12) (toL (valOf bs (v : Int)).den) ∧ Blk w_ g12 31 #[.bool (decide ((valOf bs (v : Int)).num < 0)), .slice A12 (toL (valOf bs (v : Int)).num.natAbs).length c12, .slice B12 (toL (valOf bs (v : Int)).den).length e12] ∧ u1.ownBlock ≠ some g12 ∧ u2.ownBlock ≠ some g12 ∧ w.heap.size ≤ g12) ?_ ?_
     ·
      refine W.cond rfl ?_ ?_
      ·
       intro hc46
       try simp only [bq, ne_eq] at hc46
       refine W.region <| L.v (R1.move rfl) rfl <| L.v (R1.move rfl) rfl <| L.v (R1.atLay (j := v) rfl rfl hvb tyS23 rfl (by omega)) rfl ?_
       obtain ⟨z50, cs50, hz50, hE50, vn50, vd50, rfl, hn50, hd50⟩ := Lay.elemQ hvb (j := v) (by omega)
       obtain ⟨A50, c50, rfl⟩ := hn50.form
       obtain ⟨B50, e50, rfl⟩ := hd50.form
       refine L.v (R1.loadE rfl hE50 tyG31) rfl ?_
       have F50 := fit_sm hn50 hd50 (hsb _ (List.mem_of_getElem? hz50))
       refine L.call rfl (c_ref2_Norm (q := (QR.val z50)) rfl hn50 hd50 hbd (Nat.le_trans (hsb _ (List.mem_of_getElem? hz50)).1 (by decide)) (Nat.le_trans (hsb _ (List.mem_of_getElem? hz50)).2 (by decide))) rfl ?_
       rintro _ w11 ⟨⟨A51, c51, B51, e51, rfl, hn51, hd51⟩, hm11⟩
       replace hL := hL.gr hm11
       replace hvb := hvb.gr hm11
       replace ho1 := own_gr ho1 hm11 (by simp)
       replace hl := hl.gr hm11
       replace ho2 := own_gr ho2 hm11 (by simp)
       replace hbd := hbd.gr hm11
       replace hm0 := hm0.trans hm11
       replace hb12 := Blk.gr hb12 hm11
       clear hm11
       have F51 := F50
       refine L.storeBox rfl rfl hb12 rfl rfl tyG31 ?_
       intro w12 hb12' hm12
       replace hL := hL.mod hm12 (by simp)
       replace hvb := hvb.mod hm12 (by simp)
       replace ho1 := own_far ho1 hm12 hno_ho1_g12
       replace hl := hl.mod hm12 (by simp)
       replace ho2 := own_far ho2 hm12 hno_ho2_g12
       replace hbd := hbd.gr hm12
       replace hm0 := hm0.old1 hm12 hge_g12
       replace hn51 := hn51.mod hm12 (by simp)
       replace hd51 := hd51.mod hm12 (by simp)
       clear hm12
       replace hb12 := hb12'; clear hb12'
       refine L.nil <| X.join (A51, c51, B51, e51) ?_ ?_
       · exact ⟨rfl, rfl, rfl, rfl, rfl, rfl, rfl, trivial⟩
       ·
        have e9 : valOf bs (v : Int) = QR.val z50 := valOf_some (by omega) (by rw [Int.toNat_natCast]; exact hz50)
        rw [e9]
        exact ⟨hL.sub (by intro b hb; first | exact hb | (simp only [mq] at hb ⊢; grind)), hvb.sub (by intro b hb; first | exact hb | (simp only [mq] at hb ⊢; grind)), ho1, hl.sub (by intro b hb; first | exact hb | (simp only [mq] at hb ⊢; grind)), ho2, haw, hbd.sub (by intro b hb; first | exact hb | (simp only [mq] at hb ⊢; grind)), hm0, hn51.sub (by intro b hb; first | exact hb | (simp only [mq] at hb ⊢; grind)), hd51.sub (by intro b hb; first | exact hb | (simp only [mq] at hb ⊢; grind)), hb12, hno_ho1_g12, hno_ho2_g12, hge_g12⟩
      ·
       intro hc46
       try simp only [bq, ne_eq] at hc46
       refine W.skip <| X.join (A42, c42, B42, e42) ?_ ?_
       · exact ⟨rfl, rfl, rfl, rfl, rfl, rfl, rfl, trivial⟩
       ·
        have e9 : valOf bs (v : Int) = (((0 : Int)) : Rat) := by rw [valOf_none (by omega)]; rfl
        rw [e9]
        exact ⟨hL.sub (by intro b hb; first | exact hb | (simp only [mq] at hb ⊢; grind)), hvb.sub (by intro b hb; first | exact hb | (simp only [mq] at hb ⊢; grind)), ho1, hl.sub (by intro b hb; first | exact hb | (simp only [mq] at hb ⊢; grind)), ho2, haw, hbd.sub (by intro b hb; first | exact hb | (simp only [mq] at hb ⊢; grind)), hm0, hn42.sub (by intro b hb; first | exact hb | (simp only [mq] at hb ⊢; grind)), hd42.sub (by intro b hb; first | exact hb | (simp only [mq] at hb ⊢; grind)), hb12, hno_ho1_g12, hno_ho2_g12, hge_g12⟩
     ·
      rintro ⟨A12, c12, B12, e12⟩ wj ⟨hL, hvb, ho1, hl, ho2, haw, hbd, hm0, hn12, hd12, hb12, hno_ho1_g12, hno_ho2_g12, hge_g12⟩
      have F12 := valOf_fit hvb hsb (v : Int)
      refine X.seq <| W.seq <| W.cut (ι := Nat × Option Addr × Nat × Option Addr × Nat × Nat) (fun (g55, A57, c57, B57, e57, g13) => [(0, .slice TL cs.length tL), (1, .slice TB bs.length tB), (2, .int .i64 (n : Int)), (8, u1), (9, u2), (11, .int .i64 (v : Int)), (13, .pointer (some ⟨g13, 0, none⟩))]) (fun (g55, A57, c57, B57, e57, g13) w_ => Lay rdC (ownL u1 ++ (ownL u2 ++ M)) w_ (.slice TL cs.length tL) cs ∧ Lay rdQ (ownL u1 ++ (ownL u2 ++ M)) w_ (.slice TB bs.length tB) bs ∧ w_.ownsRow w.heap.size 33 5 u1 (fzC n (cs ++ staysL bs v)).length css.flatten ∧ LayL rdC (ownL u1 ++ (ownL u2 ++ M)) w_ css (fzC n (cs ++ staysL bs v)) ∧ w_.ownsRow w.heap.size 3 1 u2 (fzI n (cs ++ staysL bs v)).length (ints (fzI n (cs ++ staysL bs v))) ∧ Away u1 u2 ∧ Bd (ownL u1 ++ (ownL u2 ++ M)) w_ ∧ Mod [] w w_ ∧ Lay rdT (ownL u1 ++ (ownL u2 ++ M)) w_ (.slice (some ⟨g55, 0, none⟩) 1 1) (stC bs v).ts ∧ U32 (ownL u1 ++ (ownL u2 ++ M)) w_ (.slice A57 (toL (-(valOf bs (v : Int))).num.natAbs).length c57) (toL (-(valOf bs (v : Int))).num.natAbs) ∧ U32 (ownL u1 ++ (ownL u2 ++ M)) w_ (.slice B57 (toL (-(valOf bs (v : Int))).den).length e57) (toL (-(valOf bs (v : Int))).den) ∧ Blk w_ g13 33 #[.int .i64 4, .slice (some ⟨g55, 0, none⟩) 1 1, .bool (decide ((-(valOf bs (v : Int))).num < 0)), .slice A57 (toL (-(valOf bs (v : Int))).num.natAbs).length c57, .slice B57 (toL (-(valOf bs (v : Int))).den).length e57] ∧ u1.ownBlock ≠ some g13 ∧ u2.ownBlock ≠ some g13) ?_ ?_
      ·
       refine W.drawW (T := [8]) rfl (by decide +kernel) (NoHang.join (NoHang.then (NoHang.block (NoHang.then (NoHang.next (NoHang.block (NoHang.then NoHang.post))))))) (fun w13 hm13 => ?_)
       replace hL := hL.gr hm13
       replace hvb := hvb.gr hm13
       replace ho1 := own_gr ho1 hm13 (by simp)
       replace hl := hl.gr hm13
       replace ho2 := own_gr ho2 hm13 (by simp)
       replace hbd := hbd.gr hm13
       replace hm0 := hm0.trans hm13
       replace hn12 := hn12.gr hm13
       replace hd12 := hd12.gr hm13
       replace hb12 := Blk.gr hb12 hm13
       have hS1 : Mod [] w13 w13 := Mod.refl _ _
       clear hm13
       have hb12_s := hb12
       refine D.take 0 rfl (by decide +kernel) (fun w_ hS => (R1.move rfl)) hS1 rfl <| D.take 4 rfl (by decide +kernel) (fun w_ hS => (R1.loadBox rfl (Blk.gr hb12_s hS) tyG31)) hS1 rfl <| D.many (rs := [1, 7]) (by decide +kernel) rfl ?_
       intro i_ hi_
       simp only [List.mem_cons, List.not_mem_nil, or_false] at hi_
       rcases hi_ with rfl | rfl
       ·
        refine ⟨_, rfl, fun hX => ?_⟩
        refine L.call rfl (c_ref2_Int (n := 1) (by decide) (by decide) hbd) rfl ?_
        rintro _ w14 ⟨⟨A53, c53, B53, e53, rfl, hn53, hd53⟩, hm14⟩
        replace hL := hL.gr hm14
        replace hvb := hvb.gr hm14
        replace ho1 := own_gr ho1 hm14 (by simp)
        replace hl := hl.gr hm14
        replace ho2 := own_gr ho2 hm14 (by simp)
        replace hbd := hbd.gr hm14
        replace hm0 := hm0.trans hm14
        replace hn12 := hn12.gr hm14
        replace hd12 := hd12.gr hm14
        replace hS1 := hS1.trans hm14
        clear hm14
        have F53 := Fit.int (n := 1) (by decide) (by decide)
        refine L.nil (hX _ _ ⟨.inr hS1, ?_⟩)
        refine D.take 2 rfl (by decide +kernel) (fun w_ hS => (R1.build (vs := [.int .i64 (v : Int), .agg #[.bool (decide ((((1 : Int)) : Rat).num < 0)), .slice A53 (toL (((1 : Int)) : Rat).num.natAbs).length c53, .slice B53 (toL (((1 : Int)) : Rat).den).length e53]]) rfl (built_T01 _ _ _ _ _ _ _ _))) hS1 rfl <| D.many (rs := [3, 5, 7]) (by decide +kernel) rfl ?_
        intro i_ hi_
        simp only [List.mem_cons, List.not_mem_nil, or_false] at hi_
        rcases hi_ with rfl | rfl | rfl
        ·
         refine ⟨_, rfl, fun hX => ?_⟩
         refine L.buildSlice (cells := [.int .i64 (v : Int), .bool (decide ((((1 : Int)) : Rat).num < 0)), .slice A53 (toL (((1 : Int)) : Rat).num.natAbs).length c53, .slice B53 (toL (((1 : Int)) : Rat).den).length e53]) rfl tyS28 tyZ46 (fillN1 _ _ _ _ _ _ _ _) (by decide) (by decide) rfl ?_
         intro g55 w15 hN55
         replace hS1 := hS1.trans hN55.mod
         replace hL := hL.new hN55
         replace hvb := hvb.new hN55
         have hno_ho1_g55 := own_ne_new ho1 hN55
         replace ho1 := own_gr ho1 hN55.mod (by simp)
         replace hl := hl.new hN55
         have hno_ho2_g55 := own_ne_new ho2 hN55
         replace ho2 := own_gr ho2 hN55.mod (by simp)
         replace hbd := hbd.new hN55
         have hge_g55 := New.ge hN55 hm0.size
         replace hm0 := hm0.trans (hN55.mod.mono (by simp))
         replace hn12 := hn12.new hN55
         replace hd12 := hd12.new hN55
         replace hn53 := hn53.new hN55
         replace hd53 := hd53.new hN55
         have hb55 := hN55.blk
         clear hN55
         refine L.nil (hX _ _ ⟨.inr hS1, ?_⟩)
         refine D.many (rs := [5, 7]) (by decide +kernel) rfl ?_
         intro i_ hi_
         simp only [List.mem_cons, List.not_mem_nil, or_false] at hi_
         rcases hi_ with rfl | rfl
         ·
          refine ⟨_, rfl, fun hX => ?_⟩
          refine L.call rfl (c_ref2_Neg (q := (valOf bs (v : Int))) (rv_toL _) hn12 hd12 hbd (Nat.le_trans F12.1 (by decide)) (Nat.le_trans F12.2 (by decide))) rfl ?_
          rintro _ w16 ⟨⟨A57, c57, B57, e57, rfl, hn57, hd57⟩, hm16⟩
          replace hL := hL.gr hm16
          replace hvb := hvb.gr hm16
          replace ho1 := own_gr ho1 hm16 (by simp)
          replace hl := hl.gr hm16
          replace ho2 := own_gr ho2 hm16 (by simp)
          replace hbd := hbd.gr hm16
          replace hm0 := hm0.trans hm16
          replace hn53 := hn53.gr hm16
          replace hd53 := hd53.gr hm16
          replace hb55 := Blk.gr hb55 hm16
          replace hS1 := hS1.trans hm16
          clear hm16
          have F57 := Fit.neg F12
          refine L.nil (hX _ _ ⟨.inr hS1, ?_⟩)
          refine D.take 6 rfl (by decide +kernel) (fun w_ hS => (R1.build (vs := [.int .i64 4, .slice (some ⟨g55, 0, none⟩) 1 1, .agg #[.bool (decide ((-(valOf bs (v : Int))).num < 0)), .slice A57 (toL (-(valOf bs (v : Int))).num.natAbs).length c57, .slice B57 (toL (-(valOf bs (v : Int))).den).length e57]]) rfl (built_C012 _ _ _ _ _ _ _ _ _ _ _))) hS1 rfl <| D.one 7 rfl (by decide +kernel) (fun hX => ?_)
          refine L.alloc tyZ33 rfl ?_
          intro g13 w17 hN13
          replace hS1 := hS1.trans hN13.mod
          replace hL := hL.new hN13
          replace hvb := hvb.new hN13
          have hno_ho1_g13 := own_ne_new ho1 hN13
          replace ho1 := own_gr ho1 hN13.mod (by simp)
          replace hl := hl.new hN13
          have hno_ho2_g13 := own_ne_new ho2 hN13
          replace ho2 := own_gr ho2 hN13.mod (by simp)
          replace hbd := hbd.new hN13
          have hge_g13 := New.ge hN13 hm0.size
          replace hm0 := hm0.trans (hN13.mod.mono (by simp))
          replace hn53 := hn53.new hN13
          replace hd53 := hd53.new hN13
          have hne_g55_g13 := hb55.ne_ hN13
          replace hb55 := Blk.gr hb55 hN13.mod
          replace hn57 := hn57.new hN13
          replace hd57 := hd57.new hN13
          have hb13 := hN13.blk
          clear hN13
          refine L.nil (hX _ _ ⟨.inr hS1, ?_⟩)
          refine D.one 8 rfl (by decide +kernel) (fun hX => ?_)
          refine L.storeBox rfl rfl hb13 rfl rfl tyG33 ?_
          intro w18 hb13' hm18
          replace hL := hL.mod hm18 (by simp)
          replace hvb := hvb.mod hm18 (by simp)
          replace ho1 := own_far ho1 hm18 hno_ho1_g13
          replace hl := hl.mod hm18 (by simp)
          replace ho2 := own_far ho2 hm18 hno_ho2_g13
          replace hbd := hbd.gr hm18
          replace hm0 := hm0.old1 hm18 hge_g13
          replace hn53 := hn53.mod hm18 (by simp)
          replace hd53 := hd53.mod hm18 (by simp)
          replace hb55 := Blk.far hb55 hm18 (by first | exact hne_g55_g13 | exact (hne_g13_g55).symm)
          replace hn57 := hn57.mod hm18 (by simp)
          replace hd57 := hd57.mod hm18 (by simp)
          clear hm18
          replace hb13 := hb13'; clear hb13'
          refine L.nil (hX _ _ ⟨.inl rfl, ?_⟩)
          refine D.done (by decide +kernel) ?_ _
          refine X.join (g55, A57, c57, B57, e57, g13) ?_ ?_
          · exact ⟨rfl, rfl, rfl, rfl, rfl, rfl, rfl, trivial⟩
          ·
           have hT : Lay rdT (ownL u1 ++ (ownL u2 ++ M)) w18 (.slice (some ⟨g55, 0, none⟩) 1 1) (stC bs v).ts := Lay.of_blk (css := [[.int .i64 (v : Int), .bool (decide ((((1 : Int)) : Rat).num < 0)), .slice A53 (toL (((1 : Int)) : Rat).num.natAbs).length c53, .slice B53 (toL (((1 : Int)) : Rat).den).length e53]]) hb55 (LayL.one _ (⟨(v : Int), QR.nf (((1 : Int)) : Rat)⟩ : TR) (rdT_mk (t := ⟨(v : Int), QR.nf (((1 : Int)) : Rat)⟩) (hn53.sub (by intro b hb; first | exact hb | (simp only [mq] at hb ⊢; grind))) (hd53.sub (by intro b hb; first | exact hb | (simp only [mq] at hb ⊢; grind))))) rfl rfl (by decide) (by simp [not_own hno_ho1_g55, not_own hno_ho2_g55, hbd0.not hge_g55])
           exact ⟨hL.sub (by intro b hb; first | exact hb | (simp only [mq] at hb ⊢; grind)), hvb.sub (by intro b hb; first | exact hb | (simp only [mq] at hb ⊢; grind)), ho1, hl.sub (by intro b hb; first | exact hb | (simp only [mq] at hb ⊢; grind)), ho2, haw, hbd.sub (by intro b hb; first | exact hb | (simp only [mq] at hb ⊢; grind)), hm0, hT.sub (by intro b hb; first | exact hb | (simp only [mq] at hb ⊢; grind)), hn57.sub (by intro b hb; first | exact hb | (simp only [mq] at hb ⊢; grind)), hd57.sub (by intro b hb; first | exact hb | (simp only [mq] at hb ⊢; grind)), hb13, hno_ho1_g13, hno_ho2_g13⟩
         ·
          refine ⟨_, rfl, fun hX => ?_⟩
          refine L.alloc tyZ33 rfl ?_
          intro g13 w19 hN13
          replace hS1 := hS1.trans hN13.mod
          replace hL := hL.new hN13
          replace hvb := hvb.new hN13
          have hno_ho1_g13 := own_ne_new ho1 hN13
          replace ho1 := own_gr ho1 hN13.mod (by simp)
          replace hl := hl.new hN13
          have hno_ho2_g13 := own_ne_new ho2 hN13
          replace ho2 := own_gr ho2 hN13.mod (by simp)
          replace hbd := hbd.new hN13
          have hge_g13 := New.ge hN13 hm0.size
          replace hm0 := hm0.trans (hN13.mod.mono (by simp))
          replace hn12 := hn12.new hN13
          replace hd12 := hd12.new hN13
          replace hn53 := hn53.new hN13
          replace hd53 := hd53.new hN13
          have hne_g55_g13 := hb55.ne_ hN13
          replace hb55 := Blk.gr hb55 hN13.mod
          have hb13 := hN13.blk
          clear hN13
          refine L.nil (hX _ _ ⟨.inr hS1, ?_⟩)
          refine D.one 5 rfl (by decide +kernel) (fun hX => ?_)
          refine L.call rfl (c_ref2_Neg (q := (valOf bs (v : Int))) (rv_toL _) hn12 hd12 hbd (Nat.le_trans F12.1 (by decide)) (Nat.le_trans F12.2 (by decide))) rfl ?_
          rintro _ w20 ⟨⟨A57, c57, B57, e57, rfl, hn57, hd57⟩, hm20⟩
          replace hL := hL.gr hm20
          replace hvb := hvb.gr hm20
          replace ho1 := own_gr ho1 hm20 (by simp)
          replace hl := hl.gr hm20
          replace ho2 := own_gr ho2 hm20 (by simp)
          replace hbd := hbd.gr hm20
          replace hm0 := hm0.trans hm20
          replace hn53 := hn53.gr hm20
          replace hd53 := hd53.gr hm20
          replace hb55 := Blk.gr hb55 hm20
          replace hb13 := Blk.gr hb13 hm20
          replace hS1 := hS1.trans hm20
          clear hm20
          have F57 := Fit.neg F12
          refine L.nil (hX _ _ ⟨.inr hS1, ?_⟩)
          refine D.take 6 rfl (by decide +kernel) (fun w_ hS => (R1.build (vs := [.int .i64 4, .slice (some ⟨g55, 0, none⟩) 1 1, .agg #[.bool (decide ((-(valOf bs (v : Int))).num < 0)), .slice A57 (toL (-(valOf bs (v : Int))).num.natAbs).length c57, .slice B57 (toL (-(valOf bs (v : Int))).den).length e57]]) rfl (built_C012 _ _ _ _ _ _ _ _ _ _ _))) hS1 rfl <| D.one 8 rfl (by decide +kernel) (fun hX => ?_)
          refine L.storeBox rfl rfl hb13 rfl rfl tyG33 ?_
          intro w21 hb13' hm21
          replace hL := hL.mod hm21 (by simp)
          replace hvb := hvb.mod hm21 (by simp)
          replace ho1 := own_far ho1 hm21 hno_ho1_g13
          replace hl := hl.mod hm21 (by simp)
          replace ho2 := own_far ho2 hm21 hno_ho2_g13
          replace hbd := hbd.gr hm21
          replace hm0 := hm0.old1 hm21 hge_g13
          replace hn53 := hn53.mod hm21 (by simp)
          replace hd53 := hd53.mod hm21 (by simp)
          replace hb55 := Blk.far hb55 hm21 (by first | exact hne_g55_g13 | exact (hne_g13_g55).symm)
          replace hn57 := hn57.mod hm21 (by simp)
          replace hd57 := hd57.mod hm21 (by simp)
          clear hm21
          replace hb13 := hb13'; clear hb13'
          refine L.nil (hX _ _ ⟨.inl rfl, ?_⟩)
          refine D.done (by decide +kernel) ?_ _
          refine X.join (g55, A57, c57, B57, e57, g13) ?_ ?_
          · exact ⟨rfl, rfl, rfl, rfl, rfl, rfl, rfl, trivial⟩
          ·
           have hT : Lay rdT (ownL u1 ++ (ownL u2 ++ M)) w21 (.slice (some ⟨g55, 0, none⟩) 1 1) (stC bs v).ts := Lay.of_blk (css := [[.int .i64 (v : Int), .bool (decide ((((1 : Int)) : Rat).num < 0)), .slice A53 (toL (((1 : Int)) : Rat).num.natAbs).length c53, .slice B53 (toL (((1 : Int)) : Rat).den).length e53]]) hb55 (LayL.one _ (⟨(v : Int), QR.nf (((1 : Int)) : Rat)⟩ : TR) (rdT_mk (t := ⟨(v : Int), QR.nf (((1 : Int)) : Rat)⟩) (hn53.sub (by intro b hb; first | exact hb | (simp only [mq] at hb ⊢; grind))) (hd53.sub (by intro b hb; first | exact hb | (simp only [mq] at hb ⊢; grind))))) rfl rfl (by decide) (by simp [not_own hno_ho1_g55, not_own hno_ho2_g55, hbd0.not hge_g55])
           exact ⟨hL.sub (by intro b hb; first | exact hb | (simp only [mq] at hb ⊢; grind)), hvb.sub (by intro b hb; first | exact hb | (simp only [mq] at hb ⊢; grind)), ho1, hl.sub (by intro b hb; first | exact hb | (simp only [mq] at hb ⊢; grind)), ho2, haw, hbd.sub (by intro b hb; first | exact hb | (simp only [mq] at hb ⊢; grind)), hm0, hT.sub (by intro b hb; first | exact hb | (simp only [mq] at hb ⊢; grind)), hn57.sub (by intro b hb; first | exact hb | (simp only [mq] at hb ⊢; grind)), hd57.sub (by intro b hb; first | exact hb | (simp only [mq] at hb ⊢; grind)), hb13, hno_ho1_g13, hno_ho2_g13⟩
        ·
         refine ⟨_, rfl, fun hX => ?_⟩
         refine L.call rfl (c_ref2_Neg (q := (valOf bs (v : Int))) (rv_toL _) hn12 hd12 hbd (Nat.le_trans F12.1 (by decide)) (Nat.le_trans F12.2 (by decide))) rfl ?_
         rintro _ w22 ⟨⟨A57, c57, B57, e57, rfl, hn57, hd57⟩, hm22⟩
         replace hL := hL.gr hm22
         replace hvb := hvb.gr hm22
         replace ho1 := own_gr ho1 hm22 (by simp)
         replace hl := hl.gr hm22
         replace ho2 := own_gr ho2 hm22 (by simp)
         replace hbd := hbd.gr hm22
         replace hm0 := hm0.trans hm22
         replace hn53 := hn53.gr hm22
         replace hd53 := hd53.gr hm22
         replace hS1 := hS1.trans hm22
         clear hm22
         have F57 := Fit.neg F12
         refine L.nil (hX _ _ ⟨.inr hS1, ?_⟩)
         refine D.many (rs := [3, 7]) (by decide +kernel) rfl ?_
         intro i_ hi_
         simp only [List.mem_cons, List.not_mem_nil, or_false] at hi_
         rcases hi_ with rfl | rfl
         ·
          refine ⟨_, rfl, fun hX => ?_⟩
          refine L.buildSlice (cells := [.int .i64 (v : Int), .bool (decide ((((1 : Int)) : Rat).num < 0)), .slice A53 (toL (((1 : Int)) : Rat).num.natAbs).length c53, .slice B53 (toL (((1 : Int)) : Rat).den).length e53]) rfl tyS28 tyZ46 (fillN1 _ _ _ _ _ _ _ _) (by decide) (by decide) rfl ?_
          intro g55 w23 hN55
          replace hS1 := hS1.trans hN55.mod
          replace hL := hL.new hN55
          replace hvb := hvb.new hN55
          have hno_ho1_g55 := own_ne_new ho1 hN55
          replace ho1 := own_gr ho1 hN55.mod (by simp)
          replace hl := hl.new hN55
          have hno_ho2_g55 := own_ne_new ho2 hN55
          replace ho2 := own_gr ho2 hN55.mod (by simp)
          replace hbd := hbd.new hN55
          have hge_g55 := New.ge hN55 hm0.size
          replace hm0 := hm0.trans (hN55.mod.mono (by simp))
          replace hn53 := hn53.new hN55
          replace hd53 := hd53.new hN55
          replace hn57 := hn57.new hN55
          replace hd57 := hd57.new hN55
          have hb55 := hN55.blk
          clear hN55
          refine L.nil (hX _ _ ⟨.inr hS1, ?_⟩)
          refine D.take 6 rfl (by decide +kernel) (fun w_ hS => (R1.build (vs := [.int .i64 4, .slice (some ⟨g55, 0, none⟩) 1 1, .agg #[.bool (decide ((-(valOf bs (v : Int))).num < 0)), .slice A57 (toL (-(valOf bs (v : Int))).num.natAbs).length c57, .slice B57 (toL (-(valOf bs (v : Int))).den).length e57]]) rfl (built_C012 _ _ _ _ _ _ _ _ _ _ _))) hS1 rfl <| D.one 7 rfl (by decide +kernel) (fun hX => ?_)
          refine L.alloc tyZ33 rfl ?_
          intro g13 w24 hN13
          replace hS1 := hS1.trans hN13.mod
          replace hL := hL.new hN13
          replace hvb := hvb.new hN13
          have hno_ho1_g13 := own_ne_new ho1 hN13
          replace ho1 := own_gr ho1 hN13.mod (by simp)
          replace hl := hl.new hN13
          have hno_ho2_g13 := own_ne_new ho2 hN13
          replace ho2 := own_gr ho2 hN13.mod (by simp)
          replace hbd := hbd.new hN13
          have hge_g13 := New.ge hN13 hm0.size
          replace hm0 := hm0.trans (hN13.mod.mono (by simp))
          replace hn53 := hn53.new hN13
          replace hd53 := hd53.new hN13
          replace hn57 := hn57.new hN13
          replace hd57 := hd57.new hN13
          have hne_g55_g13 := hb55.ne_ hN13
          replace hb55 := Blk.gr hb55 hN13.mod
          have hb13 := hN13.blk
          clear hN13
          refine L.nil (hX _ _ ⟨.inr hS1, ?_⟩)
          refine D.one 8 rfl (by decide +kernel) (fun hX => ?_)
          refine L.storeBox rfl rfl hb13 rfl rfl tyG33 ?_
          intro w25 hb13' hm25
          replace hL := hL.mod hm25 (by simp)
          replace hvb := hvb.mod hm25 (by simp)
          replace ho1 := own_far ho1 hm25 hno_ho1_g13
          replace hl := hl.mod hm25 (by simp)
          replace ho2 := own_far ho2 hm25 hno_ho2_g13
          replace hbd := hbd.gr hm25
          replace hm0 := hm0.old1 hm25 hge_g13
          replace hn53 := hn53.mod hm25 (by simp)
          replace hd53 := hd53.mod hm25 (by simp)
          replace hn57 := hn57.mod hm25 (by simp)
          replace hd57 := hd57.mod hm25 (by simp)
          replace hb55 := Blk.far hb55 hm25 (by first | exact hne_g55_g13 | exact (hne_g13_g55).symm)
          clear hm25
          replace hb13 := hb13'; clear hb13'
          refine L.nil (hX _ _ ⟨.inl rfl, ?_⟩)
          refine D.done (by decide +kernel) ?_ _
          refine X.join (g55, A57, c57, B57, e57, g13) ?_ ?_
          · exact ⟨rfl, rfl, rfl, rfl, rfl, rfl, rfl, trivial⟩
          ·
           have hT : Lay rdT (ownL u1 ++ (ownL u2 ++ M)) w25 (.slice (some ⟨g55, 0, none⟩) 1 1) (stC bs v).ts := Lay.of_blk (css := [[.int .i64 (v : Int), .bool (decide ((((1 : Int)) : Rat).num < 0)), .slice A53 (toL (((1 : Int)) : Rat).num.natAbs).length c53, .slice B53 (toL (((1 : Int)) : Rat).den).length e53]]) hb55 (LayL.one _ (⟨(v : Int), QR.nf (((1 : Int)) : Rat)⟩ : TR) (rdT_mk (t := ⟨(v : Int), QR.nf (((1 : Int)) : Rat)⟩) (hn53.sub (by intro b hb; first | exact hb | (simp only [mq] at hb ⊢; grind))) (hd53.sub (by intro b hb; first | exact hb | (simp only [mq] at hb ⊢; grind))))) rfl rfl (by decide) (by simp [not_own hno_ho1_g55, not_own hno_ho2_g55, hbd0.not hge_g55])
           exact ⟨hL.sub (by intro b hb; first | exact hb | (simp only [mq] at hb ⊢; grind)), hvb.sub (by intro b hb; first | exact hb | (simp only [mq] at hb ⊢; grind)), ho1, hl.sub (by intro b hb; first | exact hb | (simp only [mq] at hb ⊢; grind)), ho2, haw, hbd.sub (by intro b hb; first | exact hb | (simp only [mq] at hb ⊢; grind)), hm0, hT.sub (by intro b hb; first | exact hb | (simp only [mq] at hb ⊢; grind)), hn57.sub (by intro b hb; first | exact hb | (simp only [mq] at hb ⊢; grind)), hd57.sub (by intro b hb; first | exact hb | (simp only [mq] at hb ⊢; grind)), hb13, hno_ho1_g13, hno_ho2_g13⟩
         ·
          refine ⟨_, rfl, fun hX => ?_⟩
          refine L.alloc tyZ33 rfl ?_
          intro g13 w26 hN13
          replace hS1 := hS1.trans hN13.mod
          replace hL := hL.new hN13
          replace hvb := hvb.new hN13
          have hno_ho1_g13 := own_ne_new ho1 hN13
          replace ho1 := own_gr ho1 hN13.mod (by simp)
          replace hl := hl.new hN13
          have hno_ho2_g13 := own_ne_new ho2 hN13
          replace ho2 := own_gr ho2 hN13.mod (by simp)
          replace hbd := hbd.new hN13
          have hge_g13 := New.ge hN13 hm0.size
          replace hm0 := hm0.trans (hN13.mod.mono (by simp))
          replace hn53 := hn53.new hN13
          replace hd53 := hd53.new hN13
          replace hn57 := hn57.new hN13
          replace hd57 := hd57.new hN13
          have hb13 := hN13.blk
          clear hN13
          refine L.nil (hX _ _ ⟨.inr hS1, ?_⟩)
          refine D.one 3 rfl (by decide +kernel) (fun hX => ?_)
          refine L.buildSlice (cells := [.int .i64 (v : Int), .bool (decide ((((1 : Int)) : Rat).num < 0)), .slice A53 (toL (((1 : Int)) : Rat).num.natAbs).length c53, .slice B53 (toL (((1 : Int)) : Rat).den).length e53]) rfl tyS28 tyZ46 (fillN1 _ _ _ _ _ _ _ _) (by decide) (by decide) rfl ?_
          intro g55 w27 hN55
          replace hS1 := hS1.trans hN55.mod
          replace hL := hL.new hN55
          replace hvb := hvb.new hN55
          have hno_ho1_g55 := own_ne_new ho1 hN55
          replace ho1 := own_gr ho1 hN55.mod (by simp)
          replace hl := hl.new hN55
          have hno_ho2_g55 := own_ne_new ho2 hN55
          replace ho2 := own_gr ho2 hN55.mod (by simp)
          replace hbd := hbd.new hN55
          have hge_g55 := New.ge hN55 hm0.size
          replace hm0 := hm0.trans (hN55.mod.mono (by simp))
          replace hn53 := hn53.new hN55
          replace hd53 := hd53.new hN55
          replace hn57 := hn57.new hN55
          replace hd57 := hd57.new hN55
          have hne_g13_g55 := hb13.ne_ hN55
          replace hb13 := Blk.gr hb13 hN55.mod
          have hb55 := hN55.blk
          clear hN55
          refine L.nil (hX _ _ ⟨.inr hS1, ?_⟩)
          refine D.take 6 rfl (by decide +kernel) (fun w_ hS => (R1.build (vs := [.int .i64 4, .slice (some ⟨g55, 0, none⟩) 1 1, .agg #[.bool (decide ((-(valOf bs (v : Int))).num < 0)), .slice A57 (toL (-(valOf bs (v : Int))).num.natAbs).length c57, .slice B57 (toL (-(valOf bs (v : Int))).den).length e57]]) rfl (built_C012 _ _ _ _ _ _ _ _ _ _ _))) hS1 rfl <| D.one 8 rfl (by decide +kernel) (fun hX => ?_)
          refine L.storeBox rfl rfl hb13 rfl rfl tyG33 ?_
          intro w28 hb13' hm28
          replace hL := hL.mod hm28 (by simp)
          replace hvb := hvb.mod hm28 (by simp)
          replace ho1 := own_far ho1 hm28 hno_ho1_g13
          replace hl := hl.mod hm28 (by simp)
          replace ho2 := own_far ho2 hm28 hno_ho2_g13
          replace hbd := hbd.gr hm28
          replace hm0 := hm0.old1 hm28 hge_g13
          replace hn53 := hn53.mod hm28 (by simp)
          replace hd53 := hd53.mod hm28 (by simp)
          replace hn57 := hn57.mod hm28 (by simp)
          replace hd57 := hd57.mod hm28 (by simp)
          replace hb55 := Blk.far hb55 hm28 (by first | exact hne_g55_g13 | exact (hne_g13_g55).symm)
          clear hm28
          replace hb13 := hb13'; clear hb13'
          refine L.nil (hX _ _ ⟨.inl rfl, ?_⟩)
          refine D.done (by decide +kernel) ?_ _
          refine X.join (g55, A57, c57, B57, e57, g13) ?_ ?_
          · exact ⟨rfl, rfl, rfl, rfl, rfl, rfl, rfl, trivial⟩
          ·
           have hT : Lay rdT (ownL u1 ++ (ownL u2 ++ M)) w28 (.slice (some ⟨g55, 0, none⟩) 1 1) (stC bs v).ts := Lay.of_blk (css := [[.int .i64 (v : Int), .bool (decide ((((1 : Int)) : Rat).num < 0)), .slice A53 (toL (((1 : Int)) : Rat).num.natAbs).length c53, .slice B53 (toL (((1 : Int)) : Rat).den).length e53]]) hb55 (LayL.one _ (⟨(v : Int), QR.nf (((1 : Int)) : Rat)⟩ : TR) (rdT_mk (t := ⟨(v : Int), QR.nf (((1 : Int)) : Rat)⟩) (hn53.sub (by intro b hb; first | exact hb | (simp only [mq] at hb ⊢; grind))) (hd53.sub (by intro b hb; first | exact hb | (simp only [mq] at hb ⊢; grind))))) rfl rfl (by decide) (by simp [not_own hno_ho1_g55, not_own hno_ho2_g55, hbd0.not hge_g55])
           exact ⟨hL.sub (by intro b hb; first | exact hb | (simp only [mq] at hb ⊢; grind)), hvb.sub (by intro b hb; first | exact hb | (simp only [mq] at hb ⊢; grind)), ho1, hl.sub (by intro b hb; first | exact hb | (simp only [mq] at hb ⊢; grind)), ho2, haw, hbd.sub (by intro b hb; first | exact hb | (simp only [mq] at hb ⊢; grind)), hm0, hT.sub (by intro b hb; first | exact hb | (simp only [mq] at hb ⊢; grind)), hn57.sub (by intro b hb; first | exact hb | (simp only [mq] at hb ⊢; grind)), hd57.sub (by intro b hb; first | exact hb | (simp only [mq] at hb ⊢; grind)), hb13, hno_ho1_g13, hno_ho2_g13⟩
        ·
         refine ⟨_, rfl, fun hX => ?_⟩
         refine L.alloc tyZ33 rfl ?_
         intro g13 w29 hN13
         replace hS1 := hS1.trans hN13.mod
         replace hL := hL.new hN13
         replace hvb := hvb.new hN13
         have hno_ho1_g13 := own_ne_new ho1 hN13
         replace ho1 := own_gr ho1 hN13.mod (by simp)
         replace hl := hl.new hN13
         have hno_ho2_g13 := own_ne_new ho2 hN13
         replace ho2 := own_gr ho2 hN13.mod (by simp)
         replace hbd := hbd.new hN13
         have hge_g13 := New.ge hN13 hm0.size
         replace hm0 := hm0.trans (hN13.mod.mono (by simp))
         replace hn12 := hn12.new hN13
         replace hd12 := hd12.new hN13
         replace hn53 := hn53.new hN13
         replace hd53 := hd53.new hN13
         have hb13 := hN13.blk
         clear hN13
         refine L.nil (hX _ _ ⟨.inr hS1, ?_⟩)
         refine D.many (rs := [3, 5]) (by decide +kernel) rfl ?_
         intro i_ hi_
         simp only [List.mem_cons, List.not_mem_nil, or_false] at hi_
         rcases hi_ with rfl | rfl
         ·
          refine ⟨_, rfl, fun hX => ?_⟩
          refine L.buildSlice (cells := [.int .i64 (v : Int), .bool (decide ((((1 : Int)) : Rat).num < 0)), .slice A53 (toL (((1 : Int)) : Rat).num.natAbs).length c53, .slice B53 (toL (((1 : Int)) : Rat).den).length e53]) rfl tyS28 tyZ46 (fillN1 _ _ _ _ _ _ _ _) (by decide) (by decide) rfl ?_
          intro g55 w30 hN55
          replace hS1 := hS1.trans hN55.mod
          replace hL := hL.new hN55
          replace hvb := hvb.new hN55
          have hno_ho1_g55 := own_ne_new ho1 hN55
          replace ho1 := own_gr ho1 hN55.mod (by simp)
          replace hl := hl.new hN55
          have hno_ho2_g55 := own_ne_new ho2 hN55
          replace ho2 := own_gr ho2 hN55.mod (by simp)
          replace hbd := hbd.new hN55
          have hge_g55 := New.ge hN55 hm0.size
          replace hm0 := hm0.trans (hN55.mod.mono (by simp))
          replace hn12 := hn12.new hN55
          replace hd12 := hd12.new hN55
          replace hn53 := hn53.new hN55
          replace hd53 := hd53.new hN55
          have hne_g13_g55 := hb13.ne_ hN55
          replace hb13 := Blk.gr hb13 hN55.mod
          have hb55 := hN55.blk
          clear hN55
          refine L.nil (hX _ _ ⟨.inr hS1, ?_⟩)
          refine D.one 5 rfl (by decide +kernel) (fun hX => ?_)
          refine L.call rfl (c_ref2_Neg (q := (valOf bs (v : Int))) (rv_toL _) hn12 hd12 hbd (Nat.le_trans F12.1 (by decide)) (Nat.le_trans F12.2 (by decide))) rfl ?_
          rintro _ w31 ⟨⟨A57, c57, B57, e57, rfl, hn57, hd57⟩, hm31⟩
          replace hL := hL.gr hm31
          replace hvb := hvb.gr hm31
          replace ho1 := own_gr ho1 hm31 (by simp)
          replace hl := hl.gr hm31
          replace ho2 := own_gr ho2 hm31 (by simp)
          replace hbd := hbd.gr hm31
          replace hm0 := hm0.trans hm31
          replace hn53 := hn53.gr hm31
          replace hd53 := hd53.gr hm31
          replace hb13 := Blk.gr hb13 hm31
          replace hb55 := Blk.gr hb55 hm31
          replace hS1 := hS1.trans hm31
          clear hm31
          have F57 := Fit.neg F12
          refine L.nil (hX _ _ ⟨.inr hS1, ?_⟩)
          refine D.take 6 rfl (by decide +kernel) (fun w_ hS => (R1.build (vs := [.int .i64 4, .slice (some ⟨g55, 0, none⟩) 1 1, .agg #[.bool (decide ((-(valOf bs (v : Int))).num < 0)), .slice A57 (toL (-(valOf bs (v : Int))).num.natAbs).length c57, .slice B57 (toL (-(valOf bs (v : Int))).den).length e57]]) rfl (built_C012 _ _ _ _ _ _ _ _ _ _ _))) hS1 rfl <| D.one 8 rfl (by decide +kernel) (fun hX => ?_)
          refine L.storeBox rfl rfl hb13 rfl rfl tyG33 ?_
          intro w32 hb13' hm32
          replace hL := hL.mod hm32 (by simp)
          replace hvb := hvb.mod hm32 (by simp)
          replace ho1 := own_far ho1 hm32 hno_ho1_g13
          replace hl := hl.mod hm32 (by simp)
          replace ho2 := own_far ho2 hm32 hno_ho2_g13
          replace hbd := hbd.gr hm32
          replace hm0 := hm0.old1 hm32 hge_g13
          replace hn53 := hn53.mod hm32 (by simp)
          replace hd53 := hd53.mod hm32 (by simp)
          replace hb55 := Blk.far hb55 hm32 (by first | exact hne_g55_g13 | exact (hne_g13_g55).symm)
          replace hn57 := hn57.mod hm32 (by simp)
          replace hd57 := hd57.mod hm32 (by simp)
          clear hm32
          replace hb13 := hb13'; clear hb13'
          refine L.nil (hX _ _ ⟨.inl rfl, ?_⟩)
          refine D.done (by decide +kernel) ?_ _
          refine X.join (g55, A57, c57, B57, e57, g13) ?_ ?_
          · exact ⟨rfl, rfl, rfl, rfl, rfl, rfl, rfl, trivial⟩
          ·
           have hT : Lay rdT (ownL u1 ++ (ownL u2 ++ M)) w32 (.slice (some ⟨g55, 0, none⟩) 1 1) (stC bs v).ts := Lay.of_blk (css := [[.int .i64 (v : Int), .bool (decide ((((1 : Int)) : Rat).num < 0)), .slice A53 (toL (((1 : Int)) : Rat).num.natAbs).length c53, .slice B53 (toL (((1 : Int)) : Rat).den).length e53]]) hb55 (LayL.one _ (⟨(v : Int), QR.nf (((1 : Int)) : Rat)⟩ : TR) (rdT_mk (t := ⟨(v : Int), QR.nf (((1 : Int)) : Rat)⟩) (hn53.sub (by intro b hb; first | exact hb | (simp only [mq] at hb ⊢; grind))) (hd53.sub (by intro b hb; first | exact hb | (simp only [mq] at hb ⊢; grind))))) rfl rfl (by decide) (by simp [not_own hno_ho1_g55, not_own hno_ho2_g55, hbd0.not hge_g55])
           exact ⟨hL.sub (by intro b hb; first | exact hb | (simp only [mq] at hb ⊢; grind)), hvb.sub (by intro b hb; first | exact hb | (simp only [mq] at hb ⊢; grind)), ho1, hl.sub (by intro b hb; first | exact hb | (simp only [mq] at hb ⊢; grind)), ho2, haw, hbd.sub (by intro b hb; first | exact hb | (simp only [mq] at hb ⊢; grind)), hm0, hT.sub (by intro b hb; first | exact hb | (simp only [mq] at hb ⊢; grind)), hn57.sub (by intro b hb; first | exact hb | (simp only [mq] at hb ⊢; grind)), hd57.sub (by intro b hb; first | exact hb | (simp only [mq] at hb ⊢; grind)), hb13, hno_ho1_g13, hno_ho2_g13⟩
         ·
          refine ⟨_, rfl, fun hX => ?_⟩
          refine L.call rfl (c_ref2_Neg (q := (valOf bs (v : Int))) (rv_toL _) hn12 hd12 hbd (Nat.le_trans F12.1 (by decide)) (Nat.le_trans F12.2 (by decide))) rfl ?_
          rintro _ w33 ⟨⟨A57, c57, B57, e57, rfl, hn57, hd57⟩, hm33⟩
          replace hL := hL.gr hm33
          replace hvb := hvb.gr hm33
          replace ho1 := own_gr ho1 hm33 (by simp)
          replace hl := hl.gr hm33
          replace ho2 := own_gr ho2 hm33 (by simp)
          replace hbd := hbd.gr hm33
          replace hm0 := hm0.trans hm33
          replace hn53 := hn53.gr hm33
          replace hd53 := hd53.gr hm33
          replace hb13 := Blk.gr hb13 hm33
          replace hS1 := hS1.trans hm33
          clear hm33
          have F57 := Fit.neg F12
          refine L.nil (hX _ _ ⟨.inr hS1, ?_⟩)
          refine D.one 3 rfl (by decide +kernel) (fun hX => ?_)
          refine L.buildSlice (cells := [.int .i64 (v : Int), .bool (decide ((((1 : Int)) : Rat).num < 0)), .slice A53 (toL (((1 : Int)) : Rat).num.natAbs).length c53, .slice B53 (toL (((1 : Int)) : Rat).den).length e53]) rfl tyS28 tyZ46 (fillN1 _ _ _ _ _ _ _ _) (by decide) (by decide) rfl ?_
          intro g55 w34 hN55
          replace hS1 := hS1.trans hN55.mod
          replace hL := hL.new hN55
          replace hvb := hvb.new hN55
          have hno_ho1_g55 := own_ne_new ho1 hN55
          replace ho1 := own_gr ho1 hN55.mod (by simp)
          replace hl := hl.new hN55
          have hno_ho2_g55 := own_ne_new ho2 hN55
          replace ho2 := own_gr ho2 hN55.mod (by simp)
          replace hbd := hbd.new hN55
          have hge_g55 := New.ge hN55 hm0.size
          replace hm0 := hm0.trans (hN55.mod.mono (by simp))
          replace hn53 := hn53.new hN55
          replace hd53 := hd53.new hN55
          have hne_g13_g55 := hb13.ne_ hN55
          replace hb13 := Blk.gr hb13 hN55.mod
          replace hn57 := hn57.new hN55
          replace hd57 := hd57.new hN55
          have hb55 := hN55.blk
          clear hN55
          refine L.nil (hX _ _ ⟨.inr hS1, ?_⟩)
          refine D.take 6 rfl (by decide +kernel) (fun w_ hS => (R1.build (vs := [.int .i64 4, .slice (some ⟨g55, 0, none⟩) 1 1, .agg #[.bool (decide ((-(valOf bs (v : Int))).num < 0)), .slice A57 (toL (-(valOf bs (v : Int))).num.natAbs).length c57, .slice B57 (toL (-(valOf bs (v : Int))).den).length e57]]) rfl (built_C012 _ _ _ _ _ _ _ _ _ _ _))) hS1 rfl <| D.one 8 rfl (by decide +kernel) (fun hX => ?_)
          refine L.storeBox rfl rfl hb13 rfl rfl tyG33 ?_
          intro w35 hb13' hm35
          replace hL := hL.mod hm35 (by simp)
          replace hvb := hvb.mod hm35 (by simp)
          replace ho1 := own_far ho1 hm35 hno_ho1_g13
          replace hl := hl.mod hm35 (by simp)
          replace ho2 := own_far ho2 hm35 hno_ho2_g13
          replace hbd := hbd.gr hm35
          replace hm0 := hm0.old1 hm35 hge_g13
          replace hn53 := hn53.mod hm35 (by simp)
          replace hd53 := hd53.mod hm35 (by simp)
          replace hn57 := hn57.mod hm35 (by simp)
          replace hd57 := hd57.mod hm35 (by simp)
          replace hb55 := Blk.far hb55 hm35 (by first | exact hne_g55_g13 | exact (hne_g13_g55).symm)
          clear hm35
          replace hb13 := hb13'; clear hb13'
          refine L.nil (hX _ _ ⟨.inl rfl, ?_⟩)
          refine D.done (by decide +kernel) ?_ _
          refine X.join (g55, A57, c57, B57, e57, g13) ?_ ?_
          · exact ⟨rfl, rfl, rfl, rfl, rfl, rfl, rfl, trivial⟩
          ·
           have hT : Lay rdT (ownL u1 ++ (ownL u2 ++ M)) w35 (.slice (some ⟨g55, 0, none⟩) 1 1) (stC bs v).ts := Lay.of_blk (css := [[.int .i64 (v : Int), .bool (decide ((((1 : Int)) : Rat).num < 0)), .slice A53 (toL (((1 : Int)) : Rat).num.natAbs).length c53, .slice B53 (toL (((1 : Int)) : Rat).den).length e53]]) hb55 (LayL.one _ (⟨(v : Int), QR.nf (((1 : Int)) : Rat)⟩ : TR) (rdT_mk (t := ⟨(v : Int), QR.nf (((1 : Int)) : Rat)⟩) (hn53.sub (by intro b hb; first | exact hb | (simp only [mq] at hb ⊢; grind))) (hd53.sub (by intro b hb; first | exact hb | (simp only [mq] at hb ⊢; grind))))) rfl rfl (by decide) (by simp [not_own hno_ho1_g55, not_own hno_ho2_g55, hbd0.not hge_g55])
           exact ⟨hL.sub (by intro b hb; first | exact hb | (simp only [mq] at hb ⊢; grind)), hvb.sub (by intro b hb; first | exact hb | (simp only [mq] at hb ⊢; grind)), ho1, hl.sub (by intro b hb; first | exact hb | (simp only [mq] at hb ⊢; grind)), ho2, haw, hbd.sub (by intro b hb; first | exact hb | (simp only [mq] at hb ⊢; grind)), hm0, hT.sub (by intro b hb; first | exact hb | (simp only [mq] at hb ⊢; grind)), hn57.sub (by intro b hb; first | exact hb | (simp only [mq] at hb ⊢; grind)), hd57.sub (by intro b hb; first | exact hb | (simp only [mq] at hb ⊢; grind)), hb13, hno_ho1_g13, hno_ho2_g13⟩
       ·
        refine ⟨_, rfl, fun hX => ?_⟩
        refine L.alloc tyZ33 rfl ?_
        intro g13 w36 hN13
        replace hS1 := hS1.trans hN13.mod
        replace hL := hL.new hN13
        replace hvb := hvb.new hN13
        have hno_ho1_g13 := own_ne_new ho1 hN13
        replace ho1 := own_gr ho1 hN13.mod (by simp)
        replace hl := hl.new hN13
        have hno_ho2_g13 := own_ne_new ho2 hN13
        replace ho2 := own_gr ho2 hN13.mod (by simp)
        replace hbd := hbd.new hN13
        have hge_g13 := New.ge hN13 hm0.size
        replace hm0 := hm0.trans (hN13.mod.mono (by simp))
        replace hn12 := hn12.new hN13
        replace hd12 := hd12.new hN13
        have hb13 := hN13.blk
        clear hN13
        refine L.nil (hX _ _ ⟨.inr hS1, ?_⟩)
        refine D.one 1 rfl (by decide +kernel) (fun hX => ?_)
        refine L.call rfl (c_ref2_Int (n := 1) (by decide) (by decide) hbd) rfl ?_
        rintro _ w37 ⟨⟨A53, c53, B53, e53, rfl, hn53, hd53⟩, hm37⟩
        replace hL := hL.gr hm37
        replace hvb := hvb.gr hm37
        replace ho1 := own_gr ho1 hm37 (by simp)
        replace hl := hl.gr hm37
        replace ho2 := own_gr ho2 hm37 (by simp)
        replace hbd := hbd.gr hm37
        replace hm0 := hm0.trans hm37
        replace hn12 := hn12.gr hm37
        replace hd12 := hd12.gr hm37
        replace hb13 := Blk.gr hb13 hm37
        replace hS1 := hS1.trans hm37
        clear hm37
        have F53 := Fit.int (n := 1) (by decide) (by decide)
        refine L.nil (hX _ _ ⟨.inr hS1, ?_⟩)
        refine D.take 2 rfl (by decide +kernel) (fun w_ hS => (R1.build (vs := [.int .i64 (v : Int), .agg #[.bool (decide ((((1 : Int)) : Rat).num < 0)), .slice A53 (toL (((1 : Int)) : Rat).num.natAbs).length c53, .slice B53 (toL (((1 : Int)) : Rat).den).length e53]]) rfl (built_T01 _ _ _ _ _ _ _ _))) hS1 rfl <| D.many (rs := [3, 5]) (by decide +kernel) rfl ?_
        intro i_ hi_
        simp only [List.mem_cons, List.not_mem_nil, or_false] at hi_
        rcases hi_ with rfl | rfl
        ·
         refine ⟨_, rfl, fun hX => ?_⟩
         refine L.buildSlice (cells := [.int .i64 (v : Int), .bool (decide ((((1 : Int)) : Rat).num < 0)), .slice A53 (toL (((1 : Int)) : Rat).num.natAbs).length c53, .slice B53 (toL (((1 : Int)) : Rat).den).length e53]) rfl tyS28 tyZ46 (fillN1 _ _ _ _ _ _ _ _) (by decide) (by decide) rfl ?_
         intro g55 w38 hN55
         replace hS1 := hS1.trans hN55.mod
         replace hL := hL.new hN55
         replace hvb := hvb.new hN55
         have hno_ho1_g55 := own_ne_new ho1 hN55
         replace ho1 := own_gr ho1 hN55.mod (by simp)
         replace hl := hl.new hN55
         have hno_ho2_g55 := own_ne_new ho2 hN55
         replace ho2 := own_gr ho2 hN55.mod (by simp)
         replace hbd := hbd.new hN55
         have hge_g55 := New.ge hN55 hm0.size
         replace hm0 := hm0.trans (hN55.mod.mono (by simp))
         replace hn12 := hn12.new hN55
         replace hd12 := hd12.new hN55
         have hne_g13_g55 := hb13.ne_ hN55
         replace hb13 := Blk.gr hb13 hN55.mod
         replace hn53 := hn53.new hN55
         replace hd53 := hd53.new hN55
         have hb55 := hN55.blk
         clear hN55
         refine L.nil (hX _ _ ⟨.inr hS1, ?_⟩)
         refine D.one 5 rfl (by decide +kernel) (fun hX => ?_)
         refine L.call rfl (c_ref2_Neg (q := (valOf bs (v : Int))) (rv_toL _) hn12 hd12 hbd (Nat.le_trans F12.1 (by decide)) (Nat.le_trans F12.2 (by decide))) rfl ?_
         rintro _ w39 ⟨⟨A57, c57, B57, e57, rfl, hn57, hd57⟩, hm39⟩
         replace hL := hL.gr hm39
         replace hvb := hvb.gr hm39
         replace ho1 := own_gr ho1 hm39 (by simp)
         replace hl := hl.gr hm39
         replace ho2 := own_gr ho2 hm39 (by simp)
         replace hbd := hbd.gr hm39
         replace hm0 := hm0.trans hm39
         replace hb13 := Blk.gr hb13 hm39
         replace hn53 := hn53.gr hm39
         replace hd53 := hd53.gr hm39
         replace hb55 := Blk.gr hb55 hm39
         replace hS1 := hS1.trans hm39
         clear hm39
         have F57 := Fit.neg F12
         refine L.nil (hX _ _ ⟨.inr hS1, ?_⟩)
         refine D.take 6 rfl (by decide +kernel) (fun w_ hS => (R1.build (vs := [.int .i64 4, .slice (some ⟨g55, 0, none⟩) 1 1, .agg #[.bool (decide ((-(valOf bs (v : Int))).num < 0)), .slice A57 (toL (-(valOf bs (v : Int))).num.natAbs).length c57, .slice B57 (toL (-(valOf bs (v : Int))).den).length e57]]) rfl (built_C012 _ _ _ _ _ _ _ _ _ _ _))) hS1 rfl <| D.one 8 rfl (by decide +kernel) (fun hX => ?_)
         refine L.storeBox rfl rfl hb13 rfl rfl tyG33 ?_
         intro w40 hb13' hm40
         replace hL := hL.mod hm40 (by simp)
         replace hvb := hvb.mod hm40 (by simp)
         replace ho1 := own_far ho1 hm40 hno_ho1_g13
         replace hl := hl.mod hm40 (by simp)
         replace ho2 := own_far ho2 hm40 hno_ho2_g13
         replace hbd := hbd.gr hm40
         replace hm0 := hm0.old1 hm40 hge_g13
         replace hn53 := hn53.mod hm40 (by simp)
         replace hd53 := hd53.mod hm40 (by simp)
         replace hb55 := Blk.far hb55 hm40 (by first | exact hne_g55_g13 | exact (hne_g13_g55).symm)
         replace hn57 := hn57.mod hm40 (by simp)
         replace hd57 := hd57.mod hm40 (by simp)
         clear hm40
         replace hb13 := hb13'; clear hb13'
         refine L.nil (hX _ _ ⟨.inl rfl, ?_⟩)
         refine D.done (by decide +kernel) ?_ _
         refine X.join (g55, A57, c57, B57, e57, g13) ?_ ?_
         · exact ⟨rfl, rfl, rfl, rfl, rfl, rfl, rfl, trivial⟩
         ·
          have hT : Lay rdT (ownL u1 ++ (ownL u2 ++ M)) w40 (.slice (some ⟨g55, 0, none⟩) 1 1) (stC bs v).ts := Lay.of_blk (css := [[.int .i64 (v : Int), .bool (decide ((((1 : Int)) : Rat).num < 0)), .slice A53 (toL (((1 : Int)) : Rat).num.natAbs).length c53, .slice B53 (toL (((1 : Int)) : Rat).den).length e53]]) hb55 (LayL.one _ (⟨(v : Int), QR.nf (((1 : Int)) : Rat)⟩ : TR) (rdT_mk (t := ⟨(v : Int), QR.nf (((1 : Int)) : Rat)⟩) (hn53.sub (by intro b hb; first | exact hb | (simp only [mq] at hb ⊢; grind))) (hd53.sub (by intro b hb; first | exact hb | (simp only [mq] at hb ⊢; grind))))) rfl rfl (by decide) (by simp [not_own hno_ho1_g55, not_own hno_ho2_g55, hbd0.not hge_g55])
          exact ⟨hL.sub (by intro b hb; first | exact hb | (simp only [mq] at hb ⊢; grind)), hvb.sub (by intro b hb; first | exact hb | (simp only [mq] at hb ⊢; grind)), ho1, hl.sub (by intro b hb; first | exact hb | (simp only [mq] at hb ⊢; grind)), ho2, haw, hbd.sub (by intro b hb; first | exact hb | (simp only [mq] at hb ⊢; grind)), hm0, hT.sub (by intro b hb; first | exact hb | (simp only [mq] at hb ⊢; grind)), hn57.sub (by intro b hb; first | exact hb | (simp only [mq] at hb ⊢; grind)), hd57.sub (by intro b hb; first | exact hb | (simp only [mq] at hb ⊢; grind)), hb13, hno_ho1_g13, hno_ho2_g13⟩
        ·
         refine ⟨_, rfl, fun hX => ?_⟩
         refine L.call rfl (c_ref2_Neg (q := (valOf bs (v : Int))) (rv_toL _) hn12 hd12 hbd (Nat.le_trans F12.1 (by decide)) (Nat.le_trans F12.2 (by decide))) rfl ?_
         rintro _ w41 ⟨⟨A57, c57, B57, e57, rfl, hn57, hd57⟩, hm41⟩
         replace hL := hL.gr hm41
         replace hvb := hvb.gr hm41
         replace ho1 := own_gr ho1 hm41 (by simp)
         replace hl := hl.gr hm41
         replace ho2 := own_gr ho2 hm41 (by simp)
         replace hbd := hbd.gr hm41
         replace hm0 := hm0.trans hm41
         replace hb13 := Blk.gr hb13 hm41
         replace hn53 := hn53.gr hm41
         replace hd53 := hd53.gr hm41
         replace hS1 := hS1.trans hm41
         clear hm41
         have F57 := Fit.neg F12
         refine L.nil (hX _ _ ⟨.inr hS1, ?_⟩)
         refine D.one 3 rfl (by decide +kernel) (fun hX => ?_)
         refine L.buildSlice (cells := [.int .i64 (v : Int), .bool (decide ((((1 : Int)) : Rat).num < 0)), .slice A53 (toL (((1 : Int)) : Rat).num.natAbs).length c53, .slice B53 (toL (((1 : Int)) : Rat).den).length e53]) rfl tyS28 tyZ46 (fillN1 _ _ _ _ _ _ _ _) (by decide) (by decide) rfl ?_
         intro g55 w42 hN55
         replace hS1 := hS1.trans hN55.mod
         replace hL := hL.new hN55
         replace hvb := hvb.new hN55
         have hno_ho1_g55 := own_ne_new ho1 hN55
         replace ho1 := own_gr ho1 hN55.mod (by simp)
         replace hl := hl.new hN55
         have hno_ho2_g55 := own_ne_new ho2 hN55
         replace ho2 := own_gr ho2 hN55.mod (by simp)
         replace hbd := hbd.new hN55
         have hge_g55 := New.ge hN55 hm0.size
         replace hm0 := hm0.trans (hN55.mod.mono (by simp))
         have hne_g13_g55 := hb13.ne_ hN55
         replace hb13 := Blk.gr hb13 hN55.mod
         replace hn53 := hn53.new hN55
         replace hd53 := hd53.new hN55
         replace hn57 := hn57.new hN55
         replace hd57 := hd57.new hN55
         have hb55 := hN55.blk
         clear hN55
         refine L.nil (hX _ _ ⟨.inr hS1, ?_⟩)
         refine D.take 6 rfl (by decide +kernel) (fun w_ hS => (R1.build (vs := [.int .i64 4, .slice (some ⟨g55, 0, none⟩) 1 1, .agg #[.bool (decide ((-(valOf bs (v : Int))).num < 0)), .slice A57 (toL (-(valOf bs (v : Int))).num.natAbs).length c57, .slice B57 (toL (-(valOf bs (v : Int))).den).length e57]]) rfl (built_C012 _ _ _ _ _ _ _ _ _ _ _))) hS1 rfl <| D.one 8 rfl (by decide +kernel) (fun hX => ?_)
         refine L.storeBox rfl rfl hb13 rfl rfl tyG33 ?_
         intro w43 hb13' hm43
         replace hL := hL.mod hm43 (by simp)
         replace hvb := hvb.mod hm43 (by simp)
         replace ho1 := own_far ho1 hm43 hno_ho1_g13
         replace hl := hl.mod hm43 (by simp)
         replace ho2 := own_far ho2 hm43 hno_ho2_g13
         replace hbd := hbd.gr hm43
         replace hm0 := hm0.old1 hm43 hge_g13
         replace hn53 := hn53.mod hm43 (by simp)
         replace hd53 := hd53.mod hm43 (by simp)
         replace hn57 := hn57.mod hm43 (by simp)
         replace hd57 := hd57.mod hm43 (by simp)
         replace hb55 := Blk.far hb55 hm43 (by first | exact hne_g55_g13 | exact (hne_g13_g55).symm)
         clear hm43
         replace hb13 := hb13'; clear hb13'
         refine L.nil (hX _ _ ⟨.inl rfl, ?_⟩)
         refine D.done (by decide +kernel) ?_ _
         refine X.join (g55, A57, c57, B57, e57, g13) ?_ ?_
         · exact ⟨rfl, rfl, rfl, rfl, rfl, rfl, rfl, trivial⟩
         ·
          have hT : Lay rdT (ownL u1 ++ (ownL u2 ++ M)) w43 (.slice (some ⟨g55, 0, none⟩) 1 1) (stC bs v).ts := Lay.of_blk (css := [[.int .i64 (v : Int), .bool (decide ((((1 : Int)) : Rat).num < 0)), .slice A53 (toL (((1 : Int)) : Rat).num.natAbs).length c53, .slice B53 (toL (((1 : Int)) : Rat).den).length e53]]) hb55 (LayL.one _ (⟨(v : Int), QR.nf (((1 : Int)) : Rat)⟩ : TR) (rdT_mk (t := ⟨(v : Int), QR.nf (((1 : Int)) : Rat)⟩) (hn53.sub (by intro b hb; first | exact hb | (simp only [mq] at hb ⊢; grind))) (hd53.sub (by intro b hb; first | exact hb | (simp only [mq] at hb ⊢; grind))))) rfl rfl (by decide) (by simp [not_own hno_ho1_g55, not_own hno_ho2_g55, hbd0.not hge_g55])
          exact ⟨hL.sub (by intro b hb; first | exact hb | (simp only [mq] at hb ⊢; grind)), hvb.sub (by intro b hb; first | exact hb | (simp only [mq] at hb ⊢; grind)), ho1, hl.sub (by intro b hb; first | exact hb | (simp only [mq] at hb ⊢; grind)), ho2, haw, hbd.sub (by intro b hb; first | exact hb | (simp only [mq] at hb ⊢; grind)), hm0, hT.sub (by intro b hb; first | exact hb | (simp only [mq] at hb ⊢; grind)), hn57.sub (by intro b hb; first | exact hb | (simp only [mq] at hb ⊢; grind)), hd57.sub (by intro b hb; first | exact hb | (simp only [mq] at hb ⊢; grind)), hb13, hno_ho1_g13, hno_ho2_g13⟩
      ·
       rintro ⟨g55, A57, c57, B57, e57, g13⟩ wk ⟨hL, hvb, ho1, hl, ho2, haw, hbd, hm0, hT, hn57, hd57, hb13, hno_ho1_g13, hno_ho2_g13⟩
       refine X.seq <| W.region <| L.v (R1.move rfl) rfl <| L.v (R1.loadBox rfl hb13 tyG33) rfl <| L.buildSlice (cells := [.int .i64 4, .slice (some ⟨g55, 0, none⟩) 1 1, .bool (decide ((-(valOf bs (v : Int))).num < 0)), .slice A57 (toL (-(valOf bs (v : Int))).num.natAbs).length c57, .slice B57 (toL (-(valOf bs (v : Int))).den).length e57]) rfl tyS22 tyZ33 (fillK1 _ _ _ _ _ _ _ _ _ _ _) (by decide) (by decide) rfl ?_
       intro g61 w44 hN61
       replace hL := hL.gr hN61.mod
       replace hvb := hvb.gr hN61.mod
       replace ho1 := own_gr ho1 hN61.mod (by simp)
       replace hl := hl.gr hN61.mod
       replace ho2 := own_gr ho2 hN61.mod (by simp)
       replace hbd := hbd.gr hN61.mod
       replace hm0 := hm0.trans hN61.mod
       replace hT := hT.gr hN61.mod
       replace hn57 := hn57.gr hN61.mod
       replace hd57 := hd57.gr hN61.mod
       replace hb13 := Blk.gr hb13 hN61.mod
       have hrow : Sl [] w44 5 (.slice (some ⟨g61, 0, none⟩) 1 1) 1 [.int .i64 4, .slice (some ⟨g55, 0, none⟩) 1 1, .bool (decide ((-(valOf bs (v : Int))).num < 0)), .slice A57 (toL (-(valOf bs (v : Int))).num.natAbs).length c57, .slice B57 (toL (-(valOf bs (v : Int))).den).length e57] := Sl.of_blk hN61.blk 0 (Nat.le_refl _) (by decide) rfl (by simp) (fun j hj => by simp)
       clear hN61
       have hfl := fz_len n (cs ++ staysL bs v)
       rw [List.length_append, stays_len] at hfl
       have hfc : (fzC n (cs ++ staysL bs v)).length = (fz n (cs ++ staysL bs v)).length := by unfold fzC; simp
       have hfi : (fzI n (cs ++ staysL bs v)).length = (fz n (cs ++ staysL bs v)).length := by unfold fzI; simp
       refine L.append rfl rfl ho1 hrow (by intro c hc; simp only [List.mem_cons, List.not_mem_nil, or_false] at hc; rcases hc with rfl | rfl | rfl | rfl | rfl <;> rfl) tyS22 tyZ33 (by omega) (by unfold maxLen; omega) hm0.size rfl ?_
       intro v62 w45 ho62' hG62
       have haw_ := (Away.grew haw.symm hG62 ho2).symm
       replace hL := hL.grew2 hG62 (by first | exact mem_own | (intro b hb; simp [hb]))
       replace hvb := hvb.grew2 hG62 (by first | exact mem_own | (intro b hb; simp [hb]))
       replace hl := hl.grew2 hG62 (by first | exact mem_own | (intro b hb; simp [hb]))
       replace ho2 := own_away (s' := 1) (el' := 0) (k' := 0) (B' := 0) (ys := []) ho2 hG62.mod (by first | assumption | exact Away.symm (by assumption))
       replace hbd := hbd.grew2 hG62 (by first | exact mem_own | (intro b hb; simp [hb]))
       replace hm0 := Mod.oldOwn hm0 hG62.mod ho1
       replace hT := hT.grew2 hG62 (by first | exact mem_own | (intro b hb; simp [hb]))
       replace hn57 := hn57.grew2 hG62 (by first | exact mem_own | (intro b hb; simp [hb]))
       replace hd57 := hd57.grew2 hG62 (by first | exact mem_own | (intro b hb; simp [hb]))
       have hnn_g13 := hG62.ne hno_ho1_g13 hb13
       replace hb13 := Blk.grew hb13 hG62 hno_ho1_g13
       replace hno_ho1_g13 := hnn_g13
       replace haw := haw_; clear haw_
       replace ho1 := ho62'; clear ho62'
       clear hG62
       refine L.v (R1.move rfl) rfl <| L.v (R1.move rfl) rfl <| L.v (R1.lenLay rfl hL tyS22) rfl <| L.v (R1.move rfl) rfl <| L.v (R1.addI rfl rfl (by omega)) rfl <| L.build1 rfl rfl tyS42 tyZ3 rfl ?_
       intro g68 w46 hN68
       replace hL := hL.gr hN68.mod
       replace hvb := hvb.gr hN68.mod
       replace ho1 := own_gr ho1 hN68.mod (by simp)
       replace hl := hl.gr hN68.mod
       replace ho2 := own_gr ho2 hN68.mod (by simp)
       replace hbd := hbd.gr hN68.mod
       replace hm0 := hm0.trans hN68.mod
       replace hT := hT.gr hN68.mod
       replace hn57 := hn57.gr hN68.mod
       replace hd57 := hd57.gr hN68.mod
       replace hb13 := Blk.gr hb13 hN68.mod
       have hrow : Sl [] w46 1 (.slice (some ⟨g68, 0, none⟩) 1 1) 1 [.int .i64 (((cs.length + v : Nat) : Int))] := Sl.row1 hN68.blk (by simp)
       clear hN68
       refine L.append rfl rfl ho2 hrow (by simp [Value.oneCell']) tyS42 tyZ3 (by omega) (by unfold maxLen; omega) hm0.size rfl ?_
       intro v69 w47 ho69' hG69
       have haw_ := Away.grew haw hG69 ho1
       replace hL := hL.grew2 hG69 (by first | exact mem_own | (intro b hb; simp [hb]))
       replace hvb := hvb.grew2 hG69 (by first | exact mem_own | (intro b hb; simp [hb]))
       replace ho1 := own_away (s' := 1) (el' := 0) (k' := 0) (B' := 0) (ys := []) ho1 hG69.mod (by first | assumption | exact Away.symm (by assumption))
       replace hl := hl.grew2 hG69 (by first | exact mem_own | (intro b hb; simp [hb]))
       replace hbd := hbd.grew2 hG69 (by first | exact mem_own | (intro b hb; simp [hb]))
       replace hm0 := Mod.oldOwn hm0 hG69.mod ho2
       replace hT := hT.grew2 hG69 (by first | exact mem_own | (intro b hb; simp [hb]))
       replace hn57 := hn57.grew2 hG69 (by first | exact mem_own | (intro b hb; simp [hb]))
       replace hd57 := hd57.grew2 hG69 (by first | exact mem_own | (intro b hb; simp [hb]))
       replace haw := haw_; clear haw_
       replace ho2 := ho69'; clear ho69'
       clear hG69
       refine L.v (R1.assign rfl) rfl <| L.v (R1.assign rfl) rfl <| L.nil <| X.blockEnd <| X.seq <| W.region <| L.v (R1.move rfl) rfl <| L.v (R1.addI (b := 1) rfl rfl (by omega)) rfl <| L.v (R1.assign rfl) rfl <| L.nil <| X.next (v + 1, v62, css ++ [[.int .i64 4, .slice (some ⟨g55, 0, none⟩) 1 1, .bool (decide ((-(valOf bs (v : Int))).num < 0)), .slice A57 (toL (-(valOf bs (v : Int))).num.natAbs).length c57, .slice B57 (toL (-(valOf bs (v : Int))).den).length e57]], v69) ?_ ?_ ?_
       · exact ⟨rfl, rfl, rfl, rfl, rfl, rfl, trivial⟩
       ·
        obtain ⟨e3, e4⟩ := fz_yes (n := n) (l := (cs ++ staysL bs v)) (stay_isC bs (by omega : v < n))
        rw [List.append_assoc, ← stays_succ] at e3 e4
        rw [List.length_append, stays_len] at e4
        exact ⟨hL.sub (by intro b hb; first | exact hb | (simp only [mq] at hb ⊢; grind)), hvb.sub (by intro b hb; first | exact hb | (simp only [mq] at hb ⊢; grind)), own_congr ho1 (by rw [e3]; simp) (by simp), by rw [e3]; exact (hl.sub (by intro b hb; first | exact hb | (simp only [mq] at hb ⊢; grind))).append (LayL.one _ (stC bs v) (rdC_mk (c := stC bs v) (vt := .slice (some ⟨g55, 0, none⟩) 1 1) (hT.sub (by intro b hb; first | exact hb | (simp only [mq] at hb ⊢; grind))) (hn57.sub (by intro b hb; first | exact hb | (simp only [mq] at hb ⊢; grind))) (hd57.sub (by intro b hb; first | exact hb | (simp only [mq] at hb ⊢; grind))))), own_congr ho2 (by rw [e4]; simp) (by rw [e4, ints_append]; rfl), haw, hbd.sub (by intro b hb; first | exact hb | (simp only [mq] at hb ⊢; grind)), hm0, by omega⟩
       · first | omega | (dsimp only; omega)
    ·
     intro hc39
     try simp only [bq, ne_eq] at hc39
     have hvn : v = n := by omega
     rw [hvn] at ho1 hl ho2
     refine W.exit <| X.thenExit <| X.nextExit <| X.here <| X.seq <| W.seq <| W.region <| L.v (R1.move rfl) rfl <| L.v (R1.move rfl) rfl <| L.v (R1.assign rfl) rfl <| L.v (R1.assign rfl) rfl ?_
     refine L.nil <| X.seq <| W.ret <| X.result2 rfl (.tmp rfl (.tmp rfl .nil)) ?_
     exact ⟨_, _, rfl, own_lay hbd0 ho1 hl (by intro b hb; first | exact hb | (simp only [mq] at hb ⊢; grind)), Lay.of_ints ho2 (fun g hg => hbd0.not (own_ge ho2 g hg).1), hm0⟩

set_option maxHeartbeats 2000000 in
theorem c_Beaten12 {M : List Nat} {w : World} {vl vb vv : Value} {cs : List CR} {bs val : List QR} {t : Nat} (hL : Lay rdC M w vl cs) (hvb : Lay rdQ M w vb bs) (hv : Lay rdQ M w vv val) (hbd : Bd M w) (hsm : ∀ c ∈ cs, SmC 150 c) (hsb : ∀ q ∈ bs, SmQ 3 q) (hsv : ∀ q ∈ val, SmQ 10 q) (hcl : cs.length ≤ 1000) (hn64 : val.length ≤ 64) (oks : OkS (val.length : Int) t (cs ++ staysL bs val.length)) :
    Ret Try.prog 11 #[vl, vb, vv] w (fun r w' => ∃ z, r = .int .i64 z ∧ BeatR val.length val (cs ++ staysL bs val.length) z ∧ Mod [] w w') := by
 have hbd0 := hbd
 obtain ⟨TL, tL, rfl⟩ := hL.form
 obtain ⟨TB, tB, rfl⟩ := hvb.form
 obtain ⟨TV, tV, rfl⟩ := hv.form
 have hsa0 := all_sm (n := val.length) hvb hsb hsm
 have hN : heldG (val.length : Int) = val.length := heldG_eq hn64
 refine Ret.of (vs := [.slice TL cs.length tL, .slice TB bs.length tB, .slice TV val.length tV]) (n := 80) Try.func11 rfl rfl rfl rfl ?_
 have hm0 : Mod [] w w := Mod.refl _ _
 refine W.seq <| W.region <| L.v (R1.assign rfl) rfl <| L.nil <| X.seq <| W.seq <| W.region <| L.v (R1.move rfl) rfl <| L.v (R1.lenLay rfl hv tyS23) rfl <| L.v (R1.assign rfl) rfl <| L.nil ?_
 refine X.seq <| W.seq <| W.seq <| W.region <| L.v (R1.move rfl) rfl <| L.v (R1.gt rfl rfl) rfl <| L.nil <| X.seq <| W.cond rfl ?_ ?_
 ·
  intro hc16
  try simp only [bq, ne_eq] at hc16
  omega
 ·
  intro hc16
  try simp only [bq, ne_eq] at hc16
  refine W.skip <| X.seq <| W.seq <| W.region <| L.v (R1.move rfl) rfl <| L.v (R1.move rfl) rfl <| L.v (R1.move rfl) rfl <| L.call rfl (c_all12 (n := val.length) hL hvb hbd hsm hsb hcl hn64) rfl ?_
  rintro _ w1 ⟨r1, r2, rfl, hA, hI, hm1⟩
  replace hv := hv.gr hm1
  replace hbd := hbd.gr hm1
  replace hm0 := hm0.trans hm1
  clear hm1
  obtain ⟨ao, hao⟩ : ∃ ao, ao = cs ++ staysL bs val.length := ⟨_, rfl⟩
  rw [← hao] at hA hI hsa0 oks ⊢
  have hall : ao.length ≤ 2000 := by rw [hao, List.length_append, stays_len]; omega
  have hfl := fz_len val.length ao
  have hfq := fz_lens val.length ao
  obtain ⟨al, hal⟩ : ∃ al, al = fzC val.length ao := ⟨_, rfl⟩
  obtain ⟨il, hil⟩ : ∃ il, il = (fzI val.length ao).map fun (x : Nat) => (x : Int) := ⟨_, rfl⟩
  rw [← hal] at hA
  rw [← hil] at hI
  have hsub := fzC_sub val.length ao
  rw [← hal] at hsub
  have hsa : ∀ c ∈ al, SmC 150 c := fun c h => hsa0 c (hsub c h).1
  have hala : al.length = (fz val.length ao).length := by rw [hal]; exact hfq.1
  have hill : il.length = al.length := by rw [hil, List.length_map, hala]; exact hfq.2
  obtain ⟨TA, tA, rfl⟩ := hA.form
  obtain ⟨TI, tI, rfl⟩ := hI.form
  refine L.v (R1.move rfl) rfl <| L.v (R1.extract rfl rfl) rfl <| L.v (R1.extract rfl rfl) rfl <| L.v (R1.assign rfl) rfl <| L.v (R1.assign rfl) rfl <| L.nil <| X.seq <| W.seq <| W.seq <| W.region <| L.v (R1.assign rfl) rfl ?_
  refine L.nil <| X.seq <| W.block <| W.loop (ι := Nat) (fun i => [(2, .slice TV val.length tV), (7, .int .i64 (val.length : Int)), (8, .slice TA al.length tA), (9, .slice TI il.length tI), (10, .int .i64 (i : Int))]) (fun i w_ => Lay rdC M w_ (.slice TA al.length tA) al ∧ Lay rdI M w_ (.slice TI il.length tI) il ∧ Lay rdQ M w_ (.slice TV val.length tV) val ∧ Bd M w_ ∧ Mod [] w w_ ∧ i ≤ al.length ∧ (∀ j q, j < i → (fz val.length ao)[j]? = some q → ¬ Bt val.length val ao q.1)) (fun i => al.length - i) 0 ?_ ?_ ?_
  · exact ⟨rfl, rfl, rfl, rfl, rfl, trivial⟩
  ·
   exact ⟨hA.sub (by intro b hb; first | exact hb | (simp only [mq] at hb ⊢; grind)), hI.sub (by intro b hb; first | exact hb | (simp only [mq] at hb ⊢; grind)), hv.sub (by intro b hb; first | exact hb | (simp only [mq] at hb ⊢; grind)), hbd.sub (by intro b hb; first | exact hb | (simp only [mq] at hb ⊢; grind)), hm0, Nat.zero_le _, (fun j d h => by omega)⟩
  ·
   rintro i w2 ⟨hA, hI, hv, hbd, hm0, hi, hno⟩
   refine W.seq <| W.seq <| W.region <| L.v (R1.move rfl) rfl <| L.v (R1.move rfl) rfl <| L.v (R1.lenLay rfl hA tyS22) rfl <| L.v (R1.lt rfl rfl) rfl <| L.nil <| X.seq <| W.cond rfl ?_ ?_
   ·
    intro hc27
    try simp only [bq, ne_eq] at hc27
    refine W.skip <| X.seq <| W.seq <| W.block <| W.seq <| W.seq <| W.region <| L.v (R1.move rfl) rfl <| L.v (R1.move rfl) rfl <| L.v (R1.atLay (j := i) rfl rfl hA tyS22 rfl (by omega)) rfl ?_
    obtain ⟨z33, cs33, hz33, hE33, vt33, ds33, rfl, ht33, vn33, vd33, rfl, hn33, hd33⟩ := Lay.elemQ hA (j := i) (by omega)
    obtain ⟨T33, t33, rfl⟩ := ht33.form
    obtain ⟨A33, c33, rfl⟩ := hn33.form
    obtain ⟨B33, e33, rfl⟩ := hd33.form
    refine L.v (R1.loadE rfl hE33 tyG33) rfl <| L.v (R1.move rfl) rfl <| L.call rfl (c_Holds10 ht33 hn33 hd33 hv hbd ((hsa _ (List.mem_of_getElem? hz33)).mono (by decide)) (sm_mono10 hsv)) rfl ?_
    rintro _ w3 ⟨rfl, hm3⟩
    replace hA := hA.gr hm3
    replace hI := hI.gr hm3
    replace hv := hv.gr hm3
    replace hbd := hbd.gr hm3
    replace hm0 := hm0.trans hm3
    clear hm3
    refine L.nil <| X.seq <| W.cond rfl ?_ ?_
    ·
     intro hc35
     have hcc_ := hc35
     have hok : hB val z33 = true := hc35
     refine W.exit <| X.thenExit <| X.here <| X.seq <| W.region <| L.v (R1.move rfl) rfl <| L.v (R1.addI (b := 1) rfl rfl (by omega)) rfl <| L.v (R1.assign rfl) rfl <| L.nil <| X.next (i + 1) ?_ ?_ ?_
     · exact ⟨rfl, rfl, rfl, rfl, rfl, trivial⟩
     ·
      obtain ⟨p9, hp1, hp2, hp3⟩ := fzC_at (n := val.length) (l := ao) (by rw [← hal]; exact hz33)
      have hic := (hsub _ (List.mem_of_getElem? hz33)).2
      exact ⟨hA.sub (by intro b hb; first | exact hb | (simp only [mq] at hb ⊢; grind)), hI.sub (by intro b hb; first | exact hb | (simp only [mq] at hb ⊢; grind)), hv.sub (by intro b hb; first | exact hb | (simp only [mq] at hb ⊢; grind)), hbd.sub (by intro b hb; first | exact hb | (simp only [mq] at hb ⊢; grind)), hm0, by omega, (no_step (P := fun q : CR × Nat => Bt val.length val ao q.1) hno hp1 (fun h9 => by rw [hp2] at h9; have h8 := ((Bt_F hic).1 h9).1; rw [hok] at h8; cases h8))⟩
     · first | omega | (dsimp only; omega)
    ·
     intro hc35
     have hcc_ := hc35
     have hok : hB val z33 = false := hc35
     obtain ⟨p9, hp1, hp2, hp3⟩ := fzC_at (n := val.length) (l := ao) (by rw [← hal]; exact hz33)
     have hic := (hsub _ (List.mem_of_getElem? hz33)).2
     refine W.skip <| X.seq <| W.seq <| W.region <| L.v (R1.move rfl) rfl <| L.v (R1.move rfl) rfl <| L.v (R1.atLay (j := i) rfl rfl hA tyS22 rfl (by omega)) rfl ?_
     obtain ⟨z39, cs39, hz39, hE39, vt39, ds39, rfl, ht39, vn39, vd39, rfl, hn39, hd39⟩ := Lay.elemQ hA (j := i) (by omega)
     obtain ⟨T39, t39, rfl⟩ := ht39.form
     obtain ⟨A39, c39, rfl⟩ := hn39.form
     obtain ⟨B39, e39, rfl⟩ := hd39.form
     obtain rfl : z33 = z39 := by have h9 := hz39; rw [hz33] at h9; injection h9
     refine L.v (R1.loadE rfl hE39 tyG33) rfl <| L.buildSlice (cells := [.int .i64 z33.st, .slice T39 z33.ts.length t39, .bool z33.k.s, .slice A39 z33.k.n.length c39, .slice B39 z33.k.d.length e39]) rfl tyS22 tyZ33 (fillK1 _ _ _ _ _ _ _ _ _ _ _) (by decide) (by decide) rfl ?_
     intro g40 w4 hN40
     have ho : World.ownsRow w4 w.heap.size 33 5 (.slice (some ⟨g40, 0, none⟩) 1 1) 1 [.int .i64 z33.st, .slice T39 z33.ts.length t39, .bool z33.k.s, .slice A39 z33.k.n.length c39, .slice B39 z33.k.d.length e39] := own_lit hN40.blk (New.ge hN40 hm0.size) rfl
     replace hA := hA.new hN40
     replace hI := hI.new hN40
     replace hv := hv.new hN40
     replace hbd := hbd.new hN40
     replace hm0 := hm0.trans (hN40.mod.mono (by simp))
     replace ht39 := ht39.new hN40
     replace hn39 := hn39.new hN40
     replace hd39 := hd39.new hN40
     clear hN40
     obtain ⟨v40, hv_v40⟩ : ∃ v, v = Value.slice (some ⟨g40, 0, none⟩) 1 1 := ⟨_, rfl⟩
     have hol_v40 : ownL v40 = [g40] := by rw [hv_v40]; rfl
     rw [← hv_v40] at ho ⊢
     replace hA := hA.sub (of_cons hol_v40)
     replace hI := hI.sub (of_cons hol_v40)
     replace hv := hv.sub (of_cons hol_v40)
     replace hbd := hbd.sub (of_cons hol_v40)
     replace ht39 := ht39.sub (of_cons hol_v40)
     replace hn39 := hn39.sub (of_cons hol_v40)
     replace hd39 := hd39.sub (of_cons hol_v40)
     clear hv_v40 hol_v40
     refine L.v (R1.assign rfl) rfl <| L.nil <| X.seq <| W.seq <| W.seq <| W.region <| L.v (R1.assign rfl) rfl <| L.nil <| X.seq <| W.block <| W.loop (ι := Nat × Value × List (List Value)) (fun (k, u, css) => [(2, .slice TV val.length tV), (7, .int .i64 (val.length : Int)), (8, .slice TA al.length tA), (9, .slice TI il.length tI), (10, .int .i64 (i : Int)), (11, u), (12, .int .i64 (k : Int))]) (fun (k, u, css) w_ => Lay rdC (ownL u ++ M) w_ (.slice TA al.length tA) al ∧ Lay rdI (ownL u ++ M) w_ (.slice TI il.length tI) il ∧ Lay rdQ (ownL u ++ M) w_ (.slice TV val.length tV) val ∧ Bd (ownL u ++ M) w_ ∧ Mod [] w w_ ∧ w_.ownsRow w.heap.size 33 5 u (bsdF val.length val z33 (al.take k)).length css.flatten ∧ LayL rdC (ownL u ++ M) w_ css (bsdF val.length val z33 (al.take k)) ∧ k ≤ al.length) (fun (k, u, css) => al.length - k) (0, v40, [[.int .i64 z33.st, .slice T39 z33.ts.length t39, .bool z33.k.s, .slice A39 z33.k.n.length c39, .slice B39 z33.k.d.length e39]]) ?_ ?_ ?_
     · exact ⟨rfl, rfl, rfl, rfl, rfl, rfl, rfl, trivial⟩
     ·
      exact ⟨hA.sub (by intro b hb; first | exact hb | (simp only [mq] at hb ⊢; grind)), hI.sub (by intro b hb; first | exact hb | (simp only [mq] at hb ⊢; grind)), hv.sub (by intro b hb; first | exact hb | (simp only [mq] at hb ⊢; grind)), hbd.sub (by intro b hb; first | exact hb | (simp only [mq] at hb ⊢; grind)), hm0, own_congr ho rfl (by simp), LayL.one _ z33 (rdC_mk (ht39.sub (by intro b hb; first | exact hb | (simp only [mq] at hb ⊢; grind))) (hn39.sub (by intro b hb; first | exact hb | (simp only [mq] at hb ⊢; grind))) (hd39.sub (by intro b hb; first | exact hb | (simp only [mq] at hb ⊢; grind)))), Nat.zero_le _⟩
     ·
      rintro ⟨k, u, css⟩ w5 ⟨hA, hI, hv, hbd, hm0, ho, hl, hk⟩
      refine W.seq <| W.seq <| W.region <| L.v (R1.move rfl) rfl <| L.v (R1.move rfl) rfl <| L.v (R1.lenLay rfl hA tyS22) rfl <| L.v (R1.lt rfl rfl) rfl <| L.nil <| X.seq <| W.cond rfl ?_ ?_
      ·
       intro hc44
       try simp only [bq, ne_eq] at hc44
       refine W.skip <| X.seq <| W.seq <| W.block <| W.seq <| W.drawW (T := []) rfl (by decide +kernel) (NoHang.then (NoHang.block (NoHang.then (NoHang.next (NoHang.block (NoHang.then (NoHang.block (NoHang.then (NoHang.next (NoHang.block (NoHang.then NoHang.post))))))))))) (fun w6 hm6 => ?_)
       replace hA := hA.gr hm6
       replace hI := hI.gr hm6
       replace hv := hv.gr hm6
       replace hbd := hbd.gr hm6
       replace hm0 := hm0.trans hm6
       replace ho := own_gr ho hm6 (by simp)
       replace hl := hl.gr hm6
       have hS1 : Mod [] w6 w6 := Mod.refl _ _
       clear hm6
       refine D.take 0 rfl (by decide +kernel) (fun w_ hS => (R1.move rfl)) hS1 rfl <| D.take 1 rfl (by decide +kernel) (fun w_ hS => (R1.move rfl)) hS1 rfl <| D.take 2 rfl (by decide +kernel) (fun w_ hS => (R1.atLay (j := k) rfl rfl (Lay.gr hA hS) tyS22 rfl (by omega))) hS1 rfl <| D.take 3 rfl (by decide +kernel) (fun w_ hS => (R1.fieldAddr rfl tyF33_0)) hS1 rfl ?_
       obtain ⟨z51, cs51, hz51, hE51, vt51, ds51, rfl, ht51, vn51, vd51, rfl, hn51, hd51⟩ := Lay.elemQ hA (j := k) (by omega)
       obtain ⟨T51, t51, rfl⟩ := ht51.form
       obtain ⟨A51, c51, rfl⟩ := hn51.form
       obtain ⟨B51, e51, rfl⟩ := hd51.form
       refine D.take 4 rfl (by decide +kernel) (fun w_ hS => (R1.loadEF rfl (SlE.gr hE51 hS) rfl tyP3)) hS1 rfl <| D.take 5 rfl (by decide +kernel) (fun w_ hS => (R1.move rfl)) hS1 rfl <| D.take 6 rfl (by decide +kernel) (fun w_ hS => (R1.move rfl)) hS1 rfl <| D.take 7 rfl (by decide +kernel) (fun w_ hS => (R1.atLay (j := i) rfl rfl (Lay.gr hA hS) tyS22 rfl (by omega))) hS1 rfl <| D.take 8 rfl (by decide +kernel) (fun w_ hS => (R1.fieldAddr rfl tyF33_0)) hS1 rfl ?_
       obtain ⟨z56, cs56, hz56, hE56, vt56, ds56, rfl, ht56, vn56, vd56, rfl, hn56, hd56⟩ := Lay.elemQ hA (j := i) (by omega)
       obtain ⟨T56, t56, rfl⟩ := ht56.form
       obtain ⟨A56, c56, rfl⟩ := hn56.form
       obtain ⟨B56, e56, rfl⟩ := hd56.form
       obtain rfl : z33 = z56 := by have h9 := hz56; rw [hz33] at h9; injection h9
       refine D.take 9 rfl (by decide +kernel) (fun w_ hS => (R1.loadEF rfl (SlE.gr hE56 hS) rfl tyP3)) hS1 rfl <| D.take 10 rfl (by decide +kernel) (fun w_ hS => ((R1.le rfl rfl).asB (c := decide (z51.st ≤ z33.st)) (rfl))) hS1 rfl <| D.take 11 rfl (by decide +kernel) (fun w_ hS => (R1.move rfl)) hS1 rfl ?_
       cases hgd58 : decide (z51.st ≤ z33.st)
       ·
        have hcc_ := hgd58
        refine D.off 12 rfl rfl rfl rfl rfl (by decide +kernel) hS1 rfl <| D.off 13 rfl rfl rfl rfl rfl (by decide +kernel) hS1 rfl <| D.off 14 rfl rfl rfl rfl rfl (by decide +kernel) hS1 rfl <| D.off 15 rfl rfl rfl rfl rfl (by decide +kernel) hS1 rfl <| D.off 16 rfl rfl rfl rfl rfl (by decide +kernel) hS1 rfl <| D.off 17 rfl rfl rfl rfl rfl (by decide +kernel) hS1 rfl <| D.take 18 rfl (by decide +kernel) (fun w_ hS => (R1.pickF rfl rfl)) hS1 rfl <| D.done (by decide +kernel) ?_ _
        refine X.seq <| W.condF rfl <| W.skip <| X.blockEnd <| X.seq <| W.region <| L.v (R1.move rfl) rfl <| L.v (R1.addI (b := 1) rfl rfl (by omega)) rfl <| L.v (R1.assign rfl) rfl <| L.nil <| X.next (k + 1, u, css) ?_ ?_ ?_
        · exact ⟨rfl, rfl, rfl, rfl, rfl, rfl, rfl, trivial⟩
        ·
         have hcn : (decide (z51.st ≤ z33.st) && hB val z51) = false := by unfold hB; rw [hgd58]; rfl
         exact ⟨hA.sub (by intro b hb; first | exact hb | (simp only [mq] at hb ⊢; grind)), hI.sub (by intro b hb; first | exact hb | (simp only [mq] at hb ⊢; grind)), hv.sub (by intro b hb; first | exact hb | (simp only [mq] at hb ⊢; grind)), hbd.sub (by intro b hb; first | exact hb | (simp only [mq] at hb ⊢; grind)), hm0, own_congr ho (by rw [bsdF_no hz51 hcn]) rfl, by rw [bsdF_no hz51 hcn]; exact hl.sub (by intro b hb; first | exact hb | (simp only [mq] at hb ⊢; grind)), by omega⟩
        · first | omega | (dsimp only; omega)
       ·
        have hcc_ := hgd58
        refine D.takeOn 12 rfl rfl rfl rfl (by decide +kernel) (fun w_ hS => (R1.move rfl)) hS1 rfl <| D.takeOn 13 rfl rfl rfl rfl (by decide +kernel) (fun w_ hS => (R1.move rfl)) hS1 rfl <| D.takeOn 14 rfl rfl rfl rfl (by decide +kernel) (fun w_ hS => (R1.atLay (j := k) rfl rfl (Lay.gr hA hS) tyS22 rfl (by omega))) hS1 rfl ?_
        obtain ⟨z62, cs62, hz62, hE62, vt62, ds62, rfl, ht62, vn62, vd62, rfl, hn62, hd62⟩ := Lay.elemQ hA (j := k) (by omega)
        obtain ⟨T62, t62, rfl⟩ := ht62.form
        obtain ⟨A62, c62, rfl⟩ := hn62.form
        obtain ⟨B62, e62, rfl⟩ := hd62.form
        obtain rfl : z51 = z62 := by have h9 := hz62; rw [hz51] at h9; injection h9
        refine D.takeOn 15 rfl rfl rfl rfl (by decide +kernel) (fun w_ hS => (R1.loadE rfl (SlE.gr hE62 hS) tyG33)) hS1 rfl <| D.takeOn 16 rfl rfl rfl rfl (by decide +kernel) (fun w_ hS => (R1.move rfl)) hS1 rfl <| D.one 17 rfl (by decide +kernel) (fun hX => ?_)
        refine L.callOn rfl rfl rfl rfl (c_Holds10 ht62 hn62 hd62 hv hbd ((hsa _ (List.mem_of_getElem? hz51)).mono (by decide)) (sm_mono10 hsv)) rfl ?_
        rintro _ w7 ⟨rfl, hm7⟩
        replace hA := hA.gr hm7
        replace hI := hI.gr hm7
        replace hv := hv.gr hm7
        replace hbd := hbd.gr hm7
        replace hm0 := hm0.trans hm7
        replace ho := own_gr ho hm7 (by simp)
        replace hl := hl.gr hm7
        replace ht51 := ht51.gr hm7
        replace hn51 := hn51.gr hm7
        replace hd51 := hd51.gr hm7
        replace ht56 := ht56.gr hm7
        replace hn56 := hn56.gr hm7
        replace hd56 := hd56.gr hm7
        replace ht62 := ht62.gr hm7
        replace hn62 := hn62.gr hm7
        replace hd62 := hd62.gr hm7
        replace hS1 := hS1.trans hm7
        clear hm7
        refine L.nil (hX _ _ ⟨.inr hS1, ?_⟩)
        refine D.take 18 rfl (by decide +kernel) (fun w_ hS => (R1.pickT rfl rfl)) hS1 rfl <| D.done (by decide +kernel) ?_ _
        refine X.seq <| W.cond rfl ?_ ?_
        ·
         intro hc65
         have hcc_ := hc65
         refine W.region <| L.v (R1.move rfl) rfl <| L.v (R1.move rfl) rfl <| L.v (R1.move rfl) rfl <| L.v (R1.atLay (j := k) rfl rfl hA tyS22 rfl (by omega)) rfl ?_
         obtain ⟨z70, cs70, hz70, hE70, vt70, ds70, rfl, ht70, vn70, vd70, rfl, hn70, hd70⟩ := Lay.elemQ hA (j := k) (by omega)
         obtain ⟨T70, t70, rfl⟩ := ht70.form
         obtain ⟨A70, c70, rfl⟩ := hn70.form
         obtain ⟨B70, e70, rfl⟩ := hd70.form
         obtain rfl : z51 = z70 := by have h9 := hz70; rw [hz51] at h9; injection h9
         refine L.v (R1.loadE rfl hE70 tyG33) rfl <| L.buildSlice (cells := [.int .i64 z51.st, .slice T70 z51.ts.length t70, .bool z51.k.s, .slice A70 z51.k.n.length c70, .slice B70 z51.k.d.length e70]) rfl tyS22 tyZ33 (fillK1 _ _ _ _ _ _ _ _ _ _ _) (by decide) (by decide) rfl ?_
         intro g71 w8 hN71
         replace hA := hA.gr hN71.mod
         replace hI := hI.gr hN71.mod
         replace hv := hv.gr hN71.mod
         replace hbd := hbd.gr hN71.mod
         replace hm0 := hm0.trans hN71.mod
         replace ho := own_gr ho hN71.mod (by simp)
         replace hl := hl.gr hN71.mod
         replace ht51 := ht51.gr hN71.mod
         replace hn51 := hn51.gr hN71.mod
         replace hd51 := hd51.gr hN71.mod
         replace ht56 := ht56.gr hN71.mod
         replace hn56 := hn56.gr hN71.mod
         replace hd56 := hd56.gr hN71.mod
         replace ht62 := ht62.gr hN71.mod
         replace hn62 := hn62.gr hN71.mod
         replace hd62 := hd62.gr hN71.mod
         replace ht70 := ht70.gr hN71.mod
         replace hn70 := hn70.gr hN71.mod
         replace hd70 := hd70.gr hN71.mod
         have hrow : Sl [] w8 5 (.slice (some ⟨g71, 0, none⟩) 1 1) 1 [.int .i64 z51.st, .slice T70 z51.ts.length t70, .bool z51.k.s, .slice A70 z51.k.n.length c70, .slice B70 z51.k.d.length e70] := Sl.of_blk hN71.blk 0 (Nat.le_refl _) (by decide) rfl (by simp) (fun j hj => by simp)
         clear hN71
         have hbl := bsdF_len val.length val z33 (al.take k)
         rw [List.length_take] at hbl
         refine L.append rfl rfl ho hrow (by intro c hc; simp only [List.mem_cons, List.not_mem_nil, or_false] at hc; rcases hc with rfl | rfl | rfl | rfl | rfl <;> rfl) tyS22 tyZ33 (by omega) (by unfold maxLen; omega) hm0.size rfl ?_
         intro v72 w9 ho72' hG72
         replace hA := hA.grew2 hG72 (by first | exact mem_own | (intro b hb; simp [hb]))
         replace hI := hI.grew2 hG72 (by first | exact mem_own | (intro b hb; simp [hb]))
         replace hv := hv.grew2 hG72 (by first | exact mem_own | (intro b hb; simp [hb]))
         replace hbd := hbd.grew2 hG72 (by first | exact mem_own | (intro b hb; simp [hb]))
         replace hm0 := Mod.oldOwn hm0 hG72.mod ho
         replace hl := hl.grew2 hG72 (by first | exact mem_own | (intro b hb; simp [hb]))
         replace ht51 := ht51.grew2 hG72 (by first | exact mem_own | (intro b hb; simp [hb]))
         replace hn51 := hn51.grew2 hG72 (by first | exact mem_own | (intro b hb; simp [hb]))
         replace hd51 := hd51.grew2 hG72 (by first | exact mem_own | (intro b hb; simp [hb]))
         replace ht56 := ht56.grew2 hG72 (by first | exact mem_own | (intro b hb; simp [hb]))
         replace hn56 := hn56.grew2 hG72 (by first | exact mem_own | (intro b hb; simp [hb]))
         replace hd56 := hd56.grew2 hG72 (by first | exact mem_own | (intro b hb; simp [hb]))
         replace ht62 := ht62.grew2 hG72 (by first | exact mem_own | (intro b hb; simp [hb]))
         replace hn62 := hn62.grew2 hG72 (by first | exact mem_own | (intro b hb; simp [hb]))
         replace hd62 := hd62.grew2 hG72 (by first | exact mem_own | (intro b hb; simp [hb]))
         replace ht70 := ht70.grew2 hG72 (by first | exact mem_own | (intro b hb; simp [hb]))
         replace hn70 := hn70.grew2 hG72 (by first | exact mem_own | (intro b hb; simp [hb]))
         replace hd70 := hd70.grew2 hG72 (by first | exact mem_own | (intro b hb; simp [hb]))
         replace ho := ho72'; clear ho72'
         clear hG72
         refine L.v (R1.assign rfl) rfl <| L.nil <| X.blockEnd <| X.seq <| W.region <| L.v (R1.move rfl) rfl <| L.v (R1.addI (b := 1) rfl rfl (by omega)) rfl <| L.v (R1.assign rfl) rfl <| L.nil <| X.next (k + 1, v72, css ++ [[.int .i64 z51.st, .slice T70 z51.ts.length t70, .bool z51.k.s, .slice A70 z51.k.n.length c70, .slice B70 z51.k.d.length e70]]) ?_ ?_ ?_
         · exact ⟨rfl, rfl, rfl, rfl, rfl, rfl, rfl, trivial⟩
         ·
          have hcn : (decide (z51.st ≤ z33.st) && hB val z51) = true := by unfold hB; rw [hgd58, hc65]; rfl
          exact ⟨hA.sub (by intro b hb; first | exact hb | (simp only [mq] at hb ⊢; grind)), hI.sub (by intro b hb; first | exact hb | (simp only [mq] at hb ⊢; grind)), hv.sub (by intro b hb; first | exact hb | (simp only [mq] at hb ⊢; grind)), hbd.sub (by intro b hb; first | exact hb | (simp only [mq] at hb ⊢; grind)), hm0, own_congr ho (by rw [bsdF_yes hz51 hcn]; simp) (by simp), by rw [bsdF_yes hz51 hcn]; exact (hl.sub (by intro b hb; first | exact hb | (simp only [mq] at hb ⊢; grind))).append (LayL.one _ z51 (rdC_mk (ht70.sub (by intro b hb; first | exact hb | (simp only [mq] at hb ⊢; grind))) (hn70.sub (by intro b hb; first | exact hb | (simp only [mq] at hb ⊢; grind))) (hd70.sub (by intro b hb; first | exact hb | (simp only [mq] at hb ⊢; grind))))), by omega⟩
         · first | omega | (dsimp only; omega)
        ·
         intro hc65
         have hcc_ := hc65
         refine W.skip <| X.blockEnd <| X.seq <| W.region <| L.v (R1.move rfl) rfl <| L.v (R1.addI (b := 1) rfl rfl (by omega)) rfl <| L.v (R1.assign rfl) rfl <| L.nil <| X.next (k + 1, u, css) ?_ ?_ ?_
         · exact ⟨rfl, rfl, rfl, rfl, rfl, rfl, rfl, trivial⟩
         ·
          have hcn : (decide (z51.st ≤ z33.st) && hB val z51) = false := by unfold hB; rw [hgd58, hc65]; rfl
          exact ⟨hA.sub (by intro b hb; first | exact hb | (simp only [mq] at hb ⊢; grind)), hI.sub (by intro b hb; first | exact hb | (simp only [mq] at hb ⊢; grind)), hv.sub (by intro b hb; first | exact hb | (simp only [mq] at hb ⊢; grind)), hbd.sub (by intro b hb; first | exact hb | (simp only [mq] at hb ⊢; grind)), hm0, own_congr ho (by rw [bsdF_no hz51 hcn]) rfl, by rw [bsdF_no hz51 hcn]; exact hl.sub (by intro b hb; first | exact hb | (simp only [mq] at hb ⊢; grind)), by omega⟩
         · first | omega | (dsimp only; omega)
      ·
       intro hc44
       try simp only [bq, ne_eq] at hc44
       obtain rfl : k = al.length := by omega
       rw [List.take_length] at ho hl
       refine W.exit <| X.thenExit <| X.nextExit <| X.here <| X.seq <| W.seq <| W.region <| L.v (R1.move rfl) rfl <| L.v (R1.move rfl) rfl ?_
       have hBs : Lay rdC [] _ u (bsdF val.length val z33 al) := Lay.of_own ho (hl.sub (fun b hb => by cases hb)) (by simp)
       refine L.call rfl (c_Consistent10 (M := []) hBs (fun b hb => by cases hb) (oks.sub (bsdF_mem (hsub _ (List.mem_of_getElem? hz33)).1 (fun o ho9 => (hsub o ho9).1)))) rfl ?_
       rintro _ w10 ⟨rs75, ok75, hP75, rfl, hm10⟩
       replace hA := hA.gr hm10
       replace hI := hI.gr hm10
       replace hv := hv.gr hm10
       replace hbd := hbd.gr hm10
       replace hm0 := hm0.trans hm10
       clear hm10
       refine L.nil <| X.seq <| W.cond rfl ?_ ?_
       ·
        intro hc75
        have hcc_ := hc75
        rw [hN] at hP75
        have hbt : Bt val.length val ao z33 := (Bt_F hic).2 ⟨hok, by rw [← hal]; exact (A_ok hP75).1 hc75⟩
        refine W.seq <| W.region <| L.v (R1.move rfl) rfl <| L.v (R1.move rfl) rfl <| L.v (R1.atLay (j := i) rfl rfl hI tyS42 rfl (by omega)) rfl <| L.v (R1.loadLI rfl hI tyP3 (by omega) (by have h9 := ints_at hp3 (by rw [← hil]; omega); simp only [← hil] at h9; exact h9)) rfl <| L.v (R1.assign rfl) rfl <| L.nil <| X.seq <| W.ret <| X.blockRet ?_
        refine X.thenRet <| X.nextRet <| X.blockRet <| X.thenRet <| X.result1 rfl (.tmp rfl .nil) ?_
        exact ⟨_, rfl, beat_some hp1 (hp2 ▸ hbt) hno, hm0⟩
       ·
        intro hc75
        have hcc_ := hc75
        rw [hN] at hP75
        have hbt : ¬ Bt val.length val ao z33 := fun h9 => by have h8 := (A_ok hP75).2 (by have h7 := ((Bt_F hic).1 h9).2; rw [← hal] at h7; exact h7); rw [hc75] at h8; cases h8
        refine W.skip <| X.blockEnd <| X.seq <| W.region <| L.v (R1.move rfl) rfl <| L.v (R1.addI (b := 1) rfl rfl (by omega)) rfl <| L.v (R1.assign rfl) rfl <| L.nil <| X.next (i + 1) ?_ ?_ ?_
        · exact ⟨rfl, rfl, rfl, rfl, rfl, trivial⟩
        ·
         exact ⟨hA.sub (by intro b hb; first | exact hb | (simp only [mq] at hb ⊢; grind)), hI.sub (by intro b hb; first | exact hb | (simp only [mq] at hb ⊢; grind)), hv.sub (by intro b hb; first | exact hb | (simp only [mq] at hb ⊢; grind)), hbd.sub (by intro b hb; first | exact hb | (simp only [mq] at hb ⊢; grind)), hm0, by omega, (no_step (P := fun q : CR × Nat => Bt val.length val ao q.1) hno hp1 (fun h9 => by rw [hp2] at h9; exact hbt h9))⟩
        · first | omega | (dsimp only; omega)
   ·
    intro hc27
    try simp only [bq, ne_eq] at hc27
    obtain rfl : i = al.length := by omega
    refine W.exit <| X.thenExit <| X.nextExit <| X.here <| X.seq <| W.seq <| W.region <| L.v (R1.assign rfl) rfl <| L.nil <| X.seq <| W.ret ?_
    refine X.result1 rfl (.tmp rfl .nil) ?_
    exact ⟨_, rfl, .inl ⟨rfl, beat_none (fun j q hj hq => hno j q (by omega) hq)⟩, hm0⟩

end Go.Proofs.Ytpnhihljgkohcaa
