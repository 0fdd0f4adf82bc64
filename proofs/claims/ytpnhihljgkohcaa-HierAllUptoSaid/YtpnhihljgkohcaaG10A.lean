/- Walks: what the functions compute. -/
import Derived.Test.YtpnhihljgkohcaaGaB
import Derived.Test.YtpnhihljgkohcaaRefE
namespace Go.Proofs.Ytpnhihljgkohcaa
open Go.RowKit
set_option linter.unusedVariables false
set_option linter.unusedSimpArgs false
set_option maxRecDepth 10000

/-- All numbers of a row are not too large. -/
def FitL (a : List Rat) : Prop := ∀ x ∈ a, Fit x 17179869184
/-- A sum as numbers, the constant last. -/
def rowD (n : Nat) (c : Ts × Rat) : List Rat := (List.range (n + 1)).map (cv n c.1 c.2)
/-- The first ones changed. -/
def upd {α : Type} (f : α → α) (l : List α) (j : Nat) : List α := (l.take j).map f ++ l.drop j
section
variable {α : Type} {f : α → α} {l : List α} {j : Nat} {z : α}
theorem upd_length (f : α → α) (l : List α) (j : Nat) : (upd f l j).length = l.length := by unfold upd; simp; omega
theorem upd_get (hi : j < l.length) : (upd f l j)[j]? = l[j]? := by
  unfold upd
  rw [List.getElem?_append_right (by simp; omega), List.getElem?_drop]
  congr 1; simp; omega
theorem upd_set (hz : l[j]? = some z) : (upd f l j).set j (f z) = upd f l (j + 1) := by
  obtain ⟨hi, rfl⟩ := List.getElem?_eq_some_iff.1 hz
  unfold upd
  have h1 : ((l.take j).map f).length = j := by simp; omega
  rw [List.set_append_right _ _ (by omega), h1, Nat.sub_self, List.drop_eq_getElem_cons hi, List.set_cons_zero, List.take_succ_eq_append_getElem hi, List.map_append]
  simp
theorem upd_same (hz : l[j]? = some z) (h : f z = z) : upd f l j = upd f l (j + 1) := by
  rw [← upd_set hz, h]
  have hi : j < l.length := (List.getElem?_eq_some_iff.1 hz).1
  apply List.ext_getElem?
  intro i
  rw [List.getElem?_set]
  split
  · rename_i e; subst e
    rw [if_pos (by rw [upd_length]; exact hi), upd_get hi, hz]
  · rfl
theorem upd_all (f : α → α) (l : List α) : upd f l l.length = l.map f := by unfold upd; simp
theorem upd_zero (f : α → α) (l : List α) : upd f l 0 = l := by unfold upd; simp
end
theorem rowD_length (n : Nat) (c : Ts × Rat) : (rowD n c).length = n + 1 := by simp [rowD]
theorem rowD_dv {n : Nat} {c : Ts × Rat} (h : Below n c.1) : dv (rowD n c) = cv n c.1 c.2 := by
  funext i
  simp only [dv, rowD]
  rcases Nat.lt_or_ge i (n + 1) with h1 | h1
  · rw [List.getD_eq_getElem?_getD, List.getElem?_map, List.getElem?_range h1]; rfl
  · rw [List.getD_eq_getElem?_getD, List.getElem?_eq_none (by simpa using h1)]
    simp only [cv]
    rw [if_neg (by omega), coef_none (fun s hs => by have := h s hs; omega)]; rfl
/-- The row behind so many terms. -/
def rowP (n : Nat) (l : Ts) : List Rat := (List.range (n + 1)).map (coef l)
theorem rowP_length (n : Nat) (l : Ts) : (rowP n l).length = n + 1 := by simp [rowP]
theorem rowP_nil (n : Nat) : rowP n [] = List.replicate (n + 1) 0 := by
  unfold rowP
  apply List.ext_getElem?
  intro i
  rw [List.getElem?_map, List.getElem?_replicate]
  split
  · rename_i h; rw [List.getElem?_range h]; rfl
  · rename_i h; rw [List.getElem?_eq_none (by simpa using h)]; rfl
theorem coef_snoc {l : Ts} (x : Nat × Rat) (h : ∀ s ∈ l, s.1 ≠ x.1) (i : Nat) : coef (l ++ [x]) i = if i = x.1 then x.2 else coef l i := by
  induction l with
  | nil => simp only [List.nil_append, coef]; by_cases e : x.1 = i <;> simp [e]; intro e2; exact absurd e2.symm e
  | cons t l ih =>
    simp only [List.cons_append, coef]
    have h1 := h t (by simp)
    by_cases e : t.1 = i
    · rw [if_pos e, if_pos e, if_neg (by omega)]
    · rw [if_neg e, if_neg e, ih (fun s hs => h s (by simp [hs]))]
theorem rowP_set {n : Nat} {l : Ts} (hl : Nice l) {i : Nat} {x : Nat × Rat} (hx : l[i]? = some x) (hn : x.1 < n) : (rowP n (l.take i)).set x.1 x.2 = rowP n (l.take (i + 1)) := by
  obtain ⟨hi, rfl⟩ := List.getElem?_eq_some_iff.1 hx
  rw [List.take_succ_eq_append_getElem hi]
  have hne : ∀ s ∈ l.take i, s.1 ≠ l[i].1 := fun s hs e => by
    obtain ⟨j, hj, rfl⟩ := List.mem_iff_getElem.1 hs
    have hji : j < i := by simp at hj; omega
    have h2 := List.pairwise_iff_getElem.1 hl.up j i (by omega) hi hji
    rw [List.getElem_take] at e; omega
  unfold rowP
  apply List.ext_getElem?
  intro j
  rw [List.getElem?_set, List.getElem?_map, List.getElem?_map]
  split
  · rename_i e; subst e
    rw [if_pos (by simp; omega), List.getElem?_range (by omega)]
    simp only [Option.map_some]
    rw [coef_snoc _ hne, if_pos rfl]
  · rename_i e
    rcases Nat.lt_or_ge j (n + 1) with h1 | h1
    · rw [List.getElem?_range h1]
      simp only [Option.map_some]
      rw [coef_snoc _ hne, if_neg (fun h => e h.symm)]
    · rw [List.getElem?_eq_none (by simpa using h1)]; rfl
theorem rowP_end {n : Nat} {l : Ts} {k : Rat} : (rowP n l).set n k = rowD n (l, k) := by
  unfold rowP rowD
  apply List.ext_getElem?
  intro j
  rw [List.getElem?_set, List.getElem?_map, List.getElem?_map]
  split
  · rename_i e; subst e
    rw [if_pos (by simp), List.getElem?_range (by omega)]
    simp [cv]
  · rename_i e
    rcases Nat.lt_or_ge j (n + 1) with h1 | h1
    · rw [List.getElem?_range h1]
      simp only [Option.map_some, cv]
      rw [if_neg (fun h => e h.symm)]
    · rw [List.getElem?_eq_none (by simpa using h1)]; rfl
theorem rep_snoc (i : Nat) : List.replicate i (0 : Rat) ++ [((0 : Int) : Rat)] = List.replicate (i + 1) 0 := by
  rw [show (((0 : Int)) : Rat) = 0 from rfl]; exact (List.replicate_succ').symm
theorem lessD_snoc {a b : List Rat} {x y z : Rat} {i : Nat} (h1 : a[i]? = some y) (h2 : b[i]? = some z) : (lessD a b x).take i ++ [y - x * z] = (lessD a b x).take (i + 1) := by
  have hi : i < a.length := (List.getElem?_eq_some_iff.1 h1).1
  have hl : i < (lessD a b x).length := by rw [lessD_length]; exact hi
  rw [List.take_succ_eq_append_getElem hl]
  have e : (lessD a b x)[i] = y - x * z := by
    simp only [lessD, List.getElem_map, List.getElem_range, List.getD_eq_getElem?_getD, h1, h2, Option.getD_some]
  rw [e]
/-- The place ahead of which all is 0. -/
theorem lead_stop {a : List Rat} {i : Nat} (h0 : ∀ j, j < i → a.getD j 0 = 0) (hi : i < a.length) (h : ¬ i + 1 < a.length ∨ a.getD i 0 ≠ 0) : leadD a = i := by
  have hs := leadD_spec (l := a) (by intro e; rw [e] at hi; simp at hi)
  rcases Nat.lt_trichotomy (leadD a) i with h1 | h1 | h1
  · exact absurd (h0 _ h1) (hs.2.2 (by omega))
  · exact h1
  · rcases h with h2 | h2
    · omega
    · exact absurd (hs.2.1 i h1) h2
theorem getD_of {a : List Rat} {i : Nat} {z : Rat} (h : a[i]? = some z) : a.getD i 0 = z := by rw [List.getD_eq_getElem?_getD, h]; rfl
theorem reduceD_app : ∀ (r s : List (List Rat)) (a : List Rat), reduceD (r ++ s) a = reduceD s (reduceD r a)
  | [], _, _ => rfl
  | x :: r, s, a => by simp only [List.cons_append, reduceD]; rw [reduceD_app r s]
theorem reduceD_snoc {rs : List (List Rat)} {i : Nat} {z : List Rat} (hz : rs[i]? = some z) (a : List Rat) : reduceD (rs.take (i + 1)) a = if (reduceD (rs.take i) a).getD (leadD z) 0 = 0 then reduceD (rs.take i) a else lessD (reduceD (rs.take i) a) z ((reduceD (rs.take i) a).getD (leadD z) 0) := by
  obtain ⟨hi, rfl⟩ := List.getElem?_eq_some_iff.1 hz
  rw [List.take_succ_eq_append_getElem hi, reduceD_app]; rfl


theorem fillP1 (s : Bool) (A : Option Addr) (n c : Nat) (B : Option Addr) (m d : Nat) : Instr.fill (fun i => some (i * 3, 3)) ((Array.range (1 * 3)).map ((Value.agg #[.bool false, .slice none 0 0, .slice none 0 0]).cells[· % (Value.agg #[.bool false, .slice none 0 0, .slice none 0 0]).cells.size]!)) [(0, .agg #[.bool s, .slice A n c, .slice B m d])] = some #[.bool s, .slice A n c, .slice B m d] := by kernel_rfl

set_option maxHeartbeats 1000000 in
theorem c_row {M : List Nat} {w : World} {c : CR} {vt vn vd : Value} {n : Nat} (ht : Lay rdT M w vt c.ts) (h : U32 M w vn c.k.n) (k : U32 M w vd c.k.d) (hbd : Bd M w) (hn : n ≤ 64) (hC : isC c (n : Int) = true) (hln : c.ts.length ≤ 1099511627776) :
    Ret Try.prog 54 #[.agg #[.int .i64 c.st, vt, .bool c.k.s, vn, vd], .int .i64 (n : Int)] w (fun r w' => ∃ css, w'.ownsRow w.heap.size 31 3 r (rowD n (conT c)).length css.flatten ∧ LayL rdP (ownL r ++ M) w' css (rowD n (conT c)) ∧ Mod [] w w') := by
 obtain ⟨T9, t9, rfl⟩ := ht.form
 obtain ⟨A9, c9, rfl⟩ := h.form
 obtain ⟨B9, e9, rfl⟩ := k.form
 obtain ⟨hk1, hts, hN, hB⟩ := isC_spec hC
 have hlc : (conT c).1.length = c.ts.length := by simp [conT]
 refine Ret.of (vs := [.agg #[.int .i64 c.st, .slice T9 c.ts.length t9, .bool c.k.s, .slice A9 c.k.n.length c9, .slice B9 c.k.d.length e9], .int .i64 (n : Int)]) (n := 44) Try.func54 rfl rfl rfl rfl ?_
 have hm0 : Mod [] w w := Mod.refl _ _
 refine W.seq <| W.region <| L.box rfl rfl ?_
 intro g2 w1 hN2
 replace ht := ht.new hN2
 replace h := h.new hN2
 replace k := k.new hN2
 replace hbd := hbd.new hN2
 replace hm0 := hm0.trans (hN2.mod.mono (by simp))
 have hb2 := hN2.blk
 clear hN2
 refine L.v (R1.assign rfl) rfl <| L.nil <| X.seq <| W.seq <| W.region <| L.v (R1.assign rfl) rfl <| L.nil <| X.seq <| W.seq <| W.seq <| W.region ?_
 refine L.v (R1.assign rfl) rfl <| L.nil <| X.seq <| W.block <| W.loop (ι := Nat × Value × List (List Value)) (fun (i, u, css) => [(1, .int .i64 (n : Int)), (2, .pointer (some ⟨g2, 0, none⟩)), (5, u), (6, .int .i64 (i : Int))]) (fun (i, u, css) w_ => Lay rdT (ownL u ++ M) w_ (.slice T9 c.ts.length t9) c.ts ∧ U32 (ownL u ++ M) w_ (.slice A9 c.k.n.length c9) c.k.n ∧ U32 (ownL u ++ M) w_ (.slice B9 c.k.d.length e9) c.k.d ∧ Blk w_ g2 33 #[.int .i64 c.st, .slice T9 c.ts.length t9, .bool c.k.s, .slice A9 c.k.n.length c9, .slice B9 c.k.d.length e9] ∧ u.ownBlock ≠ some g2 ∧ w_.ownsRow w.heap.size 31 3 u (List.replicate i (0 : Rat)).length css.flatten ∧ LayL rdP (ownL u ++ M) w_ css (List.replicate i (0 : Rat)) ∧ Bd (ownL u ++ M) w_ ∧ Mod [] w w_ ∧ i ≤ n + 1) (fun (i, u, css) => n + 1 - i) (0, .slice none 0 0, []) ?_ ?_ ?_
 · exact ⟨rfl, rfl, rfl, rfl, trivial⟩
 ·
  exact ⟨ht.sub (by intro b hb; first | exact hb | (simp only [mq] at hb ⊢; grind)), h.sub (by intro b hb; first | exact hb | (simp only [mq] at hb ⊢; grind)), k.sub (by intro b hb; first | exact hb | (simp only [mq] at hb ⊢; grind)), hb2, (fun h => by cases h), own_nil _ _ _ _, LayL.nil, hbd.sub (by intro b hb; first | exact hb | (simp only [mq] at hb ⊢; grind)), hm0, Nat.zero_le _⟩
 ·
  rintro ⟨i, u, css⟩ w2 ⟨ht, h, k, hb2, hno_ho_g2, ho, hl, hbd, hm0, hi⟩
  have hrl : (List.replicate i (0 : Rat)).length = i := List.length_replicate
  refine W.seq <| W.seq <| W.region <| L.v (R1.move rfl) rfl <| L.v (R1.move rfl) rfl <| L.v ((R1.le rfl rfl).asB (c := decide (i ≤ n)) (by congr 1; apply propext; omega)) rfl <| L.nil <| X.seq <| W.cond rfl ?_ ?_
  ·
   intro hc10
   try simp only [bq, ne_eq] at hc10
   refine W.skip <| X.seq <| W.seq <| W.block <| W.region <| L.v (R1.move rfl) rfl <| L.call rfl (c_ref2_Int (n := 0) (by decide) (by decide) hbd) rfl ?_
   rintro _ w3 ⟨⟨A14, c14, B14, e14, rfl, hn14, hd14⟩, hm3⟩
   replace ht := ht.gr hm3
   replace h := h.gr hm3
   replace k := k.gr hm3
   replace hb2 := Blk.gr hb2 hm3
   replace ho := own_gr ho hm3 (by simp)
   replace hl := hl.gr hm3
   replace hbd := hbd.gr hm3
   replace hm0 := hm0.trans hm3
   clear hm3
   have F14 := Fit.int (n := 0) (by decide) (by decide)
   refine L.buildSlice (cells := [.bool (decide ((((0 : Int)) : Rat).num < 0)), .slice A14 (toL (((0 : Int)) : Rat).num.natAbs).length c14, .slice B14 (toL (((0 : Int)) : Rat).den).length e14]) rfl tyS23 tyZ31 (fillP1 _ _ _ _ _ _ _) (by decide) (by decide) rfl ?_
   intro g15 w4 hN15
   replace ht := ht.gr hN15.mod
   replace h := h.gr hN15.mod
   replace k := k.gr hN15.mod
   replace hb2 := Blk.gr hb2 hN15.mod
   replace ho := own_gr ho hN15.mod (by simp)
   replace hl := hl.gr hN15.mod
   replace hbd := hbd.gr hN15.mod
   replace hm0 := hm0.trans hN15.mod
   replace hn14 := hn14.gr hN15.mod
   replace hd14 := hd14.gr hN15.mod
   have hrow : Sl [] w4 3 (.slice (some ⟨g15, 0, none⟩) 1 1) 1 [.bool (decide ((((0 : Int)) : Rat).num < 0)), .slice A14 (toL (((0 : Int)) : Rat).num.natAbs).length c14, .slice B14 (toL (((0 : Int)) : Rat).den).length e14] := Sl.of_blk hN15.blk 0 (Nat.le_refl _) (by decide) rfl (by simp) (fun j hj => by simp)
   clear hN15
   refine L.append rfl rfl ho hrow (by intro c hc; simp only [List.mem_cons, List.not_mem_nil, or_false] at hc; rcases hc with rfl | rfl | rfl <;> rfl) tyS23 tyZ31 (by omega) (by unfold maxLen; omega) hm0.size rfl ?_
   intro v16 w5 ho16' hG16
   replace ht := ht.grew2 hG16 (by first | exact mem_own | (intro b hb; simp [hb]))
   replace h := h.grew2 hG16 (by first | exact mem_own | (intro b hb; simp [hb]))
   replace k := k.grew2 hG16 (by first | exact mem_own | (intro b hb; simp [hb]))
   have hnn_g2 := hG16.ne hno_ho_g2 hb2
   replace hb2 := Blk.grew hb2 hG16 hno_ho_g2
   replace hno_ho_g2 := hnn_g2
   replace hl := hl.grew2 hG16 (by first | exact mem_own | (intro b hb; simp [hb]))
   replace hbd := hbd.grew2 hG16 (by first | exact mem_own | (intro b hb; simp [hb]))
   replace hm0 := Mod.oldOwn hm0 hG16.mod ho
   replace hn14 := hn14.grew2 hG16 (by first | exact mem_own | (intro b hb; simp [hb]))
   replace hd14 := hd14.grew2 hG16 (by first | exact mem_own | (intro b hb; simp [hb]))
   replace ho := ho16'; clear ho16'
   clear hG16
   refine L.v (R1.assign rfl) rfl <| L.nil <| X.blockEnd <| X.seq <| W.region <| L.v (R1.move rfl) rfl <| L.v (R1.addI (b := 1) rfl rfl (by omega)) rfl <| L.v (R1.assign rfl) rfl <| L.nil <| X.next (i + 1, v16, css ++ [[.bool (decide ((((0 : Int)) : Rat).num < 0)), .slice A14 (toL (((0 : Int)) : Rat).num.natAbs).length c14, .slice B14 (toL (((0 : Int)) : Rat).den).length e14]]) ?_ ?_ ?_
   · exact ⟨rfl, rfl, rfl, rfl, trivial⟩
   ·
    exact ⟨ht.sub (by intro b hb; first | exact hb | (simp only [mq] at hb ⊢; grind)), h.sub (by intro b hb; first | exact hb | (simp only [mq] at hb ⊢; grind)), k.sub (by intro b hb; first | exact hb | (simp only [mq] at hb ⊢; grind)), hb2, hno_ho_g2, own_congr ho (by simp) (by simp), by rw [← rep_snoc]; exact (hl.sub (by intro b hb; first | exact hb | (simp only [mq] at hb ⊢; grind))).append (LayL.one _ (((0 : Int)) : Rat) ⟨_, _, _, _, rfl, hn14.sub (by intro b hb; first | exact hb | (simp only [mq] at hb ⊢; grind)), hd14.sub (by intro b hb; first | exact hb | (simp only [mq] at hb ⊢; grind))⟩), hbd.sub (by intro b hb; first | exact hb | (simp only [mq] at hb ⊢; grind)), hm0, by omega⟩
   · first | omega | (dsimp only; omega)
  ·
   intro hc10
   try simp only [bq, ne_eq] at hc10
   obtain rfl : n + 1 = i := by omega
   rw [← rowP_nil] at ho hl
   refine W.exit <| X.thenExit <| X.nextExit <| X.here <| X.seq <| W.seq <| W.seq <| W.region <| L.v (R1.assign rfl) rfl <| L.nil <| X.seq ?_
   refine W.block <| W.loop (ι := Nat × List (List Value)) (fun (i, css) => [(1, .int .i64 (n : Int)), (2, .pointer (some ⟨g2, 0, none⟩)), (5, u), (7, .int .i64 (i : Int))]) (fun (i, css) w_ => Lay rdT (ownL u ++ M) w_ (.slice T9 c.ts.length t9) c.ts ∧ U32 (ownL u ++ M) w_ (.slice A9 c.k.n.length c9) c.k.n ∧ U32 (ownL u ++ M) w_ (.slice B9 c.k.d.length e9) c.k.d ∧ Blk w_ g2 33 #[.int .i64 c.st, .slice T9 c.ts.length t9, .bool c.k.s, .slice A9 c.k.n.length c9, .slice B9 c.k.d.length e9] ∧ u.ownBlock ≠ some g2 ∧ w_.ownsRow w.heap.size 31 3 u (rowP n ((conT c).1.take i)).length css.flatten ∧ LayL rdP (ownL u ++ M) w_ css (rowP n ((conT c).1.take i)) ∧ Bd (ownL u ++ M) w_ ∧ Mod [] w w_ ∧ i ≤ c.ts.length) (fun (i, css) => c.ts.length - i) (0, css) ?_ ?_ ?_
   · exact ⟨rfl, rfl, rfl, rfl, trivial⟩
   ·
    exact ⟨ht.sub (by intro b hb; first | exact hb | (simp only [mq] at hb ⊢; grind)), h.sub (by intro b hb; first | exact hb | (simp only [mq] at hb ⊢; grind)), k.sub (by intro b hb; first | exact hb | (simp only [mq] at hb ⊢; grind)), hb2, hno_ho_g2, ho, hl.sub (by intro b hb; first | exact hb | (simp only [mq] at hb ⊢; grind)), hbd.sub (by intro b hb; first | exact hb | (simp only [mq] at hb ⊢; grind)), hm0, Nat.zero_le _⟩
   ·
    rintro ⟨i, css⟩ w6 ⟨ht, h, k, hb2, hno_ho_g2, ho, hl, hbd, hm0, hi⟩
    refine W.seq <| W.seq <| W.region <| L.v (R1.move rfl) rfl <| L.v (R1.fieldAt rfl tyF33_1) rfl <| L.v (R1.loadFld rfl hb2 rfl tyP28) rfl <| L.v (R1.lenLay rfl ht tyS28) rfl <| L.v (R1.lt rfl rfl) rfl <| L.nil <| X.seq <| W.cond rfl ?_ ?_
    ·
     intro hc21
     try simp only [bq, ne_eq] at hc21
     refine W.skip <| X.seq <| W.seq <| W.block <| W.drawW (T := [14]) rfl (by decide +kernel) (NoHang.block (NoHang.then (NoHang.next (NoHang.block (NoHang.then NoHang.post))))) (fun w7 hm7 => ?_)
     replace ht := ht.gr hm7
     replace h := h.gr hm7
     replace k := k.gr hm7
     replace hb2 := Blk.gr hb2 hm7
     replace ho := own_gr ho hm7 (by simp)
     replace hl := hl.gr hm7
     replace hbd := hbd.gr hm7
     replace hm0 := hm0.trans hm7
     have hS1 : Mod [] w7 w7 := Mod.refl _ _
     clear hm7
     have hb2_s := hb2
     refine D.take 0 rfl (by decide +kernel) (fun w_ hS => (R1.move rfl)) hS1 rfl <| D.take 1 rfl (by decide +kernel) (fun w_ hS => (R1.fieldAt rfl tyF33_1)) hS1 rfl <| D.take 2 rfl (by decide +kernel) (fun w_ hS => (R1.loadFld rfl (Blk.gr hb2_s hS) rfl tyP28)) hS1 rfl <| D.take 3 rfl (by decide +kernel) (fun w_ hS => (R1.move rfl)) hS1 rfl <| D.take 4 rfl (by decide +kernel) (fun w_ hS => (R1.atLay (j := i) rfl rfl (Lay.gr ht hS) tyS28 rfl (by omega))) hS1 rfl <| D.take 5 rfl (by decide +kernel) (fun w_ hS => (R1.fieldAddr rfl tyF46_0)) hS1 rfl ?_
     obtain ⟨z30, cs30, hz30, hE30, ds30, rfl, vn30, vd30, rfl, hn30, hd30⟩ := Lay.elemQ ht (j := i) (by omega)
     obtain ⟨A30, c30, rfl⟩ := hn30.form
     obtain ⟨B30, e30, rfl⟩ := hd30.form
     refine D.take 6 rfl (by decide +kernel) (fun w_ hS => ((R1.loadEF rfl (SlE.gr hE30 hS) rfl tyP3).asV (v := .int .i64 ((z30.v.toNat : Nat) : Int)) (by have h9 := (hts _ (List.mem_of_getElem? hz30)).1; congr 1; omega))) hS1 rfl <| D.take 7 rfl (by decide +kernel) (fun w_ hS => (R1.fieldAt rfl tyF33_1)) hS1 rfl <| D.take 8 rfl (by decide +kernel) (fun w_ hS => (R1.loadFld rfl (Blk.gr hb2_s hS) rfl tyP28)) hS1 rfl <| D.take 9 rfl (by decide +kernel) (fun w_ hS => (R1.move rfl)) hS1 rfl <| D.take 10 rfl (by decide +kernel) (fun w_ hS => (R1.atLay (j := i) rfl rfl (Lay.gr ht hS) tyS28 rfl (by omega))) hS1 rfl <| D.take 11 rfl (by decide +kernel) (fun w_ hS => (R1.fieldAddr rfl tyF46_1)) hS1 rfl ?_
     obtain ⟨z36, cs36, hz36, hE36, ds36, rfl, vn36, vd36, rfl, hn36, hd36⟩ := Lay.elemQ ht (j := i) (by omega)
     obtain ⟨A36, c36, rfl⟩ := hn36.form
     obtain ⟨B36, e36, rfl⟩ := hd36.form
     obtain rfl : z30 = z36 := by have h9 := hz36; rw [hz30] at h9; injection h9
     refine D.take 12 rfl (by decide +kernel) (fun w_ hS => (R1.loadEA (ds := [.bool z30.c.s, .slice A36 z30.c.n.length c36, .slice B36 z30.c.d.length e36]) rfl (SlE.gr hE36 hS) rfl tyG31)) hS1 rfl ?_
     have hzx : (conT c).1[i]? = some (tv z30) := by simp only [conT]; rw [List.getElem?_map, hz30]; rfl
     have hzn : (tv z30).1 < n := hB _ (List.mem_of_getElem? hzx)
     have hzv : z30.v.toNat < n + 1 := by simp only [tv] at hzn; omega
     refine D.take 13 rfl (by decide +kernel) (fun w_ hS => (R1.atOwn (i := z30.v.toNat) rfl rfl (own_gr ho hS (by simp)) tyS23 rfl (by rw [rowP_length]; exact hzv))) hS1 rfl <| D.one 14 rfl (by decide +kernel) (fun hX => ?_)
     refine L.storeOwnA rfl rfl rfl ho hl (by first | exact mem_own | (intro b hb; simp [hb])) (by rw [rowP_length]; exact hzv) ((rdP_of ⟨_, _, rfl, hn36, hd36⟩ (hts _ (List.mem_of_getElem? hz30)).2)) tyG31 ?_
     intro w8 ho' hl' hm8
     replace ht := ht.mod hm8 (by first | exact mem_own | (intro b hb; simp [hb]))
     replace h := h.mod hm8 (by first | exact mem_own | (intro b hb; simp [hb]))
     replace k := k.mod hm8 (by first | exact mem_own | (intro b hb; simp [hb]))
     replace hb2 := Blk.ownfar hb2 hm8 hno_ho_g2
     replace hbd := hbd.gr hm8
     replace hm0 := Mod.oldOwn hm0 hm8 ho
     replace hn30 := hn30.mod hm8 (by first | exact mem_own | (intro b hb; simp [hb]))
     replace hd30 := hd30.mod hm8 (by first | exact mem_own | (intro b hb; simp [hb]))
     replace hn36 := hn36.mod hm8 (by first | exact mem_own | (intro b hb; simp [hb]))
     replace hd36 := hd36.mod hm8 (by first | exact mem_own | (intro b hb; simp [hb]))
     clear hm8 hl
     replace ho := ho'; clear ho'
     have hl := hl'; clear hl'
     refine L.nil (hX _ _ ⟨.inl rfl, ?_⟩)
     refine D.done (by decide +kernel) ?_ _
     refine X.blockEnd <| X.seq <| W.region <| L.v (R1.move rfl) rfl <| L.v (R1.addI (b := 1) rfl rfl (by omega)) rfl <| L.v (R1.assign rfl) rfl <| L.nil <| X.next (i + 1, css.set z30.v.toNat [.bool z30.c.s, .slice A36 z30.c.n.length c36, .slice B36 z30.c.d.length e36]) ?_ ?_ ?_
     · exact ⟨rfl, rfl, rfl, rfl, trivial⟩
     ·
      exact ⟨ht.sub (by intro b hb; first | exact hb | (simp only [mq] at hb ⊢; grind)), h.sub (by intro b hb; first | exact hb | (simp only [mq] at hb ⊢; grind)), k.sub (by intro b hb; first | exact hb | (simp only [mq] at hb ⊢; grind)), hb2, hno_ho_g2, own_congr ho (by rw [rowP_length, rowP_length]) rfl, by rw [← rowP_set hN hzx hzn]; exact hl.sub (by intro b hb; first | exact hb | (simp only [mq] at hb ⊢; grind)), hbd.sub (by intro b hb; first | exact hb | (simp only [mq] at hb ⊢; grind)), hm0, by omega⟩
     · first | omega | (dsimp only; omega)
    ·
     intro hc21
     try simp only [bq, ne_eq] at hc21
     obtain rfl : i = c.ts.length := by omega
     rw [← hlc, List.take_length] at ho hl
     refine W.exit <| X.thenExit <| X.nextExit <| X.here <| X.seq <| W.seq <| W.region <| L.v (R1.move rfl) rfl <| L.v (R1.move rfl) rfl <| L.v (R1.fieldAt rfl tyF33_2) rfl <| L.v (R1.loadBoxAt (ds := [.bool c.k.s, .slice A9 c.k.n.length c9, .slice B9 c.k.d.length e9]) rfl hb2 rfl tyG31) rfl ?_
     refine L.v (R1.atOwn (i := n) rfl rfl ho tyS23 rfl (by rw [rowP_length]; omega)) rfl <| L.storeOwnA rfl rfl rfl ho hl (by first | exact mem_own | (intro b hb; simp [hb])) (by rw [rowP_length]; omega) ((rdP_of ⟨_, _, rfl, h, k⟩ hk1)) tyG31 ?_
     intro w9 ho' hl' hm9
     replace ht := ht.mod hm9 (by first | exact mem_own | (intro b hb; simp [hb]))
     replace h := h.mod hm9 (by first | exact mem_own | (intro b hb; simp [hb]))
     replace k := k.mod hm9 (by first | exact mem_own | (intro b hb; simp [hb]))
     replace hm0 := Mod.oldOwn hm0 hm9 ho
     clear hm9 hl
     replace ho := ho'; clear ho'
     have hl := hl'; clear hl'
     refine L.nil <| X.seq <| W.seq <| W.region <| L.v (R1.move rfl) rfl <| L.v (R1.assign rfl) rfl <| L.nil <| X.seq <| W.ret <| X.result1 rfl (.tmp rfl .nil) ?_
     have e1 : (rowP n (conT c).1).set n (conT c).2 = rowD n (conT c) := rowP_end
     refine ⟨_, own_congr ho (by rw [rowP_length, rowD_length]) rfl, ?_, hm0⟩
     rw [← e1]; exact hl.sub (by intro b hb; first | exact hb | (simp only [mq] at hb ⊢; grind))

set_option maxHeartbeats 1000000 in
theorem c_lessD {M N1 N2 N3 : List Nat} {w : World} {va vb vx : Value} {a b : List Rat} {x : Rat} (ha : Lay rdP N1 w va a) (hb : Lay rdP N2 w vb b) (hx : RN N3 w vx x) (hbd : Bd M w) (fa : FitL a) (fb : FitL b) (fx : Fit x 17179869184) (hab : b.length = a.length) (hal : a.length ≤ 65) :
    Ret Try.prog 57 #[va, vb, vx] w (fun r w' => ∃ css, w'.ownsRow w.heap.size 31 3 r (lessD a b x).length css.flatten ∧ LayL rdP (ownL r ++ M) w' css (lessD a b x) ∧ Mod [] w w') := by
 obtain ⟨TA, tA, rfl⟩ := ha.form
 obtain ⟨TB, tB, rfl⟩ := hb.form
 obtain ⟨A3, c3, B3, e3, rfl, hn3, hd3⟩ := hx
 have hll := lessD_length a b x
 refine Ret.of (vs := [.slice TA a.length tA, .slice TB b.length tB, .agg #[.bool (decide (x.num < 0)), .slice A3 (toL x.num.natAbs).length c3, .slice B3 (toL x.den).length e3]]) (n := 30) Try.func57 rfl rfl rfl rfl ?_
 have hm0 : Mod [] w w := Mod.refl _ _
 refine W.seq <| W.region <| L.box rfl rfl ?_
 intro g5 w1 hN5
 replace ha := ha.new hN5
 replace hb := hb.new hN5
 replace hn3 := hn3.new hN5
 replace hd3 := hd3.new hN5
 replace hbd := hbd.new hN5
 replace hm0 := hm0.trans (hN5.mod.mono (by simp))
 have hb5 := hN5.blk
 clear hN5
 refine L.v (R1.assign rfl) rfl <| L.nil <| X.seq <| W.seq <| W.region <| L.v (R1.assign rfl) rfl <| L.nil <| X.seq <| W.seq <| W.seq <| W.region ?_
 refine L.v (R1.assign rfl) rfl <| L.nil <| X.seq <| W.block <| W.loop (ι := Nat × Value × List (List Value)) (fun (i, u, css) => [(0, .slice TA a.length tA), (1, .slice TB b.length tB), (5, .pointer (some ⟨g5, 0, none⟩)), (7, u), (8, .int .i64 (i : Int))]) (fun (i, u, css) w_ => Lay rdP (ownL u ++ N1) w_ (.slice TA a.length tA) a ∧ Lay rdP (ownL u ++ N2) w_ (.slice TB b.length tB) b ∧ U32 (ownL u ++ N3) w_ (.slice A3 (toL x.num.natAbs).length c3) (toL x.num.natAbs) ∧ U32 (ownL u ++ N3) w_ (.slice B3 (toL x.den).length e3) (toL x.den) ∧ Blk w_ g5 31 #[.bool (decide (x.num < 0)), .slice A3 (toL x.num.natAbs).length c3, .slice B3 (toL x.den).length e3] ∧ u.ownBlock ≠ some g5 ∧ w_.ownsRow w.heap.size 31 3 u ((lessD a b x).take i).length css.flatten ∧ LayL rdP (ownL u ++ M) w_ css ((lessD a b x).take i) ∧ Bd (ownL u ++ M) w_ ∧ Mod [] w w_ ∧ i ≤ a.length) (fun (i, u, css) => a.length - i) (0, .slice none 0 0, []) ?_ ?_ ?_
 · exact ⟨rfl, rfl, rfl, rfl, rfl, trivial⟩
 ·
  exact ⟨ha.sub (by intro b hb; first | exact hb | (simp only [mq] at hb ⊢; grind)), hb.sub (by intro b hb; first | exact hb | (simp only [mq] at hb ⊢; grind)), hn3.sub (by intro b hb; first | exact hb | (simp only [mq] at hb ⊢; grind)), hd3.sub (by intro b hb; first | exact hb | (simp only [mq] at hb ⊢; grind)), hb5, (fun h => by cases h), own_nil _ _ _ _, LayL.nil, hbd.sub (by intro b hb; first | exact hb | (simp only [mq] at hb ⊢; grind)), hm0, Nat.zero_le _⟩
 ·
  rintro ⟨i, u, css⟩ w2 ⟨ha, hb, hn3, hd3, hb5, hno_ho_g5, ho, hl, hbd, hm0, hi⟩
  have htk : ((lessD a b x).take i).length = i := by rw [List.length_take]; omega
  refine W.seq <| W.seq <| W.region <| L.v (R1.move rfl) rfl <| L.v (R1.move rfl) rfl <| L.v (R1.lenLay rfl ha tyS23) rfl <| L.v (R1.lt rfl rfl) rfl <| L.nil <| X.seq <| W.cond rfl ?_ ?_
  ·
   intro hc12
   try simp only [bq, ne_eq] at hc12
   refine W.skip <| X.seq <| W.seq <| W.block <| W.drawG (ownL u) (T := []) rfl (by decide +kernel) (NoHang.block (NoHang.then (NoHang.next (NoHang.block (NoHang.then NoHang.post))))) (fun w3 hm3 => ?_)
   replace ha := ha.gr hm3
   replace hb := hb.gr hm3
   replace hn3 := hn3.gr hm3
   replace hd3 := hd3.gr hm3
   replace hb5 := Blk.gr hb5 hm3
   replace ho := own_gr ho hm3 (by simp)
   replace hl := hl.gr hm3
   replace hbd := hbd.gr hm3
   replace hm0 := hm0.trans hm3
   have hS1 : Mod (ownL u) w3 w3 := Mod.refl _ _
   clear hm3
   have hb5_s := hb5
   refine D.take 0 rfl (by decide +kernel) (fun w_ hS => (R1.move rfl)) hS1 rfl <| D.take 1 rfl (by decide +kernel) (fun w_ hS => (R1.move rfl)) hS1 rfl <| D.take 2 rfl (by decide +kernel) (fun w_ hS => (R1.move rfl)) hS1 rfl <| D.take 3 rfl (by decide +kernel) (fun w_ hS => (R1.atLay (j := i) rfl rfl (Lay.mod ha hS (by first | exact mem_own | (intro b hb; simp [hb]))) tyS23 rfl (by omega))) hS1 rfl ?_
   obtain ⟨z19, cs19, hz19, hE19, A19, a19, B19, b19, rfl, hn19, hd19⟩ := Lay.elemQ ha (j := i) (by omega)
   refine D.take 4 rfl (by decide +kernel) (fun w_ hS => (R1.loadE rfl (SlE.mod hE19 hS (by first | exact mem_own | (intro b hb; simp [hb]))) tyG31)) hS1 rfl <| D.take 5 rfl (by decide +kernel) (fun w_ hS => (R1.loadBox rfl (Blk.ownfar hb5_s hS hno_ho_g5) tyG31)) hS1 rfl <| D.take 6 rfl (by decide +kernel) (fun w_ hS => (R1.move rfl)) hS1 rfl <| D.take 7 rfl (by decide +kernel) (fun w_ hS => (R1.move rfl)) hS1 rfl <| D.take 8 rfl (by decide +kernel) (fun w_ hS => (R1.atLay (j := i) rfl rfl (Lay.mod hb hS (by first | exact mem_own | (intro b hb; simp [hb]))) tyS23 rfl (by omega))) hS1 rfl ?_
   obtain ⟨z24, cs24, hz24, hE24, A24, a24, B24, b24, rfl, hn24, hd24⟩ := Lay.elemQ hb (j := i) (by omega)
   refine D.take 9 rfl (by decide +kernel) (fun w_ hS => (R1.loadE rfl (SlE.mod hE24 hS (by first | exact mem_own | (intro b hb; simp [hb]))) tyG31)) hS1 rfl <| D.one 10 rfl (by decide +kernel) (fun hX => ?_)
   refine L.call rfl (c_ref2_Mul (qa := x) (qb := z24) (rv_toL _) (rv_toL _) hn3 hd3 hn24 hd24 hbd (Nat.le_trans fx.1 (by decide)) (Nat.le_trans fx.2 (by decide)) (Nat.le_trans (fb _ (List.mem_of_getElem? hz24)).1 (by decide)) (Nat.le_trans (fb _ (List.mem_of_getElem? hz24)).2 (by decide))) rfl ?_
   rintro _ w4 ⟨⟨A25, c25, B25, e25, rfl, hn25, hd25⟩, hm4⟩
   replace ha := ha.gr hm4
   replace hb := hb.gr hm4
   replace hn3 := hn3.gr hm4
   replace hd3 := hd3.gr hm4
   replace hb5 := Blk.gr hb5 hm4
   replace ho := own_gr ho hm4 (by simp)
   replace hl := hl.gr hm4
   replace hbd := hbd.gr hm4
   replace hm0 := hm0.trans hm4
   replace hn19 := hn19.gr hm4
   replace hd19 := hd19.gr hm4
   replace hn24 := hn24.gr hm4
   replace hd24 := hd24.gr hm4
   replace hS1 := hS1.trans (hm4.mono (by simp))
   clear hm4
   have F25 := Fit.mul fx (fb _ (List.mem_of_getElem? hz24))
   refine L.nil (hX _ _ ⟨.inr hS1, ?_⟩)
   refine D.one 11 rfl (by decide +kernel) (fun hX => ?_)
   refine L.call rfl (c_ref2_Sub (qa := z19) (qb := (x * z24)) (rv_toL _) (rv_toL _) hn19 hd19 hn25 hd25 hbd (Nat.le_trans (fa _ (List.mem_of_getElem? hz19)).1 (by decide)) (Nat.le_trans (fa _ (List.mem_of_getElem? hz19)).2 (by decide)) (Nat.le_trans F25.1 (by decide)) (Nat.le_trans F25.2 (by decide))) rfl ?_
   rintro _ w5 ⟨⟨A26, c26, B26, e26, rfl, hn26, hd26⟩, hm5⟩
   replace ha := ha.gr hm5
   replace hb := hb.gr hm5
   replace hn3 := hn3.gr hm5
   replace hd3 := hd3.gr hm5
   replace hb5 := Blk.gr hb5 hm5
   replace ho := own_gr ho hm5 (by simp)
   replace hl := hl.gr hm5
   replace hbd := hbd.gr hm5
   replace hm0 := hm0.trans hm5
   replace hn19 := hn19.gr hm5
   replace hd19 := hd19.gr hm5
   replace hn24 := hn24.gr hm5
   replace hd24 := hd24.gr hm5
   replace hn25 := hn25.gr hm5
   replace hd25 := hd25.gr hm5
   replace hS1 := hS1.trans (hm5.mono (by simp))
   clear hm5
   have F26 := Fit.sub (fa _ (List.mem_of_getElem? hz19)) F25
   refine L.nil (hX _ _ ⟨.inr hS1, ?_⟩)
   refine D.one 12 rfl (by decide +kernel) (fun hX => ?_)
   refine L.buildSlice (cells := [.bool (decide ((z19 - x * z24).num < 0)), .slice A26 (toL (z19 - x * z24).num.natAbs).length c26, .slice B26 (toL (z19 - x * z24).den).length e26]) rfl tyS23 tyZ31 (fillP1 _ _ _ _ _ _ _) (by decide) (by decide) rfl ?_
   intro g27 w6 hN27
   replace ha := ha.gr hN27.mod
   replace hb := hb.gr hN27.mod
   replace hn3 := hn3.gr hN27.mod
   replace hd3 := hd3.gr hN27.mod
   replace hb5 := Blk.gr hb5 hN27.mod
   replace ho := own_gr ho hN27.mod (by simp)
   replace hl := hl.gr hN27.mod
   replace hbd := hbd.gr hN27.mod
   replace hm0 := hm0.trans hN27.mod
   replace hn19 := hn19.gr hN27.mod
   replace hd19 := hd19.gr hN27.mod
   replace hn24 := hn24.gr hN27.mod
   replace hd24 := hd24.gr hN27.mod
   replace hn25 := hn25.gr hN27.mod
   replace hd25 := hd25.gr hN27.mod
   replace hn26 := hn26.gr hN27.mod
   replace hd26 := hd26.gr hN27.mod
   replace hS1 := hS1.trans (hN27.mod.mono (by simp))
   have hrow : Sl [] w6 3 (.slice (some ⟨g27, 0, none⟩) 1 1) 1 [.bool (decide ((z19 - x * z24).num < 0)), .slice A26 (toL (z19 - x * z24).num.natAbs).length c26, .slice B26 (toL (z19 - x * z24).den).length e26] := Sl.of_blk hN27.blk 0 (Nat.le_refl _) (by decide) rfl (by simp) (fun j hj => by simp)
   clear hN27
   refine L.nil (hX _ _ ⟨.inr hS1, ?_⟩)
   refine D.one 13 rfl (by decide +kernel) (fun hX => ?_)
   refine L.append rfl rfl ho hrow (by intro c hc; simp only [List.mem_cons, List.not_mem_nil, or_false] at hc; rcases hc with rfl | rfl | rfl <;> rfl) tyS23 tyZ31 (by omega) (by unfold maxLen; omega) hm0.size rfl ?_
   intro v28 w7 ho28' hG28
   replace ha := ha.grew2 hG28 (by first | exact mem_own | (intro b hb; simp [hb]))
   replace hb := hb.grew2 hG28 (by first | exact mem_own | (intro b hb; simp [hb]))
   replace hn3 := hn3.grew2 hG28 (by first | exact mem_own | (intro b hb; simp [hb]))
   replace hd3 := hd3.grew2 hG28 (by first | exact mem_own | (intro b hb; simp [hb]))
   have hnn_g5 := hG28.ne hno_ho_g5 hb5
   replace hb5 := Blk.grew hb5 hG28 hno_ho_g5
   replace hno_ho_g5 := hnn_g5
   replace hl := hl.grew2 hG28 (by first | exact mem_own | (intro b hb; simp [hb]))
   replace hbd := hbd.grew2 hG28 (by first | exact mem_own | (intro b hb; simp [hb]))
   replace hm0 := Mod.oldOwn hm0 hG28.mod ho
   replace hn19 := hn19.grew2 hG28 (by first | exact mem_own | (intro b hb; simp [hb]))
   replace hd19 := hd19.grew2 hG28 (by first | exact mem_own | (intro b hb; simp [hb]))
   replace hn24 := hn24.grew2 hG28 (by first | exact mem_own | (intro b hb; simp [hb]))
   replace hd24 := hd24.grew2 hG28 (by first | exact mem_own | (intro b hb; simp [hb]))
   replace hn25 := hn25.grew2 hG28 (by first | exact mem_own | (intro b hb; simp [hb]))
   replace hd25 := hd25.grew2 hG28 (by first | exact mem_own | (intro b hb; simp [hb]))
   replace hn26 := hn26.grew2 hG28 (by first | exact mem_own | (intro b hb; simp [hb]))
   replace hd26 := hd26.grew2 hG28 (by first | exact mem_own | (intro b hb; simp [hb]))
   replace ho := ho28'; clear ho28'
   replace hS1 := hS1.trans hG28.mod
   clear hG28
   refine L.nil (hX _ _ ⟨.inr hS1, ?_⟩)
   refine D.take 14 rfl (by decide +kernel) (fun w_ hS => (R1.assign rfl)) hS1 rfl <| D.done (by decide +kernel) ?_ _
   refine X.blockEnd <| X.seq <| W.region <| L.v (R1.move rfl) rfl <| L.v (R1.addI (b := 1) rfl rfl (by omega)) rfl <| L.v (R1.assign rfl) rfl <| L.nil <| X.next (i + 1, v28, css ++ [[.bool (decide ((z19 - x * z24).num < 0)), .slice A26 (toL (z19 - x * z24).num.natAbs).length c26, .slice B26 (toL (z19 - x * z24).den).length e26]]) ?_ ?_ ?_
   · exact ⟨rfl, rfl, rfl, rfl, rfl, trivial⟩
   ·
    have htk2 : ((lessD a b x).take (i + 1)).length = i + 1 := by rw [List.length_take]; omega
    exact ⟨ha.sub (by intro b hb; first | exact hb | (simp only [mq] at hb ⊢; grind)), hb.sub (by intro b hb; first | exact hb | (simp only [mq] at hb ⊢; grind)), hn3.sub (by intro b hb; first | exact hb | (simp only [mq] at hb ⊢; grind)), hd3.sub (by intro b hb; first | exact hb | (simp only [mq] at hb ⊢; grind)), hb5, hno_ho_g5, own_congr ho (by omega) (by simp), by rw [← lessD_snoc hz19 hz24]; exact (hl.sub (by intro b hb; first | exact hb | (simp only [mq] at hb ⊢; grind))).append (LayL.one _ (z19 - x * z24) ⟨_, _, _, _, rfl, hn26.sub (by intro b hb; first | exact hb | (simp only [mq] at hb ⊢; grind)), hd26.sub (by intro b hb; first | exact hb | (simp only [mq] at hb ⊢; grind))⟩), hbd.sub (by intro b hb; first | exact hb | (simp only [mq] at hb ⊢; grind)), hm0, by omega⟩
   · first | omega | (dsimp only; omega)
  ·
   intro hc12
   try simp only [bq, ne_eq] at hc12
   obtain rfl : i = a.length := by omega
   rw [← hll, List.take_length] at ho hl
   refine W.exit <| X.thenExit <| X.nextExit <| X.here <| X.seq <| W.seq <| W.region <| L.v (R1.move rfl) rfl <| L.v (R1.assign rfl) rfl <| L.nil <| X.seq ?_
   refine W.ret <| X.result1 rfl (.tmp rfl .nil) ?_
   exact ⟨css, ho, hl.sub (by intro b hb; first | exact hb | (simp only [mq] at hb ⊢; grind)), hm0⟩


theorem c_lessR {M N1 N2 N3 : List Nat} {w : World} {va vb vx : Value} {a b : List Rat} {x : Rat} (ha : Lay rdP N1 w va a) (hb : Lay rdP N2 w vb b) (hx : RN N3 w vx x) (hbd : Bd M w) (fa : FitL a) (fb : FitL b) (fx : Fit x 17179869184) (hab : b.length = a.length) (hal : a.length ≤ 65) :
    Ret Try.prog 57 #[va, vb, vx] w (fun r w' => Lay rdP M w' r (lessD a b x) ∧ Mod [] w w') :=
  (c_lessD ha hb hx hbd fa fb fx hab hal).mono fun r w' ⟨css, h1, h2, h3⟩ => ⟨own_lay hbd h1 h2 (fun g hg => List.mem_append.2 (.inr hg)), h3⟩

theorem c_lead {M N1 : List Nat} {w : World} {va : Value} {a : List Rat} (ha : Lay rdP N1 w va a) (hbd : Bd M w) (fa : FitL a) (hal : a.length ≤ 65) (ha0 : 0 < a.length) :
    Ret Try.prog 55 #[va] w (fun r w' => r = .int .i64 ((leadD a : Nat) : Int) ∧ Mod [] w w') := by
 obtain ⟨TA, tA, rfl⟩ := ha.form
 refine Ret.of (vs := [.slice TA a.length tA]) (n := 19) Try.func55 rfl rfl rfl rfl ?_
 have hm0 : Mod [] w w := Mod.refl _ _
 refine W.seq <| W.region <| L.v (R1.assign rfl) rfl <| L.nil <| X.seq <| W.seq <| W.region <| L.v (R1.assign rfl) rfl <| L.nil <| X.seq <| W.seq ?_
 refine W.block <| W.loop (ι := Nat) (fun i => [(0, .slice TA a.length tA), (3, .int .i64 (i : Int))]) (fun i w_ => Lay rdP N1 w_ (.slice TA a.length tA) a ∧ Bd M w_ ∧ Mod [] w w_ ∧ i < a.length ∧ (∀ j, j < i → a.getD j 0 = 0)) (fun i => a.length - i) 0 ?_ ?_ ?_
 · exact ⟨rfl, rfl, trivial⟩
 ·
  exact ⟨ha.sub (by intro b hb; first | exact hb | (simp only [mq] at hb ⊢; grind)), hbd.sub (by intro b hb; first | exact hb | (simp only [mq] at hb ⊢; grind)), hm0, ha0, (fun j hj => by omega)⟩
 ·
  rintro i w1 ⟨ha, hbd, hm0, hi, h0⟩
  refine W.seq <| W.seq <| W.region <| L.v (R1.move rfl) rfl <| L.v (R1.addI (b := 1) rfl rfl (by omega)) rfl <| L.v (R1.move rfl) rfl <| L.v (R1.lenLay rfl ha tyS23) rfl <| L.v ((R1.lt rfl rfl).asB (c := decide (i + 1 < a.length)) (by congr 1; apply propext; omega)) rfl <| L.v (R1.move rfl) rfl ?_
  cases hgd9 : decide (i + 1 < a.length)
  ·
   try simp only [bq, ne_eq] at hgd9
   refine L.off rfl rfl rfl rfl rfl <| L.off rfl rfl rfl rfl rfl <| L.off rfl rfl rfl rfl rfl <| L.off rfl rfl rfl rfl rfl <| L.off rfl rfl rfl rfl rfl <| L.v (R1.pickF rfl rfl) rfl <| L.nil <| X.seq <| W.condF rfl <| W.exit <| X.thenExit ?_
   refine X.nextExit <| X.here <| X.seq <| W.seq <| W.region <| L.v (R1.move rfl) rfl <| L.v (R1.assign rfl) rfl <| L.nil <| X.seq <| W.ret <| X.result1 rfl (.tmp rfl .nil) ?_
   have e9 : leadD a = i := lead_stop h0 hi (by first | exact .inl hgd9 | exact .inr (by rw [getD_of hz13]; exact hc15))
   exact ⟨by rw [e9], hm0⟩
  ·
   try simp only [bq, ne_eq] at hgd9
   refine L.on rfl rfl rfl (R1.move rfl) rfl <| L.on rfl rfl rfl (R1.move rfl) rfl <| L.on rfl rfl rfl (R1.atLay (j := i) rfl rfl ha tyS23 rfl (by omega)) rfl ?_
   obtain ⟨z13, cs13, hz13, hE13, A13, a13, B13, b13, rfl, hn13, hd13⟩ := Lay.elemQ ha (j := i) (by omega)
   refine L.on rfl rfl rfl (R1.loadE rfl hE13 tyG31) rfl <| L.callOn rfl rfl rfl rfl (c_ref2_Zero (q := z13) (rv_toL _) hn13 hd13 hbd (Nat.le_trans (fa _ (List.mem_of_getElem? hz13)).1 (by decide)) (Nat.le_trans (fa _ (List.mem_of_getElem? hz13)).2 (by decide))) rfl ?_
   rintro _ w2 ⟨rfl, hm2⟩
   replace ha := ha.gr hm2
   replace hbd := hbd.gr hm2
   replace hm0 := hm0.trans hm2
   clear hm2
   refine L.v (R1.pickT rfl rfl) rfl <| L.nil <| X.seq <| W.cond rfl ?_ ?_
   ·
    intro hc15
    try simp only [bq, ne_eq] at hc15
    refine W.skip <| X.seq <| W.block <| W.region <| L.v (R1.move rfl) rfl <| L.v (R1.addI (b := 1) rfl rfl (by omega)) rfl <| L.v (R1.assign rfl) rfl <| L.nil <| X.blockEnd <| X.next (i + 1) ?_ ?_ ?_
    · exact ⟨rfl, rfl, trivial⟩
    ·
     refine ⟨ha, hbd, hm0, by omega, fun j hj => ?_⟩
     rcases Nat.lt_or_ge j i with h9 | h9
     · exact h0 j h9
     · obtain rfl : j = i := by omega
       rw [getD_of hz13]; exact hc15
    · first | omega | (dsimp only; omega)
   ·
    intro hc15
    try simp only [bq, ne_eq] at hc15
    refine W.exit <| X.thenExit <| X.nextExit <| X.here <| X.seq <| W.seq <| W.region <| L.v (R1.move rfl) rfl <| L.v (R1.assign rfl) rfl <| L.nil <| X.seq ?_
    refine W.ret <| X.result1 rfl (.tmp rfl .nil) ?_
    have e9 : leadD a = i := lead_stop h0 hi (by first | exact .inl hgd9 | exact .inr (by rw [getD_of hz13]; exact hc15))
    exact ⟨by rw [e9], hm0⟩

set_option maxHeartbeats 1000000 in
theorem c_reduce {M N2 : List Nat} {w : World} {va vr : Value} {a : List Rat} {rs : List (List Rat)} {css : List (List Value)} {B : Nat} (hR : Lay (rdR rdP) (ownL va ++ N2) w vr rs) (ho : w.ownsRow B 31 3 va a.length css.flatten) (hl : LayL rdP (ownL va ++ M) w css a) (hB : B ≤ w.heap.size) (hbd : Bd (ownL va ++ M) w) (hal : 0 < a.length ∧ a.length ≤ 65) (ok : ∀ i, i ≤ rs.length → FitL (reduceD (rs.take i) a) ∧ (reduceD (rs.take i) a).length = a.length) (okr : ∀ r ∈ rs, FitL r ∧ r.length = a.length) (hrl : rs.length ≤ 64) :
    Ret Try.prog 53 #[vr, va] w (fun r w' => ∃ css', w'.ownsRow B 31 3 r (reduceD rs a).length css'.flatten ∧ LayL rdP (ownL r ++ M) w' css' (reduceD rs a) ∧ Mod [] w w') := by
 obtain ⟨TR, tR, rfl⟩ := hR.form
 refine Ret.of (vs := [.slice TR rs.length tR, va]) (n := 35) Try.func53 rfl rfl rfl rfl ?_
 have hm0 : Mod [] w w := Mod.refl _ _
 refine W.seq <| W.region <| L.v (R1.assign rfl) rfl <| L.nil <| X.seq <| W.seq <| W.seq <| W.region <| L.v (R1.assign rfl) rfl <| L.nil <| X.seq ?_
 refine W.block <| W.loop (ι := Nat × Value × List (List Value) × List Rat) (fun (i, u, css, d) => [(0, .slice TR rs.length tR), (1, u), (5, .int .i64 (i : Int))]) (fun (i, u, css, d) w_ => Lay (rdR rdP) (ownL u ++ N2) w_ (.slice TR rs.length tR) rs ∧ w_.ownsRow B 31 3 u d.length css.flatten ∧ LayL rdP (ownL u ++ M) w_ css d ∧ Bd (ownL u ++ M) w_ ∧ Mod [] w w_ ∧ i ≤ rs.length ∧ d = (reduceD (rs.take i) a)) (fun (i, u, css, d) => rs.length - i) (0, va, css, a) ?_ ?_ ?_
 · exact ⟨rfl, rfl, rfl, trivial⟩
 ·
  exact ⟨hR.sub (by intro b hb; first | exact hb | (simp only [mq] at hb ⊢; grind)), ho, hl.sub (by intro b hb; first | exact hb | (simp only [mq] at hb ⊢; grind)), hbd.sub (by intro b hb; first | exact hb | (simp only [mq] at hb ⊢; grind)), hm0, Nat.zero_le _, rfl⟩
 ·
  rintro ⟨i, u, css, d⟩ w1 ⟨hR, ho, hl, hbd, hm0, hi, hd⟩
  obtain ⟨hfd, hdl⟩ := ok i hi
  rw [← hd] at hfd hdl
  refine W.seq <| W.seq <| W.region <| L.v (R1.move rfl) rfl <| L.v (R1.move rfl) rfl <| L.v (R1.lenLay rfl hR tyS63) rfl <| L.v (R1.lt rfl rfl) rfl <| L.nil <| X.seq <| W.cond rfl ?_ ?_
  ·
   intro hc10
   try simp only [bq, ne_eq] at hc10
   refine W.skip <| X.seq <| W.seq <| W.block <| W.seq <| W.region <| L.v (R1.move rfl) rfl <| L.v (R1.move rfl) rfl <| L.v (R1.atLay (j := i) rfl rfl hR tyS63 rfl (by omega)) rfl ?_
   obtain ⟨z16, cs16, hz16, hE16, v16, rfl, hl16⟩ := Lay.elemQ hR (j := i) (by omega)
   obtain ⟨A16, a16, rfl⟩ := hl16.form
   refine L.v (R1.loadE1 rfl hE16 tyP23) rfl <| L.call rfl (c_lead hl16 hbd (okr _ (List.mem_of_getElem? hz16)).1 (by have h9 := (okr _ (List.mem_of_getElem? hz16)).2; omega) (by have h9 := (okr _ (List.mem_of_getElem? hz16)).2; omega)) rfl ?_
   rintro _ w2 ⟨rfl, hm2⟩
   replace hR := hR.gr hm2
   replace ho := own_gr ho hm2 (by simp)
   replace hl := hl.gr hm2
   replace hbd := hbd.gr hm2
   replace hm0 := hm0.trans hm2
   clear hm2
   refine L.v (R1.assign rfl) rfl <| L.nil <| X.seq <| W.seq ?_
   have hkl : leadD z16 < d.length := by
     have h8 := (okr _ (List.mem_of_getElem? hz16)).2
     have h9 := (leadD_spec (l := z16) (by intro e; rw [e] at h8; simp at h8; omega)).1
     omega
   refine W.region <| L.v (R1.move rfl) rfl <| L.v (R1.move rfl) rfl <| L.v (R1.atOwn (i := (leadD z16)) rfl rfl ho tyS23 rfl hkl) rfl ?_
   obtain ⟨z21, cs21, hz21, hE21, A21, a21, B21, b21, rfl, hn21, hd21⟩ := own_elemQ ho rfl hl (j := (leadD z16)) hkl
   refine L.v (R1.loadE rfl hE21 tyG31) rfl <| L.call rfl (c_ref2_Zero (q := z21) (rv_toL _) hn21 hd21 hbd (Nat.le_trans (hfd _ (List.mem_of_getElem? hz21)).1 (by decide)) (Nat.le_trans (hfd _ (List.mem_of_getElem? hz21)).2 (by decide))) rfl ?_
   rintro _ w3 ⟨rfl, hm3⟩
   replace hR := hR.gr hm3
   replace ho := own_gr ho hm3 (by simp)
   replace hl := hl.gr hm3
   replace hbd := hbd.gr hm3
   replace hm0 := hm0.trans hm3
   clear hm3
   refine L.v (R1.not rfl) rfl <| L.nil <| X.seq <| W.cond rfl ?_ ?_
   ·
    intro hc23
    simp only [Bool.not_eq_true', Bool.not_eq_false', decide_eq_true_eq, decide_eq_false_iff_not] at hc23
    refine W.drawW (T := [9, 10]) rfl (by decide +kernel) (NoHang.block (NoHang.then (NoHang.next (NoHang.block (NoHang.then NoHang.post))))) (fun w4 hm4 => ?_)
    replace hR := hR.gr hm4
    replace ho := own_gr ho hm4 (by simp)
    replace hl := hl.gr hm4
    replace hbd := hbd.gr hm4
    replace hm0 := hm0.trans hm4
    have hS1 : Mod [] w4 w4 := Mod.refl _ _
    clear hm4
    refine D.take 0 rfl (by decide +kernel) (fun w_ hS => (R1.move rfl)) hS1 rfl <| D.take 1 rfl (by decide +kernel) (fun w_ hS => (R1.move rfl)) hS1 rfl <| D.take 2 rfl (by decide +kernel) (fun w_ hS => (R1.move rfl)) hS1 rfl <| D.take 3 rfl (by decide +kernel) (fun w_ hS => (R1.atLay (j := i) rfl rfl (Lay.gr hR hS) tyS63 rfl (by omega))) hS1 rfl ?_
    obtain ⟨z28, cs28, hz28, hE28, v28, rfl, hl28⟩ := Lay.elemQ hR (j := i) (by omega)
    obtain ⟨A28, a28, rfl⟩ := hl28.form
    obtain rfl : z16 = z28 := by have h9 := hz28; rw [hz16] at h9; injection h9
    refine D.take 4 rfl (by decide +kernel) (fun w_ hS => (R1.loadE1 rfl (SlE.gr hE28 hS) tyP23)) hS1 rfl <| D.take 5 rfl (by decide +kernel) (fun w_ hS => (R1.move rfl)) hS1 rfl <| D.take 6 rfl (by decide +kernel) (fun w_ hS => (R1.move rfl)) hS1 rfl <| D.take 7 rfl (by decide +kernel) (fun w_ hS => (R1.atOwn (i := (leadD z16)) rfl rfl (own_gr ho hS (by simp)) tyS23 rfl hkl)) hS1 rfl ?_
    obtain ⟨z32, cs32, hz32, hE32, A32, a32, B32, b32, rfl, hn32, hd32⟩ := own_elemQ ho rfl hl (j := (leadD z16)) hkl
    refine D.take 8 rfl (by decide +kernel) (fun w_ hS => (R1.loadE rfl (SlE.gr hE32 hS) tyG31)) hS1 rfl <| D.one 9 rfl (by decide +kernel) (fun hX => ?_)
    refine L.call rfl (c_lessD (M := M) (own_read ho hl) hl28 ⟨_, _, _, _, rfl, hn32, hd32⟩ (hbd.sub (by intro b hb; first | exact hb | (simp only [mq] at hb ⊢; grind))) hfd (okr _ (List.mem_of_getElem? hz16)).1 (hfd _ (List.mem_of_getElem? hz32)) (by have h9 := (okr _ (List.mem_of_getElem? hz16)).2; omega) (by omega)) rfl ?_
    rintro v33 w5 ⟨css2, ho2, hl2, hmX⟩
    have hB2 := Nat.le_trans hB hm0.size
    have hR2 := hR.ownd ho2 hmX
    have hbd2 := (hbd.sub (M' := M) (by intro b hb; first | exact hb | (simp only [mq] at hb ⊢; grind))).ownd ho2 hmX
    replace hm0 := hm0.trans hmX
    replace ho2 := own_less ho2 hB2
    refine L.nil (hX _ _ ⟨.inl rfl, ?_⟩)
    refine D.one 10 rfl (by decide +kernel) (fun hX => ?_)
    refine L.v (R1.assign rfl) rfl (L.nil (hX _ _ ⟨.inl rfl, ?_⟩))
    refine D.done (by decide +kernel) ?_ _
    refine X.blockEnd <| X.seq <| W.region <| L.v (R1.move rfl) rfl <| L.v (R1.addI (b := 1) rfl rfl (by omega)) rfl <| L.v (R1.assign rfl) rfl <| L.nil <| X.next (i + 1, v33, css2, lessD d z16 z32) ?_ ?_ ?_
    · exact ⟨rfl, rfl, rfl, trivial⟩
    ·
     exact ⟨hR2.sub (by intro b hb; first | exact hb | (simp only [mq] at hb ⊢; grind)), ho2, hl2, hbd2, hm0, by omega, by rw [reduceD_snoc hz16, ← hd, getD_of hz32, if_neg (by rw [hz32] at hz21; injection hz21 with h9; rw [h9]; exact hc23)]⟩
    · first | omega | (dsimp only; omega)
   ·
    intro hc23
    simp only [Bool.not_eq_true', Bool.not_eq_false', decide_eq_true_eq, decide_eq_false_iff_not] at hc23
    refine W.skip <| X.blockEnd <| X.seq <| W.region <| L.v (R1.move rfl) rfl <| L.v (R1.addI (b := 1) rfl rfl (by omega)) rfl <| L.v (R1.assign rfl) rfl <| L.nil <| X.next (i + 1, u, css, d) ?_ ?_ ?_
    · exact ⟨rfl, rfl, rfl, trivial⟩
    ·
     exact ⟨hR.sub (by intro b hb; first | exact hb | (simp only [mq] at hb ⊢; grind)), ho, hl.sub (by intro b hb; first | exact hb | (simp only [mq] at hb ⊢; grind)), hbd.sub (by intro b hb; first | exact hb | (simp only [mq] at hb ⊢; grind)), hm0, by omega, by rw [reduceD_snoc hz16, ← hd, getD_of hz21, if_pos hc23]⟩
    · first | omega | (dsimp only; omega)
  ·
   intro hc10
   try simp only [bq, ne_eq] at hc10
   obtain rfl : i = rs.length := by omega
   rw [List.take_length] at hd
   refine W.exit <| X.thenExit <| X.nextExit <| X.here <| X.seq <| W.seq <| W.region <| L.v (R1.move rfl) rfl <| L.v (R1.assign rfl) rfl <| L.nil <| X.seq ?_
   refine W.ret <| X.result1 rfl (.tmp rfl .nil) ?_
   rw [← hd]
   exact ⟨css, ho, hl.sub (by intro b hb; first | exact hb | (simp only [mq] at hb ⊢; grind)), hm0⟩

end Go.Proofs.Ytpnhihljgkohcaa
