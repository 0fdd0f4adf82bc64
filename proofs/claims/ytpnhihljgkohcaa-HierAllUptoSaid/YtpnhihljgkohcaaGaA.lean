/- Walks: what the functions compute. -/
import Derived.Test.YtpnhihljgkohcaaAffB
namespace Go.Proofs.Ytpnhihljgkohcaa
open Go.RowKit
set_option linter.unusedVariables false
set_option linter.unusedSimpArgs false
set_option maxRecDepth 10000

def heldG (z : Int) : Nat := (min (max z 0) 64).toNat
/-- A sum that may be added to, scaled, and so on: its numbers are not too large. -/
structure OkT (c : Ts × Rat) : Prop where
  nice : Nice c.1
  fit : ∀ x ∈ c.1, Fit x.2 17179869184
  fk : Fit c.2 17179869184
  len : c.1.length ≤ 17179869184
theorem lessT_yes {l row rest : Ts} {k rk : Rat} {f z : Nat × Rat} {i : Nat} (hN : Nice l) (hz : l[i]? = some z) (he : z.1 = f.1) (hrow : row = f :: rest) : lessT l k row rk = (addT l (scaleT row ((-z.2) / f.2)), k + rk * ((-z.2) / f.2)) := by
  have h1 := hN.coef_mem (List.mem_of_getElem? hz)
  have h2 := hN.ne z (List.mem_of_getElem? hz)
  subst hrow
  unfold lessT
  simp only
  rw [← he, h1, if_neg h2]
theorem lessT_no {l row rest : Ts} {k rk : Rat} {f : Nat × Rat} (hn : ∀ s ∈ l, s.1 ≠ f.1) (hrow : row = f :: rest) : lessT l k row rk = (l, k) := by
  subst hrow
  unfold lessT
  simp only
  rw [coef_none hn, if_pos rfl]
theorem take_all {α : Type} {P : α → Prop} {l : List α} {i : Nat} {z : α} (hz : l[i]? = some z) (h : ∀ s ∈ l.take i, P s) (h2 : P z) : ∀ s ∈ l.take (i + 1), P s := fun s hs => by
  obtain ⟨hi, rfl⟩ := List.getElem?_eq_some_iff.1 hz
  rw [List.take_succ_eq_append_getElem hi] at hs
  rcases List.mem_append.1 hs with h3 | h3
  · exact h s h3
  · rw [List.mem_singleton.1 h3]; exact h2
theorem leftT_snoc {rs : List (Ts × Rat)} {i : Nat} {z : Ts × Rat} (hz : rs[i]? = some z) (c : Ts × Rat) : leftT (rs.take (i + 1)) c = lessT (leftT (rs.take i) c).1 (leftT (rs.take i) c).2 z.1 z.2 := by
  have happ : ∀ (a b : List (Ts × Rat)) (c : Ts × Rat), leftT (a ++ b) c = leftT b (leftT a c) := by
    intro a
    induction a with
    | nil => intro b c; rfl
    | cons r a ih => intro b c; simp only [List.cons_append, leftT]; rw [ih]
  obtain ⟨hi, rfl⟩ := List.getElem?_eq_some_iff.1 hz
  rw [List.take_succ_eq_append_getElem hi, happ]; rfl
/-- The rows of which the first ones are less a new one. -/
def updT (rs : List (Ts × Rat)) (d : Ts × Rat) (i : Nat) : List (Ts × Rat) := (rs.take i).map (fun r => lessT r.1 r.2 d.1 d.2) ++ rs.drop i
theorem updT_length (rs : List (Ts × Rat)) (d : Ts × Rat) (i : Nat) : (updT rs d i).length = rs.length := by unfold updT; simp; omega
theorem updT_get {rs : List (Ts × Rat)} {d : Ts × Rat} {i : Nat} (hi : i < rs.length) : (updT rs d i)[i]? = rs[i]? := by
  unfold updT
  rw [List.getElem?_append_right (by simp; omega), List.getElem?_drop]
  congr 1; simp; omega
theorem updT_set {rs : List (Ts × Rat)} {d : Ts × Rat} {i : Nat} {z : Ts × Rat} (hz : rs[i]? = some z) : (updT rs d i).set i (lessT z.1 z.2 d.1 d.2) = updT rs d (i + 1) := by
  obtain ⟨hi, rfl⟩ := List.getElem?_eq_some_iff.1 hz
  unfold updT
  have h1 : ((rs.take i).map (fun r => lessT r.1 r.2 d.1 d.2)).length = i := by simp; omega
  rw [List.set_append_right _ _ (by omega), h1, Nat.sub_self, List.drop_eq_getElem_cons hi, List.set_cons_zero, List.take_succ_eq_append_getElem hi, List.map_append]
  simp
theorem updT_all (rs : List (Ts × Rat)) (d : Ts × Rat) : updT rs d rs.length = rs.map fun r => lessT r.1 r.2 d.1 d.2 := by unfold updT; simp
theorem own_read {α : Type} {R : Rd α} {N : List Nat} {w : World} {B el : Nat} {v : Value} {xs : List α} {css : List (List Value)} (h : w.ownsRow B el R.size v xs.length css.flatten) (hl : LayL R N w css xs) : Lay R [] w v xs := Lay.of_own h (hl.sub (by simp)) (by simp)

set_option maxHeartbeats 1000000 in
theorem c_less {M N2 : List Nat} {w : World} {va vb : Value} {l row : Ts} {k rk : Rat} (ha : RK M w va l k) (hb : RK N2 w vb row rk) (hbd : Bd M w) (oc : OkT (l, k)) (orr : OkT (row, rk)) {f : Nat × Rat} {rest : Ts} (hrow : row = f :: rest) :
    Ret Try.prog 81 #[va, vb] w (fun r w' => RK M w' r (lessT l k row rk).1 (lessT l k row rk).2 ∧ Mod [] w w') := by
 obtain ⟨s1, T1, t1, A1, c1, B1, e1, rfl, ht1, hn1, hd1⟩ := ha
 obtain ⟨s2, T2, t2, A2, c2, B2, e2, rfl, ht2, hn2, hd2⟩ := hb
 have fl := oc.fit; have fk := oc.fk; have fr := orr.fit; have frk := orr.fk
 have hll := oc.len
 simp only at fl fk fr frk hll
 have hlr : 0 < row.length := by rw [hrow]; simp
 refine Ret.of (vs := [.agg #[.int .i64 s1, .slice T1 l.length t1, .bool (decide (k.num < 0)), .slice A1 (toL k.num.natAbs).length c1, .slice B1 (toL k.den).length e1], .agg #[.int .i64 s2, .slice T2 row.length t2, .bool (decide (rk.num < 0)), .slice A2 (toL rk.num.natAbs).length c2, .slice B2 (toL rk.den).length e2]]) (n := 42) Try.func81 rfl rfl rfl rfl ?_
 have hm0 : Mod [] w w := Mod.refl _ _
 refine W.seq <| W.region <| L.box rfl rfl ?_
 intro g2 w1 hN2
 replace ht1 := ht1.new hN2
 replace hn1 := hn1.new hN2
 replace hd1 := hd1.new hN2
 replace ht2 := ht2.new hN2
 replace hn2 := hn2.new hN2
 replace hd2 := hd2.new hN2
 replace hbd := hbd.new hN2
 replace hm0 := hm0.trans (hN2.mod.mono (by simp))
 have hb2 := hN2.blk
 clear hN2
 refine L.box rfl rfl ?_
 intro g3 w2 hN3
 replace ht1 := ht1.new hN3
 replace hn1 := hn1.new hN3
 replace hd1 := hd1.new hN3
 replace ht2 := ht2.new hN3
 replace hn2 := hn2.new hN3
 replace hd2 := hd2.new hN3
 replace hbd := hbd.new hN3
 replace hm0 := hm0.trans (hN3.mod.mono (by simp))
 replace hb2 := Blk.gr hb2 hN3.mod
 have hb3 := hN3.blk
 clear hN3
 refine L.alloc tyZ33 rfl ?_
 intro g4 w3 hN4
 replace ht1 := ht1.new hN4
 replace hn1 := hn1.new hN4
 replace hd1 := hd1.new hN4
 replace ht2 := ht2.new hN4
 replace hn2 := hn2.new hN4
 replace hd2 := hd2.new hN4
 replace hbd := hbd.new hN4
 have hge_g4 := New.ge hN4 hm0.size
 replace hm0 := hm0.trans (hN4.mod.mono (by simp))
 have hne_g2_g4 := hb2.ne_ hN4
 replace hb2 := Blk.gr hb2 hN4.mod
 have hne_g3_g4 := hb3.ne_ hN4
 replace hb3 := Blk.gr hb3 hN4.mod
 have hb4 := hN4.blk
 clear hN4
 refine L.nil <| X.seq <| W.seq <| W.region <| L.v (R1.fieldAt rfl tyF33_1) rfl <| L.v (R1.loadFld rfl hb3 rfl tyP28) rfl <| L.v (R1.atLay (j := 0) rfl rfl ht2 tyS28 rfl hlr) rfl ?_
 obtain ⟨z13, cs13, hz13, hE13, A13, a13, B13, b13, rfl, hn13, hd13⟩ := Lay.elemQ ht2 (j := 0) hlr
 obtain rfl : f = z13 := by rw [hrow] at hz13; simpa using hz13
 refine L.v (R1.loadE rfl hE13 tyG46) rfl <| L.alloc tyZ46 rfl ?_
 intro g5 w4 hN5
 replace ht1 := ht1.new hN5
 replace hn1 := hn1.new hN5
 replace hd1 := hd1.new hN5
 replace ht2 := ht2.new hN5
 replace hn2 := hn2.new hN5
 replace hd2 := hd2.new hN5
 replace hbd := hbd.new hN5
 have hge_g5 := New.ge hN5 hm0.size
 replace hm0 := hm0.trans (hN5.mod.mono (by simp))
 have hne_g2_g5 := hb2.ne_ hN5
 replace hb2 := Blk.gr hb2 hN5.mod
 have hne_g3_g5 := hb3.ne_ hN5
 replace hb3 := Blk.gr hb3 hN5.mod
 have hne_g4_g5 := hb4.ne_ hN5
 replace hb4 := Blk.gr hb4 hN5.mod
 replace hn13 := hn13.new hN5
 replace hd13 := hd13.new hN5
 have hb5 := hN5.blk
 clear hN5
 refine L.storeBox rfl rfl hb5 rfl rfl tyG46 ?_
 intro w5 hb5' hm5
 replace ht1 := ht1.mod hm5 (by simp)
 replace hn1 := hn1.mod hm5 (by simp)
 replace hd1 := hd1.mod hm5 (by simp)
 replace ht2 := ht2.mod hm5 (by simp)
 replace hn2 := hn2.mod hm5 (by simp)
 replace hd2 := hd2.mod hm5 (by simp)
 replace hbd := hbd.gr hm5
 replace hm0 := hm0.old1 hm5 hge_g5
 replace hb2 := Blk.far hb2 hm5 (by first | exact hne_g2_g5 | exact (hne_g5_g2).symm)
 replace hb3 := Blk.far hb3 hm5 (by first | exact hne_g3_g5 | exact (hne_g5_g3).symm)
 replace hb4 := Blk.far hb4 hm5 (by first | exact hne_g4_g5 | exact (hne_g5_g4).symm)
 replace hn13 := hn13.mod hm5 (by simp)
 replace hd13 := hd13.mod hm5 (by simp)
 clear hm5
 replace hb5 := hb5'; clear hb5'
 refine L.nil <| X.seq <| W.seq <| W.seq <| W.region <| L.v (R1.fieldAt rfl tyF33_1) rfl <| L.v (R1.loadFld rfl hb2 rfl tyP28) rfl <| L.v (R1.lenLay rfl ht1 tyS28) rfl <| L.v (R1.move rfl) rfl <| L.nil <| X.seq ?_
 refine W.block <| W.loop (ι := Nat) (fun i => [(2, .pointer (some ⟨g2, 0, none⟩)), (3, .pointer (some ⟨g3, 0, none⟩)), (4, .pointer (some ⟨g4, 0, none⟩)), (5, .pointer (some ⟨g5, 0, none⟩)), (15, .slice T1 l.length t1), (16, .int .i64 (l.length : Int)), (17, .int .i64 (i : Int))]) (fun i w_ => Lay rdN (g4 :: M) w_ (.slice T1 l.length t1) l ∧ U32 (g4 :: M) w_ (.slice A1 (toL k.num.natAbs).length c1) (toL k.num.natAbs) ∧ U32 (g4 :: M) w_ (.slice B1 (toL k.den).length e1) (toL k.den) ∧ Lay rdN (g4 :: N2) w_ (.slice T2 row.length t2) row ∧ U32 (g4 :: N2) w_ (.slice A2 (toL rk.num.natAbs).length c2) (toL rk.num.natAbs) ∧ U32 (g4 :: N2) w_ (.slice B2 (toL rk.den).length e2) (toL rk.den) ∧ Blk w_ g2 33 #[.int .i64 s1, .slice T1 l.length t1, .bool (decide (k.num < 0)), .slice A1 (toL k.num.natAbs).length c1, .slice B1 (toL k.den).length e1] ∧ Blk w_ g3 33 #[.int .i64 s2, .slice T2 row.length t2, .bool (decide (rk.num < 0)), .slice A2 (toL rk.num.natAbs).length c2, .slice B2 (toL rk.den).length e2] ∧ Blk w_ g4 33 #[.int .i64 0, .slice none 0 0, .bool false, .slice none 0 0, .slice none 0 0] ∧ g2 ≠ g4 ∧ g3 ≠ g4 ∧ w.heap.size ≤ g4 ∧ Bd (g4 :: M) w_ ∧ Mod [] w w_ ∧ U32 (g4 :: N2) w_ (.slice A13 (toL f.2.num.natAbs).length a13) (toL f.2.num.natAbs) ∧ U32 (g4 :: N2) w_ (.slice B13 (toL f.2.den).length b13) (toL f.2.den) ∧ Blk w_ g5 46 #[.int .i64 (f.1 : Int), .bool (decide (f.2.num < 0)), .slice A13 (toL f.2.num.natAbs).length a13, .slice B13 (toL f.2.den).length b13] ∧ g4 ≠ g5 ∧ i ≤ l.length ∧ (∀ s ∈ l.take i, s.1 ≠ f.1)) (fun i => l.length - i) 0 ?_ ?_ ?_
 · exact ⟨rfl, rfl, rfl, rfl, rfl, rfl, rfl, trivial⟩
 ·
  exact ⟨ht1.sub (by intro b hb; first | exact hb | (simp only [mq] at hb ⊢; grind)), hn1.sub (by intro b hb; first | exact hb | (simp only [mq] at hb ⊢; grind)), hd1.sub (by intro b hb; first | exact hb | (simp only [mq] at hb ⊢; grind)), ht2.sub (by intro b hb; first | exact hb | (simp only [mq] at hb ⊢; grind)), hn2.sub (by intro b hb; first | exact hb | (simp only [mq] at hb ⊢; grind)), hd2.sub (by intro b hb; first | exact hb | (simp only [mq] at hb ⊢; grind)), hb2, hb3, hb4, hne_g2_g4, hne_g3_g4, hge_g4, hbd.sub (by intro b hb; first | exact hb | (simp only [mq] at hb ⊢; grind)), hm0, hn13.sub (by intro b hb; first | exact hb | (simp only [mq] at hb ⊢; grind)), hd13.sub (by intro b hb; first | exact hb | (simp only [mq] at hb ⊢; grind)), hb5, hne_g4_g5, Nat.zero_le _, (fun s hs => by cases hs)⟩
 ·
  rintro i w6 ⟨ht1, hn1, hd1, ht2, hn2, hd2, hb2, hb3, hb4, hne_g2_g4, hne_g3_g4, hge_g4, hbd, hm0, hn13, hd13, hb5, hne_g4_g5, hi, no⟩
  refine W.seq <| W.region <| L.v (R1.lt rfl rfl) rfl <| L.nil <| X.seq <| W.seq <| W.cond rfl ?_ ?_
  ·
   intro hc18
   try simp only [bq, ne_eq] at hc18
   refine W.skip <| X.seq <| W.seq <| W.block <| W.seq <| W.region <| L.v (R1.atLay (j := i) rfl rfl ht1 tyS28 rfl (by omega)) rfl ?_
   obtain ⟨z20, cs20, hz20, hE20, A20, a20, B20, b20, rfl, hn20, hd20⟩ := Lay.elemQ ht1 (j := i) (by omega)
   refine L.v (R1.loadE rfl hE20 tyG46) rfl <| L.alloc tyZ46 rfl ?_
   intro g7 w7 hN7
   replace ht1 := ht1.new hN7
   replace hn1 := hn1.new hN7
   replace hd1 := hd1.new hN7
   replace ht2 := ht2.new hN7
   replace hn2 := hn2.new hN7
   replace hd2 := hd2.new hN7
   have hne_g2_g7 := hb2.ne_ hN7
   replace hb2 := Blk.gr hb2 hN7.mod
   have hne_g3_g7 := hb3.ne_ hN7
   replace hb3 := Blk.gr hb3 hN7.mod
   have hne_g4_g7 := hb4.ne_ hN7
   replace hb4 := Blk.gr hb4 hN7.mod
   replace hbd := hbd.new hN7
   have hge_g7 := New.ge hN7 hm0.size
   replace hm0 := hm0.trans (hN7.mod.mono (by simp))
   replace hn13 := hn13.new hN7
   replace hd13 := hd13.new hN7
   have hne_g5_g7 := hb5.ne_ hN7
   replace hb5 := Blk.gr hb5 hN7.mod
   replace hn20 := hn20.new hN7
   replace hd20 := hd20.new hN7
   have hb7 := hN7.blk
   clear hN7
   refine L.storeBox rfl rfl hb7 rfl rfl tyG46 ?_
   intro w8 hb7' hm8
   replace ht1 := ht1.mod hm8 (by simp)
   replace hn1 := hn1.mod hm8 (by simp)
   replace hd1 := hd1.mod hm8 (by simp)
   replace ht2 := ht2.mod hm8 (by simp)
   replace hn2 := hn2.mod hm8 (by simp)
   replace hd2 := hd2.mod hm8 (by simp)
   replace hb2 := Blk.far hb2 hm8 (by first | exact hne_g2_g7 | exact (hne_g7_g2).symm)
   replace hb3 := Blk.far hb3 hm8 (by first | exact hne_g3_g7 | exact (hne_g7_g3).symm)
   replace hb4 := Blk.far hb4 hm8 (by first | exact hne_g4_g7 | exact (hne_g7_g4).symm)
   replace hbd := hbd.gr hm8
   replace hm0 := hm0.old1 hm8 hge_g7
   replace hn13 := hn13.mod hm8 (by simp)
   replace hd13 := hd13.mod hm8 (by simp)
   replace hb5 := Blk.far hb5 hm8 (by first | exact hne_g5_g7 | exact (hne_g7_g5).symm)
   replace hn20 := hn20.mod hm8 (by simp)
   replace hd20 := hd20.mod hm8 (by simp)
   clear hm8
   replace hb7 := hb7'; clear hb7'
   refine L.nil <| X.seq <| W.seq <| W.region <| L.v (R1.fieldAt rfl tyF46_0) rfl <| L.v (R1.loadFld rfl hb7 rfl tyP3) rfl <| L.v (R1.fieldAt rfl tyF46_0) rfl <| L.v (R1.loadFld rfl hb5 rfl tyP3) rfl <| L.v ((R1.eq rfl rfl).asB (c := decide (z20.1 = f.1)) (by congr 1; apply propext; omega)) rfl <| L.nil <| X.seq ?_
   refine W.cond rfl ?_ ?_
   ·
    intro hc25
    try simp only [bq, ne_eq] at hc25
    refine W.seq <| W.cut (ι := Option Addr × Nat × Option Addr × Nat × Nat) (fun (A32, c32, B32, e32, g8) => [(2, .pointer (some ⟨g2, 0, none⟩)), (3, .pointer (some ⟨g3, 0, none⟩)), (4, .pointer (some ⟨g4, 0, none⟩)), (8, .pointer (some ⟨g8, 0, none⟩))]) (fun (A32, c32, B32, e32, g8) w_ => Lay rdN (g4 :: M) w_ (.slice T1 l.length t1) l ∧ U32 (g4 :: M) w_ (.slice A1 (toL k.num.natAbs).length c1) (toL k.num.natAbs) ∧ U32 (g4 :: M) w_ (.slice B1 (toL k.den).length e1) (toL k.den) ∧ Lay rdN (g4 :: N2) w_ (.slice T2 row.length t2) row ∧ U32 (g4 :: N2) w_ (.slice A2 (toL rk.num.natAbs).length c2) (toL rk.num.natAbs) ∧ U32 (g4 :: N2) w_ (.slice B2 (toL rk.den).length e2) (toL rk.den) ∧ Blk w_ g2 33 #[.int .i64 s1, .slice T1 l.length t1, .bool (decide (k.num < 0)), .slice A1 (toL k.num.natAbs).length c1, .slice B1 (toL k.den).length e1] ∧ Blk w_ g3 33 #[.int .i64 s2, .slice T2 row.length t2, .bool (decide (rk.num < 0)), .slice A2 (toL rk.num.natAbs).length c2, .slice B2 (toL rk.den).length e2] ∧ Blk w_ g4 33 #[.int .i64 0, .slice none 0 0, .bool false, .slice none 0 0, .slice none 0 0] ∧ g2 ≠ g4 ∧ g3 ≠ g4 ∧ w.heap.size ≤ g4 ∧ Bd (g4 :: M) w_ ∧ Mod [] w w_ ∧ U32 (g4 :: M) w_ (.slice A32 (toL ((-z20.2) / f.2).num.natAbs).length c32) (toL ((-z20.2) / f.2).num.natAbs) ∧ U32 (g4 :: M) w_ (.slice B32 (toL ((-z20.2) / f.2).den).length e32) (toL ((-z20.2) / f.2).den) ∧ Blk w_ g8 31 #[.bool (decide (((-z20.2) / f.2).num < 0)), .slice A32 (toL ((-z20.2) / f.2).num.natAbs).length c32, .slice B32 (toL ((-z20.2) / f.2).den).length e32] ∧ g4 ≠ g8 ∧ Fit ((-z20.2) / f.2) (17179869184 + 17179869184)) ?_ ?_
    ·
     refine W.drawW (T := []) rfl (by decide +kernel) (NoHang.join (NoHang.then (NoHang.block (NoHang.then (NoHang.next (NoHang.block (NoHang.then NoHang.post))))))) (fun w9 hm9 => ?_)
     replace ht1 := ht1.gr hm9
     replace hn1 := hn1.gr hm9
     replace hd1 := hd1.gr hm9
     replace ht2 := ht2.gr hm9
     replace hn2 := hn2.gr hm9
     replace hd2 := hd2.gr hm9
     replace hb2 := Blk.gr hb2 hm9
     replace hb3 := Blk.gr hb3 hm9
     replace hb4 := Blk.gr hb4 hm9
     replace hbd := hbd.gr hm9
     replace hm0 := hm0.trans hm9
     replace hn13 := hn13.gr hm9
     replace hd13 := hd13.gr hm9
     replace hb5 := Blk.gr hb5 hm9
     replace hn20 := hn20.gr hm9
     replace hd20 := hd20.gr hm9
     replace hb7 := Blk.gr hb7 hm9
     have hS1 : Mod [] w9 w9 := Mod.refl _ _
     clear hm9
     have hb5_s := hb5
     have hb7_s := hb7
     refine D.take 0 rfl (by decide +kernel) (fun w_ hS => (R1.fieldAt rfl tyF46_1)) hS1 rfl <| D.take 1 rfl (by decide +kernel) (fun w_ hS => (R1.loadBoxAt (ds := [.bool (decide (z20.2.num < 0)), .slice A20 (toL z20.2.num.natAbs).length a20, .slice B20 (toL z20.2.den).length b20]) rfl (Blk.gr hb7_s hS) rfl tyG31)) hS1 rfl <| D.take 3 rfl (by decide +kernel) (fun w_ hS => (R1.fieldAt rfl tyF46_1)) hS1 rfl <| D.take 4 rfl (by decide +kernel) (fun w_ hS => (R1.loadBoxAt (ds := [.bool (decide (f.2.num < 0)), .slice A13 (toL f.2.num.natAbs).length a13, .slice B13 (toL f.2.den).length b13]) rfl (Blk.gr hb5_s hS) rfl tyG31)) hS1 rfl <| D.many (rs := [2, 9]) (by decide +kernel) rfl ?_
     intro i_ hi_
     simp only [List.mem_cons, List.not_mem_nil, or_false] at hi_
     rcases hi_ with rfl | rfl
     ·
      refine ⟨_, rfl, fun hX => ?_⟩
      refine L.call rfl (c_rat_Neg (q := z20.2) (rv_toL _) hn20 hd20 hbd (Nat.le_trans (fl _ (List.mem_of_getElem? hz20)).1 (by decide)) (Nat.le_trans (fl _ (List.mem_of_getElem? hz20)).2 (by decide))) rfl ?_
      rintro _ w10 ⟨⟨A29, c29, B29, e29, rfl, hn29, hd29⟩, hm10⟩
      replace ht1 := ht1.gr hm10
      replace hn1 := hn1.gr hm10
      replace hd1 := hd1.gr hm10
      replace ht2 := ht2.gr hm10
      replace hn2 := hn2.gr hm10
      replace hd2 := hd2.gr hm10
      replace hb2 := Blk.gr hb2 hm10
      replace hb3 := Blk.gr hb3 hm10
      replace hb4 := Blk.gr hb4 hm10
      replace hbd := hbd.gr hm10
      replace hm0 := hm0.trans hm10
      replace hn13 := hn13.gr hm10
      replace hd13 := hd13.gr hm10
      replace hS1 := hS1.trans hm10
      clear hm10
      have F29 := Fit.neg (fl _ (List.mem_of_getElem? hz20))
      refine L.nil (hX _ _ ⟨.inr hS1, ?_⟩)
      refine D.many (rs := [5, 9]) (by decide +kernel) rfl ?_
      intro i_ hi_
      simp only [List.mem_cons, List.not_mem_nil, or_false] at hi_
      rcases hi_ with rfl | rfl
      ·
       refine ⟨_, rfl, fun hX => ?_⟩
       refine L.call rfl (c_rat_Div (qa := (-z20.2)) (qb := f.2) (rv_toL _) (rv_toL _) hn29 hd29 hn13 hd13 hbd (Nat.le_trans F29.1 (by decide)) (Nat.le_trans F29.2 (by decide)) (Nat.le_trans (fr f (by rw [hrow]; simp)).1 (by decide)) (Nat.le_trans (fr f (by rw [hrow]; simp)).2 (by decide))) rfl ?_
       rintro _ w11 ⟨v32, rfl, ⟨A32, c32, B32, e32, rfl, hn32, hd32⟩, hm11⟩
       replace ht1 := ht1.gr hm11
       replace hn1 := hn1.gr hm11
       replace hd1 := hd1.gr hm11
       replace ht2 := ht2.gr hm11
       replace hn2 := hn2.gr hm11
       replace hd2 := hd2.gr hm11
       replace hb2 := Blk.gr hb2 hm11
       replace hb3 := Blk.gr hb3 hm11
       replace hb4 := Blk.gr hb4 hm11
       replace hbd := hbd.gr hm11
       replace hm0 := hm0.trans hm11
       replace hS1 := hS1.trans hm11
       clear hm11
       have F32 := Fit.div F29 (fr f (by rw [hrow]; simp)) (by decide)
       refine L.nil (hX _ _ ⟨.inr hS1, ?_⟩)
       refine D.take 6 rfl (by decide +kernel) (fun w_ hS => (R1.move rfl)) hS1 rfl <| D.take 7 rfl (by decide +kernel) (fun w_ hS => (R1.extract rfl rfl)) hS1 rfl <| D.take 8 rfl (by decide +kernel) (fun w_ hS => (R1.extract rfl rfl)) hS1 rfl <| D.one 9 rfl (by decide +kernel) (fun hX => ?_)
       refine L.alloc tyZ31 rfl ?_
       intro g8 w12 hN8
       have hgs_g8 := New.ge hN8 hS1.size
       replace hS1 := hS1.trans hN8.mod
       replace ht1 := ht1.new hN8
       replace hn1 := hn1.new hN8
       replace hd1 := hd1.new hN8
       replace ht2 := ht2.new hN8
       replace hn2 := hn2.new hN8
       replace hd2 := hd2.new hN8
       have hne_g2_g8 := hb2.ne_ hN8
       replace hb2 := Blk.gr hb2 hN8.mod
       have hne_g3_g8 := hb3.ne_ hN8
       replace hb3 := Blk.gr hb3 hN8.mod
       have hne_g4_g8 := hb4.ne_ hN8
       replace hb4 := Blk.gr hb4 hN8.mod
       replace hbd := hbd.new hN8
       have hge_g8 := New.ge hN8 hm0.size
       replace hm0 := hm0.trans (hN8.mod.mono (by simp))
       replace hn32 := hn32.new hN8
       replace hd32 := hd32.new hN8
       have hb8 := hN8.blk
       clear hN8
       refine L.nil (hX _ _ ⟨.inr hS1, ?_⟩)
       refine D.one 10 rfl (by decide +kernel) (fun hX => ?_)
       refine L.storeBox rfl rfl hb8 rfl rfl tyG31 ?_
       intro w13 hb8' hm13
       replace hS1 := hS1.old1 hm13 hgs_g8
       replace ht1 := ht1.mod hm13 (by simp)
       replace hn1 := hn1.mod hm13 (by simp)
       replace hd1 := hd1.mod hm13 (by simp)
       replace ht2 := ht2.mod hm13 (by simp)
       replace hn2 := hn2.mod hm13 (by simp)
       replace hd2 := hd2.mod hm13 (by simp)
       replace hb2 := Blk.far hb2 hm13 (by first | exact hne_g2_g8 | exact (hne_g8_g2).symm)
       replace hb3 := Blk.far hb3 hm13 (by first | exact hne_g3_g8 | exact (hne_g8_g3).symm)
       replace hb4 := Blk.far hb4 hm13 (by first | exact hne_g4_g8 | exact (hne_g8_g4).symm)
       replace hbd := hbd.gr hm13
       replace hm0 := hm0.old1 hm13 hge_g8
       replace hn32 := hn32.mod hm13 (by simp)
       replace hd32 := hd32.mod hm13 (by simp)
       clear hm13
       replace hb8 := hb8'; clear hb8'
       refine L.nil (hX _ _ ⟨.inr hS1, ?_⟩)
       refine D.take 11 rfl (by decide +kernel) (fun w_ hS => (R1.assign rfl)) hS1 rfl <| D.done (by decide +kernel) ?_ _
       refine X.join (A32, c32, B32, e32, g8) ?_ ?_
       · exact ⟨rfl, rfl, rfl, rfl, trivial⟩
       ·
        exact ⟨ht1.sub (by intro b hb; first | exact hb | (simp only [mq] at hb ⊢; grind)), hn1.sub (by intro b hb; first | exact hb | (simp only [mq] at hb ⊢; grind)), hd1.sub (by intro b hb; first | exact hb | (simp only [mq] at hb ⊢; grind)), ht2.sub (by intro b hb; first | exact hb | (simp only [mq] at hb ⊢; grind)), hn2.sub (by intro b hb; first | exact hb | (simp only [mq] at hb ⊢; grind)), hd2.sub (by intro b hb; first | exact hb | (simp only [mq] at hb ⊢; grind)), hb2, hb3, hb4, hne_g2_g4, hne_g3_g4, hge_g4, hbd.sub (by intro b hb; first | exact hb | (simp only [mq] at hb ⊢; grind)), hm0, hn32.sub (by intro b hb; first | exact hb | (simp only [mq] at hb ⊢; grind)), hd32.sub (by intro b hb; first | exact hb | (simp only [mq] at hb ⊢; grind)), hb8, hne_g4_g8, F32⟩
      ·
       refine ⟨_, rfl, fun hX => ?_⟩
       refine L.alloc tyZ31 rfl ?_
       intro g8 w14 hN8
       have hgs_g8 := New.ge hN8 hS1.size
       replace hS1 := hS1.trans hN8.mod
       replace ht1 := ht1.new hN8
       replace hn1 := hn1.new hN8
       replace hd1 := hd1.new hN8
       replace ht2 := ht2.new hN8
       replace hn2 := hn2.new hN8
       replace hd2 := hd2.new hN8
       have hne_g2_g8 := hb2.ne_ hN8
       replace hb2 := Blk.gr hb2 hN8.mod
       have hne_g3_g8 := hb3.ne_ hN8
       replace hb3 := Blk.gr hb3 hN8.mod
       have hne_g4_g8 := hb4.ne_ hN8
       replace hb4 := Blk.gr hb4 hN8.mod
       replace hbd := hbd.new hN8
       have hge_g8 := New.ge hN8 hm0.size
       replace hm0 := hm0.trans (hN8.mod.mono (by simp))
       replace hn13 := hn13.new hN8
       replace hd13 := hd13.new hN8
       replace hn29 := hn29.new hN8
       replace hd29 := hd29.new hN8
       have hb8 := hN8.blk
       clear hN8
       refine L.nil (hX _ _ ⟨.inr hS1, ?_⟩)
       refine D.one 5 rfl (by decide +kernel) (fun hX => ?_)
       refine L.call rfl (c_rat_Div (qa := (-z20.2)) (qb := f.2) (rv_toL _) (rv_toL _) hn29 hd29 hn13 hd13 hbd (Nat.le_trans F29.1 (by decide)) (Nat.le_trans F29.2 (by decide)) (Nat.le_trans (fr f (by rw [hrow]; simp)).1 (by decide)) (Nat.le_trans (fr f (by rw [hrow]; simp)).2 (by decide))) rfl ?_
       rintro _ w15 ⟨v32, rfl, ⟨A32, c32, B32, e32, rfl, hn32, hd32⟩, hm15⟩
       replace ht1 := ht1.gr hm15
       replace hn1 := hn1.gr hm15
       replace hd1 := hd1.gr hm15
       replace ht2 := ht2.gr hm15
       replace hn2 := hn2.gr hm15
       replace hd2 := hd2.gr hm15
       replace hb2 := Blk.gr hb2 hm15
       replace hb3 := Blk.gr hb3 hm15
       replace hb4 := Blk.gr hb4 hm15
       replace hbd := hbd.gr hm15
       replace hm0 := hm0.trans hm15
       replace hb8 := Blk.gr hb8 hm15
       replace hS1 := hS1.trans hm15
       clear hm15
       have F32 := Fit.div F29 (fr f (by rw [hrow]; simp)) (by decide)
       refine L.nil (hX _ _ ⟨.inr hS1, ?_⟩)
       refine D.take 6 rfl (by decide +kernel) (fun w_ hS => (R1.move rfl)) hS1 rfl <| D.take 7 rfl (by decide +kernel) (fun w_ hS => (R1.extract rfl rfl)) hS1 rfl <| D.take 8 rfl (by decide +kernel) (fun w_ hS => (R1.extract rfl rfl)) hS1 rfl <| D.one 10 rfl (by decide +kernel) (fun hX => ?_)
       refine L.storeBox rfl rfl hb8 rfl rfl tyG31 ?_
       intro w16 hb8' hm16
       replace hS1 := hS1.old1 hm16 hgs_g8
       replace ht1 := ht1.mod hm16 (by simp)
       replace hn1 := hn1.mod hm16 (by simp)
       replace hd1 := hd1.mod hm16 (by simp)
       replace ht2 := ht2.mod hm16 (by simp)
       replace hn2 := hn2.mod hm16 (by simp)
       replace hd2 := hd2.mod hm16 (by simp)
       replace hb2 := Blk.far hb2 hm16 (by first | exact hne_g2_g8 | exact (hne_g8_g2).symm)
       replace hb3 := Blk.far hb3 hm16 (by first | exact hne_g3_g8 | exact (hne_g8_g3).symm)
       replace hb4 := Blk.far hb4 hm16 (by first | exact hne_g4_g8 | exact (hne_g8_g4).symm)
       replace hbd := hbd.gr hm16
       replace hm0 := hm0.old1 hm16 hge_g8
       replace hn32 := hn32.mod hm16 (by simp)
       replace hd32 := hd32.mod hm16 (by simp)
       clear hm16
       replace hb8 := hb8'; clear hb8'
       refine L.nil (hX _ _ ⟨.inr hS1, ?_⟩)
       refine D.take 11 rfl (by decide +kernel) (fun w_ hS => (R1.assign rfl)) hS1 rfl <| D.done (by decide +kernel) ?_ _
       refine X.join (A32, c32, B32, e32, g8) ?_ ?_
       · exact ⟨rfl, rfl, rfl, rfl, trivial⟩
       ·
        exact ⟨ht1.sub (by intro b hb; first | exact hb | (simp only [mq] at hb ⊢; grind)), hn1.sub (by intro b hb; first | exact hb | (simp only [mq] at hb ⊢; grind)), hd1.sub (by intro b hb; first | exact hb | (simp only [mq] at hb ⊢; grind)), ht2.sub (by intro b hb; first | exact hb | (simp only [mq] at hb ⊢; grind)), hn2.sub (by intro b hb; first | exact hb | (simp only [mq] at hb ⊢; grind)), hd2.sub (by intro b hb; first | exact hb | (simp only [mq] at hb ⊢; grind)), hb2, hb3, hb4, hne_g2_g4, hne_g3_g4, hge_g4, hbd.sub (by intro b hb; first | exact hb | (simp only [mq] at hb ⊢; grind)), hm0, hn32.sub (by intro b hb; first | exact hb | (simp only [mq] at hb ⊢; grind)), hd32.sub (by intro b hb; first | exact hb | (simp only [mq] at hb ⊢; grind)), hb8, hne_g4_g8, F32⟩
     ·
      refine ⟨_, rfl, fun hX => ?_⟩
      refine L.alloc tyZ31 rfl ?_
      intro g8 w17 hN8
      have hgs_g8 := New.ge hN8 hS1.size
      replace hS1 := hS1.trans hN8.mod
      replace ht1 := ht1.new hN8
      replace hn1 := hn1.new hN8
      replace hd1 := hd1.new hN8
      replace ht2 := ht2.new hN8
      replace hn2 := hn2.new hN8
      replace hd2 := hd2.new hN8
      have hne_g2_g8 := hb2.ne_ hN8
      replace hb2 := Blk.gr hb2 hN8.mod
      have hne_g3_g8 := hb3.ne_ hN8
      replace hb3 := Blk.gr hb3 hN8.mod
      have hne_g4_g8 := hb4.ne_ hN8
      replace hb4 := Blk.gr hb4 hN8.mod
      replace hbd := hbd.new hN8
      have hge_g8 := New.ge hN8 hm0.size
      replace hm0 := hm0.trans (hN8.mod.mono (by simp))
      replace hn13 := hn13.new hN8
      replace hd13 := hd13.new hN8
      replace hn20 := hn20.new hN8
      replace hd20 := hd20.new hN8
      have hb8 := hN8.blk
      clear hN8
      refine L.nil (hX _ _ ⟨.inr hS1, ?_⟩)
      refine D.one 2 rfl (by decide +kernel) (fun hX => ?_)
      refine L.call rfl (c_rat_Neg (q := z20.2) (rv_toL _) hn20 hd20 hbd (Nat.le_trans (fl _ (List.mem_of_getElem? hz20)).1 (by decide)) (Nat.le_trans (fl _ (List.mem_of_getElem? hz20)).2 (by decide))) rfl ?_
      rintro _ w18 ⟨⟨A29, c29, B29, e29, rfl, hn29, hd29⟩, hm18⟩
      replace ht1 := ht1.gr hm18
      replace hn1 := hn1.gr hm18
      replace hd1 := hd1.gr hm18
      replace ht2 := ht2.gr hm18
      replace hn2 := hn2.gr hm18
      replace hd2 := hd2.gr hm18
      replace hb2 := Blk.gr hb2 hm18
      replace hb3 := Blk.gr hb3 hm18
      replace hb4 := Blk.gr hb4 hm18
      replace hbd := hbd.gr hm18
      replace hm0 := hm0.trans hm18
      replace hn13 := hn13.gr hm18
      replace hd13 := hd13.gr hm18
      replace hb8 := Blk.gr hb8 hm18
      replace hS1 := hS1.trans hm18
      clear hm18
      have F29 := Fit.neg (fl _ (List.mem_of_getElem? hz20))
      refine L.nil (hX _ _ ⟨.inr hS1, ?_⟩)
      refine D.one 5 rfl (by decide +kernel) (fun hX => ?_)
      refine L.call rfl (c_rat_Div (qa := (-z20.2)) (qb := f.2) (rv_toL _) (rv_toL _) hn29 hd29 hn13 hd13 hbd (Nat.le_trans F29.1 (by decide)) (Nat.le_trans F29.2 (by decide)) (Nat.le_trans (fr f (by rw [hrow]; simp)).1 (by decide)) (Nat.le_trans (fr f (by rw [hrow]; simp)).2 (by decide))) rfl ?_
      rintro _ w19 ⟨v32, rfl, ⟨A32, c32, B32, e32, rfl, hn32, hd32⟩, hm19⟩
      replace ht1 := ht1.gr hm19
      replace hn1 := hn1.gr hm19
      replace hd1 := hd1.gr hm19
      replace ht2 := ht2.gr hm19
      replace hn2 := hn2.gr hm19
      replace hd2 := hd2.gr hm19
      replace hb2 := Blk.gr hb2 hm19
      replace hb3 := Blk.gr hb3 hm19
      replace hb4 := Blk.gr hb4 hm19
      replace hbd := hbd.gr hm19
      replace hm0 := hm0.trans hm19
      replace hb8 := Blk.gr hb8 hm19
      replace hS1 := hS1.trans hm19
      clear hm19
      have F32 := Fit.div F29 (fr f (by rw [hrow]; simp)) (by decide)
      refine L.nil (hX _ _ ⟨.inr hS1, ?_⟩)
      refine D.take 6 rfl (by decide +kernel) (fun w_ hS => (R1.move rfl)) hS1 rfl <| D.take 7 rfl (by decide +kernel) (fun w_ hS => (R1.extract rfl rfl)) hS1 rfl <| D.take 8 rfl (by decide +kernel) (fun w_ hS => (R1.extract rfl rfl)) hS1 rfl <| D.one 10 rfl (by decide +kernel) (fun hX => ?_)
      refine L.storeBox rfl rfl hb8 rfl rfl tyG31 ?_
      intro w20 hb8' hm20
      replace hS1 := hS1.old1 hm20 hgs_g8
      replace ht1 := ht1.mod hm20 (by simp)
      replace hn1 := hn1.mod hm20 (by simp)
      replace hd1 := hd1.mod hm20 (by simp)
      replace ht2 := ht2.mod hm20 (by simp)
      replace hn2 := hn2.mod hm20 (by simp)
      replace hd2 := hd2.mod hm20 (by simp)
      replace hb2 := Blk.far hb2 hm20 (by first | exact hne_g2_g8 | exact (hne_g8_g2).symm)
      replace hb3 := Blk.far hb3 hm20 (by first | exact hne_g3_g8 | exact (hne_g8_g3).symm)
      replace hb4 := Blk.far hb4 hm20 (by first | exact hne_g4_g8 | exact (hne_g8_g4).symm)
      replace hbd := hbd.gr hm20
      replace hm0 := hm0.old1 hm20 hge_g8
      replace hn32 := hn32.mod hm20 (by simp)
      replace hd32 := hd32.mod hm20 (by simp)
      clear hm20
      replace hb8 := hb8'; clear hb8'
      refine L.nil (hX _ _ ⟨.inr hS1, ?_⟩)
      refine D.take 11 rfl (by decide +kernel) (fun w_ hS => (R1.assign rfl)) hS1 rfl <| D.done (by decide +kernel) ?_ _
      refine X.join (A32, c32, B32, e32, g8) ?_ ?_
      · exact ⟨rfl, rfl, rfl, rfl, trivial⟩
      ·
       exact ⟨ht1.sub (by intro b hb; first | exact hb | (simp only [mq] at hb ⊢; grind)), hn1.sub (by intro b hb; first | exact hb | (simp only [mq] at hb ⊢; grind)), hd1.sub (by intro b hb; first | exact hb | (simp only [mq] at hb ⊢; grind)), ht2.sub (by intro b hb; first | exact hb | (simp only [mq] at hb ⊢; grind)), hn2.sub (by intro b hb; first | exact hb | (simp only [mq] at hb ⊢; grind)), hd2.sub (by intro b hb; first | exact hb | (simp only [mq] at hb ⊢; grind)), hb2, hb3, hb4, hne_g2_g4, hne_g3_g4, hge_g4, hbd.sub (by intro b hb; first | exact hb | (simp only [mq] at hb ⊢; grind)), hm0, hn32.sub (by intro b hb; first | exact hb | (simp only [mq] at hb ⊢; grind)), hd32.sub (by intro b hb; first | exact hb | (simp only [mq] at hb ⊢; grind)), hb8, hne_g4_g8, F32⟩
    ·
     rintro ⟨A32, c32, B32, e32, g8⟩ wj ⟨ht1, hn1, hd1, ht2, hn2, hd2, hb2, hb3, hb4, hne_g2_g4, hne_g3_g4, hge_g4, hbd, hm0, hn32, hd32, hb8, hne_g4_g8, F32⟩
     refine X.seq <| W.seq <| W.drawW (T := [5]) rfl (by decide +kernel) (NoHang.then (NoHang.block (NoHang.then (NoHang.next (NoHang.block (NoHang.then NoHang.post)))))) (fun w21 hm21 => ?_)
     replace ht1 := ht1.gr hm21
     replace hn1 := hn1.gr hm21
     replace hd1 := hd1.gr hm21
     replace ht2 := ht2.gr hm21
     replace hn2 := hn2.gr hm21
     replace hd2 := hd2.gr hm21
     replace hb2 := Blk.gr hb2 hm21
     replace hb3 := Blk.gr hb3 hm21
     replace hb4 := Blk.gr hb4 hm21
     replace hbd := hbd.gr hm21
     replace hm0 := hm0.trans hm21
     replace hn32 := hn32.gr hm21
     replace hd32 := hd32.gr hm21
     replace hb8 := Blk.gr hb8 hm21
     have hS2 : Mod [] w21 w21 := Mod.refl _ _
     clear hm21
     have hb2_s := hb2
     have hb3_s := hb3
     have hb8_s := hb8
     refine D.take 0 rfl (by decide +kernel) (fun w_ hS => (R1.loadBox rfl (Blk.gr hb2_s hS) tyG33)) hS2 rfl <| D.take 1 rfl (by decide +kernel) (fun w_ hS => (R1.loadBox rfl (Blk.gr hb3_s hS) tyG33)) hS2 rfl <| D.take 2 rfl (by decide +kernel) (fun w_ hS => (R1.loadBox rfl (Blk.gr hb8_s hS) tyG31)) hS2 rfl <| D.one 3 rfl (by decide +kernel) (fun hX => ?_)
     refine L.call rfl (c_aff_Scale ⟨_, _, _, _, _, _, _, rfl, ht2, hn2, hd2⟩ ⟨_, _, _, _, rfl, hn32, hd32⟩ hbd fr frk (F32.mono (by decide)) (Nat.le_trans orr.len (by decide))) rfl ?_
     rintro _ w22 ⟨⟨s38, T38, t38, A38, c38, B38, e38, rfl, ht38, hn38, hd38⟩, hm22⟩
     replace ht1 := ht1.gr hm22
     replace hn1 := hn1.gr hm22
     replace hd1 := hd1.gr hm22
     replace hb4 := Blk.gr hb4 hm22
     replace hbd := hbd.gr hm22
     replace hm0 := hm0.trans hm22
     replace hS2 := hS2.trans hm22
     clear hm22
     refine L.nil (hX _ _ ⟨.inr hS2, ?_⟩)
     refine D.one 4 rfl (by decide +kernel) (fun hX => ?_)
     refine L.call rfl (c_aff_Add ⟨_, _, _, _, _, _, _, rfl, ht1, hn1, hd1⟩ ⟨_, _, _, _, _, _, _, rfl, ht38, hn38, hd38⟩ hbd (fun x hx => (fl x hx).mono (by decide)) (scaleT_fit fr F32 (by decide)) (fk.mono (by decide)) ((Fit.mul frk F32).mono (by decide)) oc.nice.ne scaleT_ne (Nat.le_trans oc.len (by decide)) (Nat.le_trans (scaleT_len _ _) (Nat.le_trans orr.len (by decide)))) rfl ?_
     rintro _ w23 ⟨⟨s39, T39, t39, A39, c39, B39, e39, rfl, ht39, hn39, hd39⟩, hm23⟩
     replace hb4 := Blk.gr hb4 hm23
     replace hm0 := hm0.trans hm23
     replace hS2 := hS2.trans hm23
     clear hm23
     refine L.nil (hX _ _ ⟨.inr hS2, ?_⟩)
     refine D.one 5 rfl (by decide +kernel) (fun hX => ?_)
     refine L.storeBox rfl rfl hb4 rfl rfl tyG33 ?_
     intro w24 hb4' hm24
     replace hm0 := hm0.old1 hm24 hge_g4
     replace ht39 := ht39.mod hm24 (by simp)
     replace hn39 := hn39.mod hm24 (by simp)
     replace hd39 := hd39.mod hm24 (by simp)
     clear hm24
     replace hb4 := hb4'; clear hb4'
     refine L.nil (hX _ _ ⟨.inl rfl, ?_⟩)
     refine D.done (by decide +kernel) ?_ _
     refine X.seq <| W.ret <| X.blockRet <| X.thenRet <| X.nextRet <| X.blockRet <| X.thenRet <| X.result1 rfl (.cell rfl (loadVar_blk hb4 tyG33) .nil) ?_
     rw [lessT_yes oc.nice hz20 hc25 hrow]
     exact ⟨⟨_, _, _, _, _, _, _, rfl, ht39.sub (by intro b hb; first | exact hb | (simp only [mq] at hb ⊢; grind)), hn39.sub (by intro b hb; first | exact hb | (simp only [mq] at hb ⊢; grind)), hd39.sub (by intro b hb; first | exact hb | (simp only [mq] at hb ⊢; grind))⟩, hm0⟩
   ·
    intro hc25
    try simp only [bq, ne_eq] at hc25
    refine W.skip <| X.blockEnd <| X.seq <| W.region <| L.v (R1.addI (b := 1) rfl rfl (by omega)) rfl <| L.v (R1.move rfl) rfl <| L.nil <| X.next (i + 1) ?_ ?_ ?_
    · exact ⟨rfl, rfl, rfl, rfl, rfl, rfl, rfl, trivial⟩
    ·
     exact ⟨ht1.sub (by intro b hb; first | exact hb | (simp only [mq] at hb ⊢; grind)), hn1.sub (by intro b hb; first | exact hb | (simp only [mq] at hb ⊢; grind)), hd1.sub (by intro b hb; first | exact hb | (simp only [mq] at hb ⊢; grind)), ht2.sub (by intro b hb; first | exact hb | (simp only [mq] at hb ⊢; grind)), hn2.sub (by intro b hb; first | exact hb | (simp only [mq] at hb ⊢; grind)), hd2.sub (by intro b hb; first | exact hb | (simp only [mq] at hb ⊢; grind)), hb2, hb3, hb4, hne_g2_g4, hne_g3_g4, hge_g4, hbd.sub (by intro b hb; first | exact hb | (simp only [mq] at hb ⊢; grind)), hm0, hn13.sub (by intro b hb; first | exact hb | (simp only [mq] at hb ⊢; grind)), hd13.sub (by intro b hb; first | exact hb | (simp only [mq] at hb ⊢; grind)), hb5, hne_g4_g5, by omega, take_all hz20 no hc25⟩
    · first | omega | (dsimp only; omega)
  ·
   intro hc18
   try simp only [bq, ne_eq] at hc18
   obtain rfl : i = l.length := by omega
   rw [List.take_length] at no
   refine W.exit <| X.thenExit <| X.nextExit <| X.here <| X.seq <| W.seq <| W.region <| L.v (R1.loadBox rfl hb2 tyG33) rfl <| L.storeBox rfl rfl hb4 rfl rfl tyG33 ?_
   intro w25 hb4' hm25
   replace ht1 := ht1.mod hm25 (by simp)
   replace hn1 := hn1.mod hm25 (by simp)
   replace hd1 := hd1.mod hm25 (by simp)
   replace hm0 := hm0.old1 hm25 hge_g4
   clear hm25
   replace hb4 := hb4'; clear hb4'
   refine L.nil <| X.seq <| W.ret <| X.result1 rfl (.cell rfl (loadVar_blk hb4 tyG33) .nil) ?_
   rw [lessT_no no hrow]
   exact ⟨⟨_, _, _, _, _, _, _, rfl, ht1.sub (by intro b hb; first | exact hb | (simp only [mq] at hb ⊢; grind)), hn1.sub (by intro b hb; first | exact hb | (simp only [mq] at hb ⊢; grind)), hd1.sub (by intro b hb; first | exact hb | (simp only [mq] at hb ⊢; grind))⟩, hm0⟩

set_option maxHeartbeats 1000000 in
theorem c_left {M N2 : List Nat} {w : World} {gR : Nat} {vl vc good : Value} {rs : List (Ts × Rat)} {l : Ts} {k : Rat} (hbR : Blk w gR 70 #[vl, good]) (hl : Lay rdK N2 w vl rs) (ha : RK M w vc l k) (hbd : Bd M w) (ok : ∀ i, i ≤ rs.length → OkT (leftT (rs.take i) (l, k))) (okr : ∀ r ∈ rs, OkT r ∧ r.1 ≠ []) :
    Ret Try.prog 80 #[.pointer (some ⟨gR, 0, none⟩), vc] w (fun r w' => RK M w' r (leftT rs (l, k)).1 (leftT rs (l, k)).2 ∧ Mod [] w w') := by
 obtain ⟨s1, T1, t1, A1, c1, B1, e1, rfl, ht1, hn1, hd1⟩ := ha
 obtain ⟨TL, tL, rfl⟩ := hl.form
 have hmx := hl.max; unfold maxLen at hmx
 refine Ret.of (vs := [.pointer (some ⟨gR, 0, none⟩), .agg #[.int .i64 s1, .slice T1 l.length t1, .bool (decide (k.num < 0)), .slice A1 (toL k.num.natAbs).length c1, .slice B1 (toL k.den).length e1]]) (n := 21) Try.func80 rfl rfl rfl rfl ?_
 have hm0 : Mod [] w w := Mod.refl _ _
 refine W.seq <| W.region <| L.box rfl rfl ?_
 intro g3 w1 hN3
 replace ht1 := ht1.new hN3
 replace hn1 := hn1.new hN3
 replace hd1 := hd1.new hN3
 replace hl := hl.new hN3
 replace hbR := Blk.gr hbR hN3.mod
 replace hbd := hbd.new hN3
 have hge_g3 := New.ge hN3 hm0.size
 replace hm0 := hm0.trans (hN3.mod.mono (by simp))
 have hb3 := hN3.blk
 clear hN3
 refine L.alloc tyZ33 rfl ?_
 intro g4 w2 hN4
 replace ht1 := ht1.new hN4
 replace hn1 := hn1.new hN4
 replace hd1 := hd1.new hN4
 replace hl := hl.new hN4
 replace hbR := Blk.gr hbR hN4.mod
 replace hbd := hbd.new hN4
 have hge_g4 := New.ge hN4 hm0.size
 replace hm0 := hm0.trans (hN4.mod.mono (by simp))
 have hne_g3_g4 := hb3.ne_ hN4
 replace hb3 := Blk.gr hb3 hN4.mod
 have hb4 := hN4.blk
 clear hN4
 refine L.nil <| X.seq <| W.seq <| W.seq <| W.region <| L.v (R1.move rfl) rfl <| L.v (R1.nilCheck rfl) rfl <| L.v (R1.fieldAt rfl tyF70_0) rfl <| L.v (R1.loadFld rfl hbR rfl tyP22) rfl <| L.v (R1.lenLay rfl hl tyS22) rfl <| L.v (R1.move rfl) rfl ?_
 refine L.nil <| X.seq <| W.block <| W.loop (ι := Nat × (Ts × Rat) × Int × Option Addr × Nat × Option Addr × Nat × Option Addr × Nat) (fun (i, d, s3, T3, t3, A3, c3, B3, e3) => [(3, .pointer (some ⟨g3, 0, none⟩)), (4, .pointer (some ⟨g4, 0, none⟩)), (10, .slice TL rs.length tL), (11, .int .i64 (rs.length : Int)), (12, .int .i64 (i : Int))]) (fun (i, d, s3, T3, t3, A3, c3, B3, e3) w_ => Lay rdN (g4 :: g3 :: M) w_ (.slice T3 d.1.length t3) d.1 ∧ U32 (g4 :: g3 :: M) w_ (.slice A3 (toL d.2.num.natAbs).length c3) (toL d.2.num.natAbs) ∧ U32 (g4 :: g3 :: M) w_ (.slice B3 (toL d.2.den).length e3) (toL d.2.den) ∧ Lay rdK (g4 :: g3 :: N2) w_ (.slice TL rs.length tL) rs ∧ Blk w_ g3 33 #[.int .i64 s3, .slice T3 d.1.length t3, .bool (decide (d.2.num < 0)), .slice A3 (toL d.2.num.natAbs).length c3, .slice B3 (toL d.2.den).length e3] ∧ Blk w_ g4 33 #[.int .i64 0, .slice none 0 0, .bool false, .slice none 0 0, .slice none 0 0] ∧ g3 ≠ g4 ∧ w.heap.size ≤ g3 ∧ w.heap.size ≤ g4 ∧ Bd (g4 :: g3 :: M) w_ ∧ Mod [] w w_ ∧ i ≤ rs.length ∧ d = leftT (rs.take i) (l, k)) (fun (i, d, s3, T3, t3, A3, c3, B3, e3) => rs.length - i) (0, (l, k), s1, T1, t1, A1, c1, B1, e1) ?_ ?_ ?_
 · exact ⟨rfl, rfl, rfl, rfl, rfl, trivial⟩
 ·
  exact ⟨ht1.sub (by intro b hb; first | exact hb | (simp only [mq] at hb ⊢; grind)), hn1.sub (by intro b hb; first | exact hb | (simp only [mq] at hb ⊢; grind)), hd1.sub (by intro b hb; first | exact hb | (simp only [mq] at hb ⊢; grind)), hl.sub (by intro b hb; first | exact hb | (simp only [mq] at hb ⊢; grind)), hb3, hb4, hne_g3_g4, hge_g3, hge_g4, hbd.sub (by intro b hb; first | exact hb | (simp only [mq] at hb ⊢; grind)), hm0, Nat.zero_le _, rfl⟩
 ·
  rintro ⟨i, d, s3, T3, t3, A3, c3, B3, e3⟩ w3 ⟨ht3, hn3, hd3, hl, hb3, hb4, hne_g3_g4, hge_g3, hge_g4, hbd, hm0, hi, hd⟩
  refine W.seq <| W.region <| L.v (R1.lt rfl rfl) rfl <| L.nil <| X.seq <| W.seq <| W.cond rfl ?_ ?_
  ·
   intro hc13
   try simp only [bq, ne_eq] at hc13
   refine W.skip <| X.seq <| W.seq <| W.block <| W.seq <| W.region <| L.v (R1.atLay (j := i) rfl rfl hl tyS22 rfl (by omega)) rfl ?_
   obtain ⟨z15, cs15, hz15, hE15, st15, T15, t15, A15, a15, B15, b15, rfl, ht15, hn15, hd15⟩ := Lay.elemQ hl (j := i) (by omega)
   refine L.v (R1.loadE rfl hE15 tyG33) rfl <| L.alloc tyZ33 rfl ?_
   intro g6 w4 hN6
   replace ht3 := ht3.new hN6
   replace hn3 := hn3.new hN6
   replace hd3 := hd3.new hN6
   replace hl := hl.new hN6
   have hne_g3_g6 := hb3.ne_ hN6
   replace hb3 := Blk.gr hb3 hN6.mod
   have hne_g4_g6 := hb4.ne_ hN6
   replace hb4 := Blk.gr hb4 hN6.mod
   replace hbd := hbd.new hN6
   have hge_g6 := New.ge hN6 hm0.size
   replace hm0 := hm0.trans (hN6.mod.mono (by simp))
   replace ht15 := ht15.new hN6
   replace hn15 := hn15.new hN6
   replace hd15 := hd15.new hN6
   have hb6 := hN6.blk
   clear hN6
   refine L.storeBox rfl rfl hb6 rfl rfl tyG33 ?_
   intro w5 hb6' hm5
   replace ht3 := ht3.mod hm5 (by simp)
   replace hn3 := hn3.mod hm5 (by simp)
   replace hd3 := hd3.mod hm5 (by simp)
   replace hl := hl.mod hm5 (by simp)
   replace hb3 := Blk.far hb3 hm5 (by first | exact hne_g3_g6 | exact (hne_g6_g3).symm)
   replace hb4 := Blk.far hb4 hm5 (by first | exact hne_g4_g6 | exact (hne_g6_g4).symm)
   replace hbd := hbd.gr hm5
   replace hm0 := hm0.old1 hm5 hge_g6
   replace ht15 := ht15.mod hm5 (by simp)
   replace hn15 := hn15.mod hm5 (by simp)
   replace hd15 := hd15.mod hm5 (by simp)
   clear hm5
   replace hb6 := hb6'; clear hb6'
   refine L.nil <| X.seq ?_
   obtain ⟨f, rest, hrow⟩ := List.exists_cons_of_ne_nil (okr _ (List.mem_of_getElem? hz15)).2
   refine W.region <| L.v (R1.loadBox rfl hb3 tyG33) rfl <| L.v (R1.loadBox rfl hb6 tyG33) rfl <| L.call rfl (c_less ⟨_, _, _, _, _, _, _, rfl, ht3, hn3, hd3⟩ ⟨_, _, _, _, _, _, _, rfl, ht15, hn15, hd15⟩ hbd (hd ▸ ok i (by omega)) (okr _ (List.mem_of_getElem? hz15)).1 hrow) rfl ?_
   rintro _ w6 ⟨⟨s18, T18, t18, A18, c18, B18, e18, rfl, ht18, hn18, hd18⟩, hm6⟩
   replace hl := hl.gr hm6
   replace hb3 := Blk.gr hb3 hm6
   replace hb4 := Blk.gr hb4 hm6
   replace hbd := hbd.gr hm6
   replace hm0 := hm0.trans hm6
   clear hm6
   refine L.storeBox rfl rfl hb3 rfl rfl tyG33 ?_
   intro w7 hb3' hm7
   replace hl := hl.mod hm7 (by simp)
   replace hb4 := Blk.far hb4 hm7 (by first | exact hne_g4_g3 | exact (hne_g3_g4).symm)
   replace hbd := hbd.gr hm7
   replace hm0 := hm0.old1 hm7 hge_g3
   replace ht18 := ht18.mod hm7 (by simp)
   replace hn18 := hn18.mod hm7 (by simp)
   replace hd18 := hd18.mod hm7 (by simp)
   clear hm7
   replace hb3 := hb3'; clear hb3'
   refine L.nil <| X.blockEnd <| X.seq <| W.region <| L.v (R1.addI (b := 1) rfl rfl (by omega)) rfl <| L.v (R1.move rfl) rfl <| L.nil <| X.next (i + 1, lessT d.1 d.2 z15.1 z15.2, s18, T18, t18, A18, c18, B18, e18) ?_ ?_ ?_
   · exact ⟨rfl, rfl, rfl, rfl, rfl, trivial⟩
   ·
    exact ⟨ht18.sub (by intro b hb; first | exact hb | (simp only [mq] at hb ⊢; grind)), hn18.sub (by intro b hb; first | exact hb | (simp only [mq] at hb ⊢; grind)), hd18.sub (by intro b hb; first | exact hb | (simp only [mq] at hb ⊢; grind)), hl.sub (by intro b hb; first | exact hb | (simp only [mq] at hb ⊢; grind)), hb3, hb4, hne_g3_g4, hge_g3, hge_g4, hbd.sub (by intro b hb; first | exact hb | (simp only [mq] at hb ⊢; grind)), hm0, by omega, by rw [leftT_snoc hz15, ← hd]⟩
   · first | omega | (dsimp only; omega)
  ·
   intro hc13
   try simp only [bq, ne_eq] at hc13
   obtain rfl : i = rs.length := by omega
   rw [List.take_length] at hd
   refine W.exit <| X.thenExit <| X.nextExit <| X.here <| X.seq <| W.seq <| W.region <| L.v (R1.loadBox rfl hb3 tyG33) rfl <| L.storeBox rfl rfl hb4 rfl rfl tyG33 ?_
   intro w8 hb4' hm8
   replace ht3 := ht3.mod hm8 (by simp)
   replace hn3 := hn3.mod hm8 (by simp)
   replace hd3 := hd3.mod hm8 (by simp)
   replace hm0 := hm0.old1 hm8 hge_g4
   clear hm8
   replace hb4 := hb4'; clear hb4'
   refine L.nil <| X.seq <| W.ret <| X.result1 rfl (.cell rfl (loadVar_blk hb4 tyG33) .nil) ?_
   rw [← hd]
   exact ⟨⟨_, _, _, _, _, _, _, rfl, ht3.sub (by intro b hb; first | exact hb | (simp only [mq] at hb ⊢; grind)), hn3.sub (by intro b hb; first | exact hb | (simp only [mq] at hb ⊢; grind)), hd3.sub (by intro b hb; first | exact hb | (simp only [mq] at hb ⊢; grind))⟩, hm0⟩

end Go.Proofs.Ytpnhihljgkohcaa
