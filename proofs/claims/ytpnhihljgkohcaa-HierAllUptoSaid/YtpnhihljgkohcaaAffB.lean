/- Walks: what the functions compute. -/
import Derived.Test.YtpnhihljgkohcaaAffA
namespace Go.Proofs.Ytpnhihljgkohcaa
open Go.RowKit
set_option linter.unusedVariables false
set_option linter.unusedSimpArgs false
set_option maxRecDepth 10000

theorem scaleT_snoc {l : Ts} {i : Nat} {z : Nat × Rat} (hz : l[i]? = some z) (x : Rat) : scaleT (l.take (i + 1)) x = scaleT (l.take i) x ++ put0 (z.1, z.2 * x) := by
  obtain ⟨hi, rfl⟩ := List.getElem?_eq_some_iff.1 hz
  rw [List.take_succ_eq_append_getElem hi]
  unfold scaleT put0
  rw [List.filterMap_append]
  congr 1
  rw [List.filterMap_cons, List.filterMap_nil]
  split <;> simp_all
theorem scaleT_ne {l : Ts} {x : Rat} : ∀ t ∈ scaleT l x, t.2 ≠ 0 := fun t ht => by
  obtain ⟨s, _, h2⟩ := List.mem_filterMap.1 ht
  split at h2
  · cases h2
  · injection h2 with h2; subst h2; assumption
theorem scaleT_fit {l : Ts} {x : Rat} {a b c : Nat} (h : ∀ t ∈ l, Fit t.2 a) (hx : Fit x b) (hc : a + b ≤ c) : ∀ t ∈ scaleT l x, Fit t.2 c := fun t ht => by
  obtain ⟨s, h1, h2⟩ := List.mem_filterMap.1 ht
  split at h2
  · cases h2
  · injection h2 with h2; subst h2; exact ((h s h1).mul hx).mono hc
theorem scaleT_len (l : Ts) (x : Rat) : (scaleT l x).length ≤ l.length := List.length_filterMap_le _ _

set_option maxHeartbeats 1000000 in
theorem c_aff_Scale {M N1 N2 : List Nat} {w : World} {va vb : Value} {l : Ts} {k x : Rat} (ha : RK N1 w va l k) (hb : RN N2 w vb x) (hbd : Bd M w) (fl : ∀ x ∈ l, Fit x.2 17179869184) (fk : Fit k 17179869184) (fx : Fit x 68719476736) (ll : l.length ≤ 68719476736) :
    Ret Try.prog 88 #[va, vb] w (fun r w' => RK M w' r (scaleT l x) (k * x) ∧ Mod [] w w') := by
 have hbd0 := hbd
 obtain ⟨s1, T1, t1, A1, c1, B1, e1, rfl, ht1, hn1, hd1⟩ := ha
 obtain ⟨A2, c2, B2, e2, rfl, hn2, hd2⟩ := hb
 refine Ret.of (vs := [.agg #[.int .i64 s1, .slice T1 l.length t1, .bool (decide (k.num < 0)), .slice A1 (toL k.num.natAbs).length c1, .slice B1 (toL k.den).length e1], .agg #[.bool (decide (x.num < 0)), .slice A2 (toL x.num.natAbs).length c2, .slice B2 (toL x.den).length e2]]) (n := 41) Try.func88 rfl rfl rfl rfl ?_
 have hm0 : Mod [] w w := Mod.refl _ _
 refine W.seq <| W.region <| L.box rfl rfl ?_
 intro g2 w1 hN2
 replace ht1 := ht1.new hN2
 replace hn1 := hn1.new hN2
 replace hd1 := hd1.new hN2
 replace hn2 := hn2.new hN2
 replace hd2 := hd2.new hN2
 replace hbd := hbd.new hN2
 replace hm0 := hm0.trans (hN2.mod.mono (by simp))
 have hb2 := hN2.blk
 clear hN2
 refine L.box rfl rfl ?_
 intro g3 w2 hN3
 replace ht1 := ht1.new hN3
 replace hn1 := hn1.new hN3
 replace hd1 := hd1.new hN3
 replace hn2 := hn2.new hN3
 replace hd2 := hd2.new hN3
 replace hbd := hbd.new hN3
 have hge_g3 := New.ge hN3 hm0.size
 replace hm0 := hm0.trans (hN3.mod.mono (by simp))
 replace hb2 := Blk.gr hb2 hN3.mod
 have hb3 := hN3.blk
 clear hN3
 refine L.alloc tyZ33 rfl ?_
 intro g4 w3 hN4
 replace ht1 := ht1.new hN4
 replace hn1 := hn1.new hN4
 replace hd1 := hd1.new hN4
 replace hn2 := hn2.new hN4
 replace hd2 := hd2.new hN4
 replace hbd := hbd.new hN4
 have hge_g4 := New.ge hN4 hm0.size
 replace hm0 := hm0.trans (hN4.mod.mono (by simp))
 replace hb2 := Blk.gr hb2 hN4.mod
 have hne_g3_g4 := hb3.ne_ hN4
 replace hb3 := Blk.gr hb3 hN4.mod
 have hb4 := hN4.blk
 clear hN4
 refine L.nil <| X.seq <| W.seq <| W.cut (ι := Option Addr × Nat × Option Addr × Nat × Nat) (fun (A14, c14, B14, e14, g5) => [(2, .pointer (some ⟨g2, 0, none⟩)), (3, .pointer (some ⟨g3, 0, none⟩)), (4, .pointer (some ⟨g4, 0, none⟩)), (5, .pointer (some ⟨g5, 0, none⟩))]) (fun (A14, c14, B14, e14, g5) w_ => Lay rdN (g5 :: g4 :: N1) w_ (.slice T1 l.length t1) l ∧ U32 (g5 :: g4 :: N2) w_ (.slice A2 (toL x.num.natAbs).length c2) (toL x.num.natAbs) ∧ U32 (g5 :: g4 :: N2) w_ (.slice B2 (toL x.den).length e2) (toL x.den) ∧ U32 (g5 :: g4 :: M) w_ (.slice A14 (toL (k * x).num.natAbs).length c14) (toL (k * x).num.natAbs) ∧ U32 (g5 :: g4 :: M) w_ (.slice B14 (toL (k * x).den).length e14) (toL (k * x).den) ∧ Blk w_ g3 31 #[.bool (decide (x.num < 0)), .slice A2 (toL x.num.natAbs).length c2, .slice B2 (toL x.den).length e2] ∧ Blk w_ g4 33 #[.int .i64 0, .slice none 0 0, .bool false, .slice none 0 0, .slice none 0 0] ∧ w.heap.size ≤ g5 ∧ w.heap.size ≤ g4 ∧ g4 ≠ g5 ∧ g3 ≠ g4 ∧ g3 ≠ g5 ∧ w.heap.size ≤ g3 ∧ Bd (g5 :: g4 :: M) w_ ∧ Mod [] w w_ ∧ Blk w_ g2 33 #[.int .i64 s1, .slice T1 l.length t1, .bool (decide (k.num < 0)), .slice A1 (toL k.num.natAbs).length c1, .slice B1 (toL k.den).length e1] ∧ Blk w_ g5 33 #[.int .i64 s1, .slice none 0 0, .bool (decide ((k * x).num < 0)), .slice A14 (toL (k * x).num.natAbs).length c14, .slice B14 (toL (k * x).den).length e14]) ?_ ?_
 ·
  refine W.drawW (T := [8]) rfl (by decide +kernel) (NoHang.join (NoHang.then NoHang.post)) (fun w4 hm4 => ?_)
  replace ht1 := ht1.gr hm4
  replace hn1 := hn1.gr hm4
  replace hd1 := hd1.gr hm4
  replace hn2 := hn2.gr hm4
  replace hd2 := hd2.gr hm4
  replace hbd := hbd.gr hm4
  replace hm0 := hm0.trans hm4
  replace hb2 := Blk.gr hb2 hm4
  replace hb3 := Blk.gr hb3 hm4
  replace hb4 := Blk.gr hb4 hm4
  have hS1 : Mod [] w4 w4 := Mod.refl _ _
  clear hm4
  have hb2_s := hb2
  have hb3_s := hb3
  refine D.take 0 rfl (by decide +kernel) (fun w_ hS => (R1.fieldAt rfl tyF33_0)) hS1 rfl <| D.take 1 rfl (by decide +kernel) (fun w_ hS => (R1.loadFld rfl (Blk.gr hb2_s hS) rfl tyP3)) hS1 rfl <| D.take 2 rfl (by decide +kernel) (fun w_ hS => (R1.fieldAt rfl tyF33_2)) hS1 rfl <| D.take 3 rfl (by decide +kernel) (fun w_ hS => (R1.loadBoxAt (ds := [.bool (decide (k.num < 0)), .slice A1 (toL k.num.natAbs).length c1, .slice B1 (toL k.den).length e1]) rfl (Blk.gr hb2_s hS) rfl tyG31)) hS1 rfl <| D.take 4 rfl (by decide +kernel) (fun w_ hS => (R1.loadBox rfl (Blk.gr hb3_s hS) tyG31)) hS1 rfl <| D.many (rs := [5, 7]) (by decide +kernel) rfl ?_
  intro i_ hi_
  simp only [List.mem_cons, List.not_mem_nil, or_false] at hi_
  rcases hi_ with rfl | rfl
  ·
   refine ⟨_, rfl, fun hX => ?_⟩
   refine L.call rfl (c_rat_Mul (qa := k) (qb := x) (rv_toL _) (rv_toL _) hn1 hd1 hn2 hd2 hbd (Nat.le_trans fk.1 (by decide)) (Nat.le_trans fk.2 (by decide)) (Nat.le_trans fx.1 (by decide)) (Nat.le_trans fx.2 (by decide))) rfl ?_
   rintro _ w5 ⟨⟨A14, c14, B14, e14, rfl, hn14, hd14⟩, hm5⟩
   replace ht1 := ht1.gr hm5
   replace hn2 := hn2.gr hm5
   replace hd2 := hd2.gr hm5
   replace hbd := hbd.gr hm5
   replace hm0 := hm0.trans hm5
   replace hb2 := Blk.gr hb2 hm5
   replace hb3 := Blk.gr hb3 hm5
   replace hb4 := Blk.gr hb4 hm5
   replace hS1 := hS1.trans hm5
   clear hm5
   have F14 := Fit.mul fk fx
   refine L.nil (hX _ _ ⟨.inr hS1, ?_⟩)
   refine D.take 6 rfl (by decide +kernel) (fun w_ hS => (R1.build (vs := [.int .i64 s1, .agg #[.bool (decide ((k * x).num < 0)), .slice A14 (toL (k * x).num.natAbs).length c14, .slice B14 (toL (k * x).den).length e14]]) rfl (built_C02 _ _ _ _ _ _ _ _))) hS1 rfl <| D.one 7 rfl (by decide +kernel) (fun hX => ?_)
   refine L.alloc tyZ33 rfl ?_
   intro g5 w6 hN5
   replace hS1 := hS1.trans hN5.mod
   replace ht1 := ht1.new hN5
   replace hn2 := hn2.new hN5
   replace hd2 := hd2.new hN5
   replace hbd := hbd.new hN5
   have hge_g5 := New.ge hN5 hm0.size
   replace hm0 := hm0.trans (hN5.mod.mono (by simp))
   have hne_g2_g5 := hb2.ne_ hN5
   replace hb2 := Blk.gr hb2 hN5.mod
   have hne_g3_g5 := hb3.ne_ hN5
   replace hb3 := Blk.gr hb3 hN5.mod
   have hne_g4_g5 := hb4.ne_ hN5
   replace hb4 := Blk.gr hb4 hN5.mod
   replace hn14 := hn14.new hN5
   replace hd14 := hd14.new hN5
   have hb5 := hN5.blk
   clear hN5
   refine L.nil (hX _ _ ⟨.inr hS1, ?_⟩)
   refine D.one 8 rfl (by decide +kernel) (fun hX => ?_)
   refine L.storeBox rfl rfl hb5 rfl rfl tyG33 ?_
   intro w7 hb5' hm7
   replace ht1 := ht1.mod hm7 (by simp)
   replace hn2 := hn2.mod hm7 (by simp)
   replace hd2 := hd2.mod hm7 (by simp)
   replace hbd := hbd.gr hm7
   replace hm0 := hm0.old1 hm7 hge_g5
   replace hb2 := Blk.far hb2 hm7 (by first | exact hne_g2_g5 | exact (hne_g5_g2).symm)
   replace hb3 := Blk.far hb3 hm7 (by first | exact hne_g3_g5 | exact (hne_g5_g3).symm)
   replace hb4 := Blk.far hb4 hm7 (by first | exact hne_g4_g5 | exact (hne_g5_g4).symm)
   replace hn14 := hn14.mod hm7 (by simp)
   replace hd14 := hd14.mod hm7 (by simp)
   clear hm7
   replace hb5 := hb5'; clear hb5'
   refine L.nil (hX _ _ ⟨.inl rfl, ?_⟩)
   refine D.done (by decide +kernel) ?_ _
   refine X.join (A14, c14, B14, e14, g5) ?_ ?_
   · exact ⟨rfl, rfl, rfl, rfl, trivial⟩
   ·
    exact ⟨ht1.sub (by intro b hb; first | exact hb | (simp only [mq] at hb ⊢; grind)), hn2.sub (by intro b hb; first | exact hb | (simp only [mq] at hb ⊢; grind)), hd2.sub (by intro b hb; first | exact hb | (simp only [mq] at hb ⊢; grind)), hn14.sub (by intro b hb; first | exact hb | (simp only [mq] at hb ⊢; grind)), hd14.sub (by intro b hb; first | exact hb | (simp only [mq] at hb ⊢; grind)), hb3, hb4, hge_g5, hge_g4, hne_g4_g5, hne_g3_g4, hne_g3_g5, hge_g3, hbd.sub (by intro b hb; first | exact hb | (simp only [mq] at hb ⊢; grind)), hm0, hb2, hb5⟩
  ·
   refine ⟨_, rfl, fun hX => ?_⟩
   refine L.alloc tyZ33 rfl ?_
   intro g5 w8 hN5
   replace hS1 := hS1.trans hN5.mod
   replace ht1 := ht1.new hN5
   replace hn1 := hn1.new hN5
   replace hd1 := hd1.new hN5
   replace hn2 := hn2.new hN5
   replace hd2 := hd2.new hN5
   replace hbd := hbd.new hN5
   have hge_g5 := New.ge hN5 hm0.size
   replace hm0 := hm0.trans (hN5.mod.mono (by simp))
   have hne_g2_g5 := hb2.ne_ hN5
   replace hb2 := Blk.gr hb2 hN5.mod
   have hne_g3_g5 := hb3.ne_ hN5
   replace hb3 := Blk.gr hb3 hN5.mod
   have hne_g4_g5 := hb4.ne_ hN5
   replace hb4 := Blk.gr hb4 hN5.mod
   have hb5 := hN5.blk
   clear hN5
   refine L.nil (hX _ _ ⟨.inr hS1, ?_⟩)
   refine D.one 5 rfl (by decide +kernel) (fun hX => ?_)
   refine L.call rfl (c_rat_Mul (qa := k) (qb := x) (rv_toL _) (rv_toL _) hn1 hd1 hn2 hd2 hbd (Nat.le_trans fk.1 (by decide)) (Nat.le_trans fk.2 (by decide)) (Nat.le_trans fx.1 (by decide)) (Nat.le_trans fx.2 (by decide))) rfl ?_
   rintro _ w9 ⟨⟨A14, c14, B14, e14, rfl, hn14, hd14⟩, hm9⟩
   replace ht1 := ht1.gr hm9
   replace hn2 := hn2.gr hm9
   replace hd2 := hd2.gr hm9
   replace hbd := hbd.gr hm9
   replace hm0 := hm0.trans hm9
   replace hb2 := Blk.gr hb2 hm9
   replace hb3 := Blk.gr hb3 hm9
   replace hb4 := Blk.gr hb4 hm9
   replace hb5 := Blk.gr hb5 hm9
   replace hS1 := hS1.trans hm9
   clear hm9
   have F14 := Fit.mul fk fx
   refine L.nil (hX _ _ ⟨.inr hS1, ?_⟩)
   refine D.take 6 rfl (by decide +kernel) (fun w_ hS => (R1.build (vs := [.int .i64 s1, .agg #[.bool (decide ((k * x).num < 0)), .slice A14 (toL (k * x).num.natAbs).length c14, .slice B14 (toL (k * x).den).length e14]]) rfl (built_C02 _ _ _ _ _ _ _ _))) hS1 rfl <| D.one 8 rfl (by decide +kernel) (fun hX => ?_)
   refine L.storeBox rfl rfl hb5 rfl rfl tyG33 ?_
   intro w10 hb5' hm10
   replace ht1 := ht1.mod hm10 (by simp)
   replace hn2 := hn2.mod hm10 (by simp)
   replace hd2 := hd2.mod hm10 (by simp)
   replace hbd := hbd.gr hm10
   replace hm0 := hm0.old1 hm10 hge_g5
   replace hb2 := Blk.far hb2 hm10 (by first | exact hne_g2_g5 | exact (hne_g5_g2).symm)
   replace hb3 := Blk.far hb3 hm10 (by first | exact hne_g3_g5 | exact (hne_g5_g3).symm)
   replace hb4 := Blk.far hb4 hm10 (by first | exact hne_g4_g5 | exact (hne_g5_g4).symm)
   replace hn14 := hn14.mod hm10 (by simp)
   replace hd14 := hd14.mod hm10 (by simp)
   clear hm10
   replace hb5 := hb5'; clear hb5'
   refine L.nil (hX _ _ ⟨.inl rfl, ?_⟩)
   refine D.done (by decide +kernel) ?_ _
   refine X.join (A14, c14, B14, e14, g5) ?_ ?_
   · exact ⟨rfl, rfl, rfl, rfl, trivial⟩
   ·
    exact ⟨ht1.sub (by intro b hb; first | exact hb | (simp only [mq] at hb ⊢; grind)), hn2.sub (by intro b hb; first | exact hb | (simp only [mq] at hb ⊢; grind)), hd2.sub (by intro b hb; first | exact hb | (simp only [mq] at hb ⊢; grind)), hn14.sub (by intro b hb; first | exact hb | (simp only [mq] at hb ⊢; grind)), hd14.sub (by intro b hb; first | exact hb | (simp only [mq] at hb ⊢; grind)), hb3, hb4, hge_g5, hge_g4, hne_g4_g5, hne_g3_g4, hne_g3_g5, hge_g3, hbd.sub (by intro b hb; first | exact hb | (simp only [mq] at hb ⊢; grind)), hm0, hb2, hb5⟩
 ·
  rintro ⟨A14, c14, B14, e14, g5⟩ wj ⟨ht1, hn2, hd2, hn14, hd14, hb3, hb4, hge_g5, hge_g4, hne_g4_g5, hne_g3_g4, hne_g3_g5, hge_g3, hbd, hm0, hb2, hb5⟩
  refine X.seq <| W.seq <| W.seq <| W.region <| L.v (R1.fieldAt rfl tyF33_1) rfl <| L.v (R1.loadFld rfl hb2 rfl tyP28) rfl <| L.v (R1.lenLay rfl ht1 tyS28) rfl <| L.v (R1.move rfl) rfl <| L.nil <| X.seq <| W.block ?_
  refine W.loop (ι := Nat × Value × List (List Value) × Ts) (fun (i, u, css, o) => [(3, .pointer (some ⟨g3, 0, none⟩)), (4, .pointer (some ⟨g4, 0, none⟩)), (5, .pointer (some ⟨g5, 0, none⟩)), (17, .slice T1 l.length t1), (18, .int .i64 (l.length : Int)), (19, .int .i64 (i : Int))]) (fun (i, u, css, o) w_ => Lay rdN (ownL u ++ g5 :: g4 :: N1) w_ (.slice T1 l.length t1) l ∧ U32 (ownL u ++ g5 :: g4 :: N2) w_ (.slice A2 (toL x.num.natAbs).length c2) (toL x.num.natAbs) ∧ U32 (ownL u ++ g5 :: g4 :: N2) w_ (.slice B2 (toL x.den).length e2) (toL x.den) ∧ U32 (ownL u ++ g5 :: g4 :: M) w_ (.slice A14 (toL (k * x).num.natAbs).length c14) (toL (k * x).num.natAbs) ∧ U32 (ownL u ++ g5 :: g4 :: M) w_ (.slice B14 (toL (k * x).den).length e14) (toL (k * x).den) ∧ Blk w_ g3 31 #[.bool (decide (x.num < 0)), .slice A2 (toL x.num.natAbs).length c2, .slice B2 (toL x.den).length e2] ∧ Blk w_ g4 33 #[.int .i64 0, .slice none 0 0, .bool false, .slice none 0 0, .slice none 0 0] ∧ w.heap.size ≤ g5 ∧ w.heap.size ≤ g4 ∧ g4 ≠ g5 ∧ g3 ≠ g4 ∧ g3 ≠ g5 ∧ w.heap.size ≤ g3 ∧ Bd (ownL u ++ g5 :: g4 :: M) w_ ∧ Mod [] w w_ ∧ w_.ownsRow w.heap.size 46 4 u o.length css.flatten ∧ LayL rdN (ownL u ++ g5 :: g4 :: M) w_ css o ∧ Blk w_ g5 33 #[.int .i64 s1, u, .bool (decide ((k * x).num < 0)), .slice A14 (toL (k * x).num.natAbs).length c14, .slice B14 (toL (k * x).den).length e14] ∧ u.ownBlock ≠ some g3 ∧ u.ownBlock ≠ some g4 ∧ u.ownBlock ≠ some g5 ∧ i ≤ l.length ∧ o = scaleT (l.take i) x ∧ o.length ≤ i) (fun (i, u, css, o) => l.length - i) (0, .slice none 0 0, [], []) ?_ ?_ ?_
  · exact ⟨rfl, rfl, rfl, rfl, rfl, rfl, trivial⟩
  ·
   exact ⟨ht1.sub (by intro b hb; first | exact hb | (simp only [mq] at hb ⊢; grind)), hn2.sub (by intro b hb; first | exact hb | (simp only [mq] at hb ⊢; grind)), hd2.sub (by intro b hb; first | exact hb | (simp only [mq] at hb ⊢; grind)), hn14.sub (by intro b hb; first | exact hb | (simp only [mq] at hb ⊢; grind)), hd14.sub (by intro b hb; first | exact hb | (simp only [mq] at hb ⊢; grind)), hb3, hb4, hge_g5, hge_g4, hne_g4_g5, hne_g3_g4, hne_g3_g5, hge_g3, hbd.sub (by intro b hb; first | exact hb | (simp only [mq] at hb ⊢; grind)), hm0, own_nil _ _ _ _, LayL.nil, hb5, (fun h => by cases h), (fun h => by cases h), (fun h => by cases h), Nat.zero_le _, rfl, Nat.le_refl _⟩
  ·
   rintro ⟨i, u, css, o⟩ w11 ⟨ht1, hn2, hd2, hn14, hd14, hb3, hb4, hge_g5, hge_g4, hne_g4_g5, hne_g3_g4, hne_g3_g5, hge_g3, hbd, hm0, ho, hl, hb5, hno_ho_g3, hno_ho_g4, hno_ho_g5, hi, heq, hol⟩
   refine W.seq <| W.region <| L.v (R1.lt rfl rfl) rfl <| L.nil <| X.seq <| W.seq <| W.cond rfl ?_ ?_
   ·
    intro hc20
    try simp only [bq, ne_eq] at hc20
    refine W.skip <| X.seq <| W.seq <| W.block <| W.seq <| W.region <| L.v (R1.atLay (j := i) rfl rfl ht1 tyS28 rfl (by omega)) rfl ?_
    obtain ⟨z22, cs22, hz22, hE22, A22, a22, B22, b22, rfl, hn22, hd22⟩ := Lay.elemQ ht1 (j := i) (by omega)
    refine L.v (R1.loadE rfl hE22 tyG46) rfl <| L.alloc tyZ46 rfl ?_
    intro g7 w12 hN7
    replace ht1 := ht1.new hN7
    replace hn2 := hn2.new hN7
    replace hd2 := hd2.new hN7
    replace hn14 := hn14.new hN7
    replace hd14 := hd14.new hN7
    have hne_g3_g7 := hb3.ne_ hN7
    replace hb3 := Blk.gr hb3 hN7.mod
    have hne_g4_g7 := hb4.ne_ hN7
    replace hb4 := Blk.gr hb4 hN7.mod
    replace hbd := hbd.new hN7
    have hge_g7 := New.ge hN7 hm0.size
    replace hm0 := hm0.trans (hN7.mod.mono (by simp))
    have hno_ho_g7 := own_ne_new ho hN7
    replace ho := own_gr ho hN7.mod (by simp)
    replace hl := hl.new hN7
    have hne_g5_g7 := hb5.ne_ hN7
    replace hb5 := Blk.gr hb5 hN7.mod
    replace hn22 := hn22.new hN7
    replace hd22 := hd22.new hN7
    have hb7 := hN7.blk
    clear hN7
    refine L.storeBox rfl rfl hb7 rfl rfl tyG46 ?_
    intro w13 hb7' hm13
    replace ht1 := ht1.mod hm13 (by simp)
    replace hn2 := hn2.mod hm13 (by simp)
    replace hd2 := hd2.mod hm13 (by simp)
    replace hn14 := hn14.mod hm13 (by simp)
    replace hd14 := hd14.mod hm13 (by simp)
    replace hb3 := Blk.far hb3 hm13 (by first | exact hne_g3_g7 | exact (hne_g7_g3).symm)
    replace hb4 := Blk.far hb4 hm13 (by first | exact hne_g4_g7 | exact (hne_g7_g4).symm)
    replace hbd := hbd.gr hm13
    replace hm0 := hm0.old1 hm13 hge_g7
    replace ho := own_far ho hm13 hno_ho_g7
    replace hl := hl.mod hm13 (by simp)
    replace hb5 := Blk.far hb5 hm13 (by first | exact hne_g5_g7 | exact (hne_g7_g5).symm)
    replace hn22 := hn22.mod hm13 (by simp)
    replace hd22 := hd22.mod hm13 (by simp)
    clear hm13
    replace hb7 := hb7'; clear hb7'
    refine L.nil <| X.seq <| W.seq <| W.region <| L.v (R1.fieldAt rfl tyF46_1) rfl <| L.v (R1.loadBoxAt (ds := [.bool (decide (z22.2.num < 0)), .slice A22 (toL z22.2.num.natAbs).length a22, .slice B22 (toL z22.2.den).length b22]) rfl hb7 rfl tyG31) rfl <| L.v (R1.loadBox rfl hb3 tyG31) rfl <| L.call rfl (c_rat_Mul (qa := z22.2) (qb := x) (rv_toL _) (rv_toL _) hn22 hd22 hn2 hd2 hbd (Nat.le_trans (fl _ (List.mem_of_getElem? hz22)).1 (by decide)) (Nat.le_trans (fl _ (List.mem_of_getElem? hz22)).2 (by decide)) (Nat.le_trans fx.1 (by decide)) (Nat.le_trans fx.2 (by decide))) rfl ?_
    rintro _ w14 ⟨⟨A26, c26, B26, e26, rfl, hn26, hd26⟩, hm14⟩
    replace ht1 := ht1.gr hm14
    replace hn2 := hn2.gr hm14
    replace hd2 := hd2.gr hm14
    replace hn14 := hn14.gr hm14
    replace hd14 := hd14.gr hm14
    replace hb3 := Blk.gr hb3 hm14
    replace hb4 := Blk.gr hb4 hm14
    replace hbd := hbd.gr hm14
    replace hm0 := hm0.trans hm14
    replace ho := own_gr ho hm14 (by simp)
    replace hl := hl.gr hm14
    replace hb5 := Blk.gr hb5 hm14
    replace hn22 := hn22.gr hm14
    replace hd22 := hd22.gr hm14
    replace hb7 := Blk.gr hb7 hm14
    clear hm14
    have F26 := Fit.mul (fl _ (List.mem_of_getElem? hz22)) fx
    refine L.alloc tyZ31 rfl ?_
    intro g8 w15 hN8
    replace ht1 := ht1.new hN8
    replace hn2 := hn2.new hN8
    replace hd2 := hd2.new hN8
    replace hn14 := hn14.new hN8
    replace hd14 := hd14.new hN8
    have hne_g3_g8 := hb3.ne_ hN8
    replace hb3 := Blk.gr hb3 hN8.mod
    have hne_g4_g8 := hb4.ne_ hN8
    replace hb4 := Blk.gr hb4 hN8.mod
    replace hbd := hbd.new hN8
    have hge_g8 := New.ge hN8 hm0.size
    replace hm0 := hm0.trans (hN8.mod.mono (by simp))
    have hno_ho_g8 := own_ne_new ho hN8
    replace ho := own_gr ho hN8.mod (by simp)
    replace hl := hl.new hN8
    have hne_g5_g8 := hb5.ne_ hN8
    replace hb5 := Blk.gr hb5 hN8.mod
    replace hn22 := hn22.new hN8
    replace hd22 := hd22.new hN8
    have hne_g7_g8 := hb7.ne_ hN8
    replace hb7 := Blk.gr hb7 hN8.mod
    replace hn26 := hn26.new hN8
    replace hd26 := hd26.new hN8
    have hb8 := hN8.blk
    clear hN8
    refine L.storeBox rfl rfl hb8 rfl rfl tyG31 ?_
    intro w16 hb8' hm16
    replace ht1 := ht1.mod hm16 (by simp)
    replace hn2 := hn2.mod hm16 (by simp)
    replace hd2 := hd2.mod hm16 (by simp)
    replace hn14 := hn14.mod hm16 (by simp)
    replace hd14 := hd14.mod hm16 (by simp)
    replace hb3 := Blk.far hb3 hm16 (by first | exact hne_g3_g8 | exact (hne_g8_g3).symm)
    replace hb4 := Blk.far hb4 hm16 (by first | exact hne_g4_g8 | exact (hne_g8_g4).symm)
    replace hbd := hbd.gr hm16
    replace hm0 := hm0.old1 hm16 hge_g8
    replace ho := own_far ho hm16 hno_ho_g8
    replace hl := hl.mod hm16 (by simp)
    replace hb5 := Blk.far hb5 hm16 (by first | exact hne_g5_g8 | exact (hne_g8_g5).symm)
    replace hn22 := hn22.mod hm16 (by simp)
    replace hd22 := hd22.mod hm16 (by simp)
    replace hb7 := Blk.far hb7 hm16 (by first | exact hne_g7_g8 | exact (hne_g8_g7).symm)
    replace hn26 := hn26.mod hm16 (by simp)
    replace hd26 := hd26.mod hm16 (by simp)
    clear hm16
    replace hb8 := hb8'; clear hb8'
    refine L.nil <| X.seq <| W.seq <| W.region <| L.v (R1.loadBox rfl hb8 tyG31) rfl <| L.call rfl (c_rat_Zero (q := (z22.2 * x)) (rv_toL _) hn26 hd26 hbd (Nat.le_trans F26.1 (by decide)) (Nat.le_trans F26.2 (by decide))) rfl ?_
    rintro _ w17 ⟨rfl, hm17⟩
    replace ht1 := ht1.gr hm17
    replace hn2 := hn2.gr hm17
    replace hd2 := hd2.gr hm17
    replace hn14 := hn14.gr hm17
    replace hd14 := hd14.gr hm17
    replace hb3 := Blk.gr hb3 hm17
    replace hb4 := Blk.gr hb4 hm17
    replace hbd := hbd.gr hm17
    replace hm0 := hm0.trans hm17
    replace ho := own_gr ho hm17 (by simp)
    replace hl := hl.gr hm17
    replace hb5 := Blk.gr hb5 hm17
    replace hn22 := hn22.gr hm17
    replace hd22 := hd22.gr hm17
    replace hb7 := Blk.gr hb7 hm17
    replace hn26 := hn26.gr hm17
    replace hd26 := hd26.gr hm17
    replace hb8 := Blk.gr hb8 hm17
    clear hm17
    refine L.v (R1.not rfl) rfl <| L.nil <| X.seq <| W.cond rfl ?_ ?_
    ·
     intro hc29
     simp only [Bool.not_eq_true', Bool.not_eq_false', decide_eq_true_eq, decide_eq_false_iff_not] at hc29
     refine W.region <| L.v (R1.fieldAt rfl tyF33_1) rfl <| L.v ((R1.loadFld rfl hb5 rfl tyP28).asV (v := u) rfl) rfl <| L.v (R1.fieldAt rfl tyF46_0) rfl <| L.v (R1.loadFld rfl hb7 rfl tyP3) rfl <| L.v (R1.loadBox rfl hb8 tyG31) rfl <| L.v (R1.build (vs := [.int .i64 (z22.1 : Int), .agg #[.bool (decide ((z22.2 * x).num < 0)), .slice A26 (toL (z22.2 * x).num.natAbs).length c26, .slice B26 (toL (z22.2 * x).den).length e26]]) rfl (built_T01 _ _ _ _ _ _ _ _)) rfl <| L.buildSlice (cells := [.int .i64 (z22.1 : Int), .bool (decide ((z22.2 * x).num < 0)), .slice A26 (toL (z22.2 * x).num.natAbs).length c26, .slice B26 (toL (z22.2 * x).den).length e26]) rfl tyS28 tyZ46 (fillN1 _ _ _ _ _ _ _ _) (by decide) (by decide) rfl ?_
     intro g36 w18 hN36
     replace ht1 := ht1.gr hN36.mod
     replace hn2 := hn2.gr hN36.mod
     replace hd2 := hd2.gr hN36.mod
     replace hn14 := hn14.gr hN36.mod
     replace hd14 := hd14.gr hN36.mod
     replace hb3 := Blk.gr hb3 hN36.mod
     replace hb4 := Blk.gr hb4 hN36.mod
     replace hbd := hbd.gr hN36.mod
     replace hm0 := hm0.trans hN36.mod
     replace ho := own_gr ho hN36.mod (by simp)
     replace hl := hl.gr hN36.mod
     replace hb5 := Blk.gr hb5 hN36.mod
     replace hn22 := hn22.gr hN36.mod
     replace hd22 := hd22.gr hN36.mod
     replace hn26 := hn26.gr hN36.mod
     replace hd26 := hd26.gr hN36.mod
     have hrow : Sl [] w18 4 (.slice (some ⟨g36, 0, none⟩) 1 1) 1 [.int .i64 (z22.1 : Int), .bool (decide ((z22.2 * x).num < 0)), .slice A26 (toL (z22.2 * x).num.natAbs).length c26, .slice B26 (toL (z22.2 * x).den).length e26] := Sl.of_blk hN36.blk 0 (Nat.le_refl _) (by decide) rfl (by simp) (fun j hj => by simp)
     clear hN36
     refine L.append rfl rfl ho hrow (by intro c hc; simp only [List.mem_cons, List.not_mem_nil, or_false] at hc; rcases hc with rfl | rfl | rfl | rfl <;> rfl) tyS28 tyZ46 (by omega) (by unfold maxLen; omega) hm0.size rfl ?_
     intro v37 w19 ho37' hG37
     replace ht1 := ht1.grew2 hG37 (by first | exact mem_own | (intro b hb; simp [hb]))
     replace hn2 := hn2.grew2 hG37 (by first | exact mem_own | (intro b hb; simp [hb]))
     replace hd2 := hd2.grew2 hG37 (by first | exact mem_own | (intro b hb; simp [hb]))
     replace hn14 := hn14.grew2 hG37 (by first | exact mem_own | (intro b hb; simp [hb]))
     replace hd14 := hd14.grew2 hG37 (by first | exact mem_own | (intro b hb; simp [hb]))
     have hnn_g3 := hG37.ne hno_ho_g3 hb3
     replace hb3 := Blk.grew hb3 hG37 hno_ho_g3
     replace hno_ho_g3 := hnn_g3
     have hnn_g4 := hG37.ne hno_ho_g4 hb4
     replace hb4 := Blk.grew hb4 hG37 hno_ho_g4
     replace hno_ho_g4 := hnn_g4
     replace hbd := hbd.grew2 hG37 (by first | exact mem_own | (intro b hb; simp [hb]))
     replace hm0 := Mod.oldOwn hm0 hG37.mod ho
     replace hl := hl.grew2 hG37 (by first | exact mem_own | (intro b hb; simp [hb]))
     have hnn_g5 := hG37.ne hno_ho_g5 hb5
     replace hb5 := Blk.grew hb5 hG37 hno_ho_g5
     replace hno_ho_g5 := hnn_g5
     replace hn22 := hn22.grew2 hG37 (by first | exact mem_own | (intro b hb; simp [hb]))
     replace hd22 := hd22.grew2 hG37 (by first | exact mem_own | (intro b hb; simp [hb]))
     replace hn26 := hn26.grew2 hG37 (by first | exact mem_own | (intro b hb; simp [hb]))
     replace hd26 := hd26.grew2 hG37 (by first | exact mem_own | (intro b hb; simp [hb]))
     replace ho := ho37'; clear ho37'
     clear hG37
     refine L.v (R1.fieldAt rfl tyF33_1) rfl <| L.store rfl rfl hb5 (show 1 < 5 by decide) (own_one ho) tyP28 ?_
     intro w20 hb5' hm20
     replace ht1 := ht1.mod hm20 (by simp)
     replace hn2 := hn2.mod hm20 (by simp)
     replace hd2 := hd2.mod hm20 (by simp)
     replace hn14 := hn14.mod hm20 (by simp)
     replace hd14 := hd14.mod hm20 (by simp)
     replace hb3 := Blk.far hb3 hm20 (by first | exact hne_g3_g5 | exact (hne_g5_g3).symm)
     replace hb4 := Blk.far hb4 hm20 (by first | exact hne_g4_g5 | exact (hne_g5_g4).symm)
     replace hbd := hbd.gr hm20
     replace hm0 := hm0.old1 hm20 hge_g5
     replace ho := own_far ho hm20 hno_ho_g5
     replace hl := hl.mod hm20 (by simp)
     replace hn26 := hn26.mod hm20 (by simp)
     replace hd26 := hd26.mod hm20 (by simp)
     clear hm20
     replace hb5 := hb5'; clear hb5'
     refine L.nil <| X.blockEnd <| X.seq <| W.region <| L.v (R1.addI (b := 1) rfl rfl (by omega)) rfl <| L.v (R1.move rfl) rfl <| L.nil <| X.next (i + 1, v37, css ++ [[.int .i64 (z22.1 : Int), .bool (decide ((z22.2 * x).num < 0)), .slice A26 (toL (z22.2 * x).num.natAbs).length c26, .slice B26 (toL (z22.2 * x).den).length e26]], o ++ [(z22.1, z22.2 * x)]) ?_ ?_ ?_
     · exact ⟨rfl, rfl, rfl, rfl, rfl, rfl, trivial⟩
     ·
      exact ⟨ht1.sub (by intro b hb; first | exact hb | (simp only [mq] at hb ⊢; grind)), hn2.sub (by intro b hb; first | exact hb | (simp only [mq] at hb ⊢; grind)), hd2.sub (by intro b hb; first | exact hb | (simp only [mq] at hb ⊢; grind)), hn14.sub (by intro b hb; first | exact hb | (simp only [mq] at hb ⊢; grind)), hd14.sub (by intro b hb; first | exact hb | (simp only [mq] at hb ⊢; grind)), hb3, hb4, hge_g5, hge_g4, hne_g4_g5, hne_g3_g4, hne_g3_g5, hge_g3, hbd.sub (by intro b hb; first | exact hb | (simp only [mq] at hb ⊢; grind)), hm0, own_congr ho (by simp) (by simp), (hl.sub (by intro b hb; first | exact hb | (simp only [mq] at hb ⊢; grind))).append (LayL.one _ (z22.1, z22.2 * x) ⟨A26, c26, B26, e26, rfl, hn26.sub (by intro b hb; first | exact hb | (simp only [mq] at hb ⊢; grind)), hd26.sub (by intro b hb; first | exact hb | (simp only [mq] at hb ⊢; grind))⟩), hb5, hno_ho_g3, hno_ho_g4, hno_ho_g5, by omega, by rw [scaleT_snoc hz22, ← heq, put0, if_neg hc29], by simp; omega⟩
     · first | omega | (dsimp only; omega)
    ·
     intro hc29
     simp only [Bool.not_eq_true', Bool.not_eq_false', decide_eq_true_eq, decide_eq_false_iff_not] at hc29
     refine W.skip <| X.blockEnd <| X.seq <| W.region <| L.v (R1.addI (b := 1) rfl rfl (by omega)) rfl <| L.v (R1.move rfl) rfl <| L.nil <| X.next (i + 1, u, css, o) ?_ ?_ ?_
     · exact ⟨rfl, rfl, rfl, rfl, rfl, rfl, trivial⟩
     ·
      exact ⟨ht1.sub (by intro b hb; first | exact hb | (simp only [mq] at hb ⊢; grind)), hn2.sub (by intro b hb; first | exact hb | (simp only [mq] at hb ⊢; grind)), hd2.sub (by intro b hb; first | exact hb | (simp only [mq] at hb ⊢; grind)), hn14.sub (by intro b hb; first | exact hb | (simp only [mq] at hb ⊢; grind)), hd14.sub (by intro b hb; first | exact hb | (simp only [mq] at hb ⊢; grind)), hb3, hb4, hge_g5, hge_g4, hne_g4_g5, hne_g3_g4, hne_g3_g5, hge_g3, hbd.sub (by intro b hb; first | exact hb | (simp only [mq] at hb ⊢; grind)), hm0, ho, hl.sub (by intro b hb; first | exact hb | (simp only [mq] at hb ⊢; grind)), hb5, hno_ho_g3, hno_ho_g4, hno_ho_g5, by omega, by rw [scaleT_snoc hz22, ← heq, put0, if_pos hc29, List.append_nil], by omega⟩
     · first | omega | (dsimp only; omega)
   ·
    intro hc20
    try simp only [bq, ne_eq] at hc20
    obtain rfl : i = l.length := by omega
    rw [List.take_length] at heq
    obtain ⟨Tu, tu, rfl⟩ := own_form ho
    refine W.exit <| X.thenExit <| X.nextExit <| X.here <| X.seq <| W.seq <| W.region <| L.v (R1.loadBox rfl hb5 tyG33) rfl <| L.storeBox rfl rfl hb4 rfl rfl tyG33 ?_
    intro w21 hb4' hm21
    replace hn14 := hn14.mod hm21 (by simp)
    replace hd14 := hd14.mod hm21 (by simp)
    replace hm0 := hm0.old1 hm21 hge_g4
    replace ho := own_far ho hm21 hno_ho_g4
    replace hl := hl.mod hm21 (by simp)
    clear hm21
    replace hb4 := hb4'; clear hb4'
    refine L.nil <| X.seq <| W.ret <| X.result1 rfl (.cell rfl (loadVar_blk hb4 tyG33) .nil) ?_
    exact ⟨⟨s1, Tu, tu, A14, c14, B14, e14, by rw [← heq], heq ▸ own_lay hbd0 ho hl (by intro b hb; first | exact hb | (simp only [mq] at hb ⊢; grind)), hn14.sub (by intro b hb; first | exact hb | (simp only [mq] at hb ⊢; grind)), hd14.sub (by intro b hb; first | exact hb | (simp only [mq] at hb ⊢; grind))⟩, hm0⟩

end Go.Proofs.Ytpnhihljgkohcaa
