/- Walks: what the functions compute. -/
import Derived.Test.YtpnhihljgkohcaaAff
import Derived.Test.YtpnhihljgkohcaaNorm
namespace Go.Proofs.Ytpnhihljgkohcaa
open Go.RowKit
set_option linter.unusedVariables false
set_option linter.unusedSimpArgs false
set_option maxRecDepth 10000

def takeL : Ts → Ts → Bool
  | _, [] => true
  | [], _ :: _ => false
  | s :: _, t :: _ => decide (s.1 < t.1)
theorem takeL_1 {l m : Ts} (h : m.length = 0) : true = takeL l m := by
  have := List.eq_nil_of_length_eq_zero h; subst this; cases l <;> rfl
theorem takeL_2 {l m : Ts} (h : ¬ m.length = 0) (h2 : ¬ 0 < l.length) : false = takeL l m := by
  have := List.eq_nil_of_length_eq_zero (Nat.eq_zero_of_not_pos h2); subst this
  cases m with
  | nil => exact absurd rfl h
  | cons t m => rfl
theorem takeL_3 {l m : Ts} {a b : Nat × Rat} (h : l[0]? = some a) (h2 : m[0]? = some b) : decide (a.1 < b.1) = takeL l m := by
  cases l with
  | nil => cases h
  | cons s l => cases m with
    | nil => cases h2
    | cons t m => injection h with h; injection h2 with h2; subst h; subst h2; rfl
theorem takeL_len {l m : Ts} (h : takeL l m = true) (h2 : 0 < l.length + m.length) : 0 < l.length := by
  cases l with
  | nil => cases m with
    | nil => simp at h2
    | cons t m => cases h
  | cons s l => simp
theorem takeL_F {l m : Ts} (h : takeL l m = false) : 0 < m.length := by
  cases m with
  | nil => cases l <;> cases h
  | cons t m => simp
def put0 (x : Nat × Rat) : Ts := if x.2 = 0 then [] else [x]
theorem addT_L {l m : Ts} {x : Nat × Rat} (h : takeL l m = true) (hz : l[0]? = some x) (hx : x.2 ≠ 0) : addT l m = put0 x ++ addT (l.drop 1) m := by
  unfold put0; rw [if_neg hx]
  cases l with
  | nil => cases hz
  | cons s l =>
    injection hz with hz; subst hz
    cases m with
    | nil => simp [addT, addT_nil]
    | cons t m =>
      have h9 : s.1 < t.1 := by simpa [takeL] using h
      rw [addT, if_pos h9]; rfl
theorem addT_R {l m : Ts} {y : Nat × Rat} (h : takeL l m = false) (hz : m[0]? = some y) (hl : l.length = 0 ∨ ∃ s, l[0]? = some s ∧ y.1 < s.1) (hy : y.2 ≠ 0) : addT l m = put0 y ++ addT l (m.drop 1) := by
  unfold put0; rw [if_neg hy]
  cases m with
  | nil => cases hz
  | cons t m =>
    injection hz with hz; subst hz
    cases l with
    | nil => simp [addT]
    | cons s l =>
      have h9 : ¬ s.1 < t.1 := by simpa [takeL] using h
      rcases hl with hl | ⟨s', hs, hlt⟩
      · simp at hl
      · injection hs with hs; subst hs
        rw [addT, if_neg h9, if_pos hlt]; rfl
theorem addT_B {l m : Ts} {x y : Nat × Rat} (h : takeL l m = false) (hx : l[0]? = some x) (hy : m[0]? = some y) (hlt : ¬ y.1 < x.1) : addT l m = put0 (x.1, x.2 + y.2) ++ addT (l.drop 1) (m.drop 1) := by
  unfold put0
  cases l with
  | nil => cases hx
  | cons s l => cases m with
    | nil => cases hy
    | cons t m =>
      injection hx with hx; injection hy with hy; subst hx; subst hy
      have h9 : ¬ s.1 < t.1 := by simpa [takeL] using h
      rw [addT, if_neg h9, if_neg hlt]
      split <;> simp
theorem mem_drop {α : Type} {l : List α} {n : Nat} {P : α → Prop} (h : ∀ x ∈ l, P x) : ∀ x ∈ l.drop n, P x := fun x hx => h x (List.mem_of_mem_drop hx)
theorem own_lay {α : Type} {R : Rd α} {M N : List Nat} {w w0 : World} {el : Nat} {v : Value} {xs : List α} {css : List (List Value)} (hbd : Bd M w0) (h : w.ownsRow w0.heap.size el R.size v xs.length css.flatten) (hl : LayL R N w css xs) (hs : ∀ g ∈ M, g ∈ N) : Lay R M w v xs :=
  Lay.of_own h (hl.sub hs) (fun g hg => hbd.not (own_ge h g hg).1)


theorem built_T : Try.prog.built 46 [] = some #[.int .i64 0, .bool false, .slice none 0 0, .slice none 0 0] := by kernel_rfl
theorem built_T01 (v : Int) (s : Bool) (A : Option Addr) (n c : Nat) (B : Option Addr) (m d : Nat) : Try.prog.built 46 [(0, .int .i64 v), (1, .agg #[.bool s, .slice A n c, .slice B m d])] = some #[.int .i64 v, .bool s, .slice A n c, .slice B m d] := by kernel_rfl
theorem built_C02 (v : Int) (s : Bool) (A : Option Addr) (n c : Nat) (B : Option Addr) (m d : Nat) : Try.prog.built 33 [(0, .int .i64 v), (2, .agg #[.bool s, .slice A n c, .slice B m d])] = some #[.int .i64 v, .slice none 0 0, .bool s, .slice A n c, .slice B m d] := by kernel_rfl
theorem fillN1 (v : Int) (s : Bool) (A : Option Addr) (n c : Nat) (B : Option Addr) (m d : Nat) : Instr.fill (fun i => some (i * 4, 4)) ((Array.range (1 * 4)).map ((Value.agg #[.int .i64 0, .bool false, .slice none 0 0, .slice none 0 0]).cells[· % (Value.agg #[.int .i64 0, .bool false, .slice none 0 0, .slice none 0 0]).cells.size]!)) [(0, .agg #[.int .i64 v, .bool s, .slice A n c, .slice B m d])] = some #[.int .i64 v, .bool s, .slice A n c, .slice B m d] := by kernel_rfl

set_option maxHeartbeats 1000000 in
theorem c_aff_Add {M N1 N2 : List Nat} {w : World} {va vb : Value} {l m : Ts} {k j : Rat} (ha : RK N1 w va l k) (hb : RK N2 w vb m j) (hbd : Bd M w) (fl : ∀ x ∈ l, Fit x.2 68719476736) (fm : ∀ x ∈ m, Fit x.2 68719476736) (fk : Fit k 68719476736) (fj : Fit j 68719476736) (nl : ∀ x ∈ l, x.2 ≠ 0) (nm : ∀ x ∈ m, x.2 ≠ 0) (ll : l.length ≤ 68719476736) (lm : m.length ≤ 68719476736) :
    Ret Try.prog 87 #[va, vb] w (fun r w' => RK M w' r (addT l m) (k + j) ∧ Mod [] w w') := by
 have hbd0 := hbd
 obtain ⟨s1, T1, t1, A1, c1, B1, e1, rfl, ht1, hn1, hd1⟩ := ha
 obtain ⟨s2, T2, t2, A2, c2, B2, e2, rfl, ht2, hn2, hd2⟩ := hb
 refine Ret.of (vs := [.agg #[.int .i64 s1, .slice T1 l.length t1, .bool (decide (k.num < 0)), .slice A1 (toL k.num.natAbs).length c1, .slice B1 (toL k.den).length e1], .agg #[.int .i64 s2, .slice T2 m.length t2, .bool (decide (j.num < 0)), .slice A2 (toL j.num.natAbs).length c2, .slice B2 (toL j.den).length e2]]) (n := 116) Try.func87 rfl rfl rfl rfl ?_
 have hm0 : Mod [] w w := Mod.refl _ _
 refine W.seq <| W.region <| L.box rfl rfl ?_
 intro g2 w1 hN2
 replace ht1 := ht1.new hN2
 replace hn1 := hn1.new hN2
 replace hd1 := hd1.new hN2
 replace ht2 := ht2.new hN2
 replace hn2 := hn2.new hN2
 replace hd2 := hd2.new hN2
 replace hbd := hbd.new hN2
 replace hm0 := hm0.trans (hN2.mod.mono (by simp))
 have hb2 := hN2.blk
 clear hN2
 refine L.box rfl rfl ?_
 intro g3 w2 hN3
 replace ht1 := ht1.new hN3
 replace hn1 := hn1.new hN3
 replace hd1 := hd1.new hN3
 replace ht2 := ht2.new hN3
 replace hn2 := hn2.new hN3
 replace hd2 := hd2.new hN3
 replace hbd := hbd.new hN3
 replace hm0 := hm0.trans (hN3.mod.mono (by simp))
 replace hb2 := Blk.gr hb2 hN3.mod
 have hb3 := hN3.blk
 clear hN3
 refine L.alloc tyZ33 rfl ?_
 intro g4 w3 hN4
 replace ht1 := ht1.new hN4
 replace hn1 := hn1.new hN4
 replace hd1 := hd1.new hN4
 replace ht2 := ht2.new hN4
 replace hn2 := hn2.new hN4
 replace hd2 := hd2.new hN4
 replace hbd := hbd.new hN4
 have hge_g4 := New.ge hN4 hm0.size
 replace hm0 := hm0.trans (hN4.mod.mono (by simp))
 replace hb2 := Blk.gr hb2 hN4.mod
 replace hb3 := Blk.gr hb3 hN4.mod
 have hb4 := hN4.blk
 clear hN4
 refine L.nil <| X.seq <| W.seq <| W.cut (ι := Option Addr × Nat × Option Addr × Nat × Nat) (fun (A15, c15, B15, e15, g5) => [(2, .pointer (some ⟨g2, 0, none⟩)), (3, .pointer (some ⟨g3, 0, none⟩)), (4, .pointer (some ⟨g4, 0, none⟩)), (5, .pointer (some ⟨g5, 0, none⟩))]) (fun (A15, c15, B15, e15, g5) w_ => Lay rdN (g5 :: g4 :: N1) w_ (.slice T1 l.length t1) l ∧ Lay rdN (g5 :: g4 :: N2) w_ (.slice T2 m.length t2) m ∧ U32 (g5 :: g4 :: M) w_ (.slice A15 (toL (k + j).num.natAbs).length c15) (toL (k + j).num.natAbs) ∧ U32 (g5 :: g4 :: M) w_ (.slice B15 (toL (k + j).den).length e15) (toL (k + j).den) ∧ Blk w_ g2 33 #[.int .i64 s1, .slice T1 l.length t1, .bool (decide (k.num < 0)), .slice A1 (toL k.num.natAbs).length c1, .slice B1 (toL k.den).length e1] ∧ Blk w_ g3 33 #[.int .i64 s2, .slice T2 m.length t2, .bool (decide (j.num < 0)), .slice A2 (toL j.num.natAbs).length c2, .slice B2 (toL j.den).length e2] ∧ Blk w_ g4 33 #[.int .i64 0, .slice none 0 0, .bool false, .slice none 0 0, .slice none 0 0] ∧ Blk w_ g5 33 #[.int .i64 s1, .slice none 0 0, .bool (decide ((k + j).num < 0)), .slice A15 (toL (k + j).num.natAbs).length c15, .slice B15 (toL (k + j).den).length e15] ∧ w.heap.size ≤ g5 ∧ w.heap.size ≤ g4 ∧ g4 ≠ g5 ∧ Bd (g5 :: g4 :: M) w_ ∧ Mod [] w w_) ?_ ?_
 ·
  refine W.drawW (T := [9]) rfl (by decide +kernel) (NoHang.join (NoHang.then NoHang.post)) (fun w4 hm4 => ?_)
  replace ht1 := ht1.gr hm4
  replace hn1 := hn1.gr hm4
  replace hd1 := hd1.gr hm4
  replace ht2 := ht2.gr hm4
  replace hn2 := hn2.gr hm4
  replace hd2 := hd2.gr hm4
  replace hbd := hbd.gr hm4
  replace hm0 := hm0.trans hm4
  replace hb2 := Blk.gr hb2 hm4
  replace hb3 := Blk.gr hb3 hm4
  replace hb4 := Blk.gr hb4 hm4
  have hS1 : Mod [] w4 w4 := Mod.refl _ _
  clear hm4
  have hb2_s := hb2
  have hb3_s := hb3
  refine D.take 0 rfl (by decide +kernel) (fun w_ hS => (R1.fieldAt rfl tyF33_0)) hS1 rfl <| D.take 1 rfl (by decide +kernel) (fun w_ hS => (R1.loadFld rfl (Blk.gr hb2_s hS) rfl tyP3)) hS1 rfl <| D.take 2 rfl (by decide +kernel) (fun w_ hS => (R1.fieldAt rfl tyF33_2)) hS1 rfl <| D.take 3 rfl (by decide +kernel) (fun w_ hS => (R1.loadBoxAt (ds := [.bool (decide (k.num < 0)), .slice A1 (toL k.num.natAbs).length c1, .slice B1 (toL k.den).length e1]) rfl (Blk.gr hb2_s hS) rfl tyG31)) hS1 rfl <| D.take 4 rfl (by decide +kernel) (fun w_ hS => (R1.fieldAt rfl tyF33_2)) hS1 rfl <| D.take 5 rfl (by decide +kernel) (fun w_ hS => (R1.loadBoxAt (ds := [.bool (decide (j.num < 0)), .slice A2 (toL j.num.natAbs).length c2, .slice B2 (toL j.den).length e2]) rfl (Blk.gr hb3_s hS) rfl tyG31)) hS1 rfl <| D.many (rs := [6, 8]) (by decide +kernel) rfl ?_
  intro i_ hi_
  simp only [List.mem_cons, List.not_mem_nil, or_false] at hi_
  rcases hi_ with rfl | rfl
  ·
   refine ⟨_, rfl, fun hX => ?_⟩
   refine L.call rfl (c_rat_Add (qa := k) (qb := j) (rv_toL _) (rv_toL _) hn1 hd1 hn2 hd2 hbd (Nat.le_trans fk.1 (by decide)) (Nat.le_trans fk.2 (by decide)) (Nat.le_trans fj.1 (by decide)) (Nat.le_trans fj.2 (by decide))) rfl ?_
   rintro _ w5 ⟨⟨A15, c15, B15, e15, rfl, hn15, hd15⟩, hm5⟩
   replace ht1 := ht1.gr hm5
   replace ht2 := ht2.gr hm5
   replace hbd := hbd.gr hm5
   replace hm0 := hm0.trans hm5
   replace hb2 := Blk.gr hb2 hm5
   replace hb3 := Blk.gr hb3 hm5
   replace hb4 := Blk.gr hb4 hm5
   replace hS1 := hS1.trans hm5
   clear hm5
   have F15 := Fit.add fk fj
   refine L.nil (hX _ _ ⟨.inr hS1, ?_⟩)
   refine D.take 7 rfl (by decide +kernel) (fun w_ hS => (R1.build (vs := [.int .i64 s1, .agg #[.bool (decide ((k + j).num < 0)), .slice A15 (toL (k + j).num.natAbs).length c15, .slice B15 (toL (k + j).den).length e15]]) rfl (built_C02 _ _ _ _ _ _ _ _))) hS1 rfl <| D.one 8 rfl (by decide +kernel) (fun hX => ?_)
   refine L.alloc tyZ33 rfl ?_
   intro g5 w6 hN5
   replace hS1 := hS1.trans hN5.mod
   replace ht1 := ht1.new hN5
   replace ht2 := ht2.new hN5
   replace hbd := hbd.new hN5
   have hge_g5 := New.ge hN5 hm0.size
   replace hm0 := hm0.trans (hN5.mod.mono (by simp))
   have hne_g2_g5 := hb2.ne_ hN5
   replace hb2 := Blk.gr hb2 hN5.mod
   have hne_g3_g5 := hb3.ne_ hN5
   replace hb3 := Blk.gr hb3 hN5.mod
   have hne_g4_g5 := hb4.ne_ hN5
   replace hb4 := Blk.gr hb4 hN5.mod
   replace hn15 := hn15.new hN5
   replace hd15 := hd15.new hN5
   have hb5 := hN5.blk
   clear hN5
   refine L.nil (hX _ _ ⟨.inr hS1, ?_⟩)
   refine D.one 9 rfl (by decide +kernel) (fun hX => ?_)
   refine L.storeBox rfl rfl hb5 rfl rfl tyG33 ?_
   intro w7 hb5' hm7
   replace ht1 := ht1.mod hm7 (by simp)
   replace ht2 := ht2.mod hm7 (by simp)
   replace hbd := hbd.gr hm7
   replace hm0 := hm0.old1 hm7 hge_g5
   replace hb2 := Blk.far hb2 hm7 (by first | exact hne_g2_g5 | exact (hne_g5_g2).symm)
   replace hb3 := Blk.far hb3 hm7 (by first | exact hne_g3_g5 | exact (hne_g5_g3).symm)
   replace hb4 := Blk.far hb4 hm7 (by first | exact hne_g4_g5 | exact (hne_g5_g4).symm)
   replace hn15 := hn15.mod hm7 (by simp)
   replace hd15 := hd15.mod hm7 (by simp)
   clear hm7
   replace hb5 := hb5'; clear hb5'
   refine L.nil (hX _ _ ⟨.inl rfl, ?_⟩)
   refine D.done (by decide +kernel) ?_ _
   refine X.join (A15, c15, B15, e15, g5) ?_ ?_
   · exact ⟨rfl, rfl, rfl, rfl, trivial⟩
   ·
    exact ⟨ht1.sub (by intro b hb; first | exact hb | (simp only [mq] at hb ⊢; grind)), ht2.sub (by intro b hb; first | exact hb | (simp only [mq] at hb ⊢; grind)), hn15.sub (by intro b hb; first | exact hb | (simp only [mq] at hb ⊢; grind)), hd15.sub (by intro b hb; first | exact hb | (simp only [mq] at hb ⊢; grind)), hb2, hb3, hb4, hb5, hge_g5, hge_g4, hne_g4_g5, hbd.sub (by intro b hb; first | exact hb | (simp only [mq] at hb ⊢; grind)), hm0⟩
  ·
   refine ⟨_, rfl, fun hX => ?_⟩
   refine L.alloc tyZ33 rfl ?_
   intro g5 w8 hN5
   replace hS1 := hS1.trans hN5.mod
   replace ht1 := ht1.new hN5
   replace hn1 := hn1.new hN5
   replace hd1 := hd1.new hN5
   replace ht2 := ht2.new hN5
   replace hn2 := hn2.new hN5
   replace hd2 := hd2.new hN5
   replace hbd := hbd.new hN5
   have hge_g5 := New.ge hN5 hm0.size
   replace hm0 := hm0.trans (hN5.mod.mono (by simp))
   have hne_g2_g5 := hb2.ne_ hN5
   replace hb2 := Blk.gr hb2 hN5.mod
   have hne_g3_g5 := hb3.ne_ hN5
   replace hb3 := Blk.gr hb3 hN5.mod
   have hne_g4_g5 := hb4.ne_ hN5
   replace hb4 := Blk.gr hb4 hN5.mod
   have hb5 := hN5.blk
   clear hN5
   refine L.nil (hX _ _ ⟨.inr hS1, ?_⟩)
   refine D.one 6 rfl (by decide +kernel) (fun hX => ?_)
   refine L.call rfl (c_rat_Add (qa := k) (qb := j) (rv_toL _) (rv_toL _) hn1 hd1 hn2 hd2 hbd (Nat.le_trans fk.1 (by decide)) (Nat.le_trans fk.2 (by decide)) (Nat.le_trans fj.1 (by decide)) (Nat.le_trans fj.2 (by decide))) rfl ?_
   rintro _ w9 ⟨⟨A15, c15, B15, e15, rfl, hn15, hd15⟩, hm9⟩
   replace ht1 := ht1.gr hm9
   replace ht2 := ht2.gr hm9
   replace hbd := hbd.gr hm9
   replace hm0 := hm0.trans hm9
   replace hb2 := Blk.gr hb2 hm9
   replace hb3 := Blk.gr hb3 hm9
   replace hb4 := Blk.gr hb4 hm9
   replace hb5 := Blk.gr hb5 hm9
   replace hS1 := hS1.trans hm9
   clear hm9
   have F15 := Fit.add fk fj
   refine L.nil (hX _ _ ⟨.inr hS1, ?_⟩)
   refine D.take 7 rfl (by decide +kernel) (fun w_ hS => (R1.build (vs := [.int .i64 s1, .agg #[.bool (decide ((k + j).num < 0)), .slice A15 (toL (k + j).num.natAbs).length c15, .slice B15 (toL (k + j).den).length e15]]) rfl (built_C02 _ _ _ _ _ _ _ _))) hS1 rfl <| D.one 9 rfl (by decide +kernel) (fun hX => ?_)
   refine L.storeBox rfl rfl hb5 rfl rfl tyG33 ?_
   intro w10 hb5' hm10
   replace ht1 := ht1.mod hm10 (by simp)
   replace ht2 := ht2.mod hm10 (by simp)
   replace hbd := hbd.gr hm10
   replace hm0 := hm0.old1 hm10 hge_g5
   replace hb2 := Blk.far hb2 hm10 (by first | exact hne_g2_g5 | exact (hne_g5_g2).symm)
   replace hb3 := Blk.far hb3 hm10 (by first | exact hne_g3_g5 | exact (hne_g5_g3).symm)
   replace hb4 := Blk.far hb4 hm10 (by first | exact hne_g4_g5 | exact (hne_g5_g4).symm)
   replace hn15 := hn15.mod hm10 (by simp)
   replace hd15 := hd15.mod hm10 (by simp)
   clear hm10
   replace hb5 := hb5'; clear hb5'
   refine L.nil (hX _ _ ⟨.inl rfl, ?_⟩)
   refine D.done (by decide +kernel) ?_ _
   refine X.join (A15, c15, B15, e15, g5) ?_ ?_
   · exact ⟨rfl, rfl, rfl, rfl, trivial⟩
   ·
    exact ⟨ht1.sub (by intro b hb; first | exact hb | (simp only [mq] at hb ⊢; grind)), ht2.sub (by intro b hb; first | exact hb | (simp only [mq] at hb ⊢; grind)), hn15.sub (by intro b hb; first | exact hb | (simp only [mq] at hb ⊢; grind)), hd15.sub (by intro b hb; first | exact hb | (simp only [mq] at hb ⊢; grind)), hb2, hb3, hb4, hb5, hge_g5, hge_g4, hne_g4_g5, hbd.sub (by intro b hb; first | exact hb | (simp only [mq] at hb ⊢; grind)), hm0⟩
 ·
  rintro ⟨A15, c15, B15, e15, g5⟩ wj ⟨ht1, ht2, hn15, hd15, hb2, hb3, hb4, hb5, hge_g5, hge_g4, hne_g4_g5, hbd, hm0⟩
  refine X.seq <| W.seq <| W.drawW (T := []) rfl (by decide +kernel) (NoHang.then NoHang.post) (fun w11 hm11 => ?_)
  replace ht1 := ht1.gr hm11
  replace ht2 := ht2.gr hm11
  replace hn15 := hn15.gr hm11
  replace hd15 := hd15.gr hm11
  replace hb2 := Blk.gr hb2 hm11
  replace hb3 := Blk.gr hb3 hm11
  replace hb4 := Blk.gr hb4 hm11
  replace hb5 := Blk.gr hb5 hm11
  replace hbd := hbd.gr hm11
  replace hm0 := hm0.trans hm11
  have hS2 : Mod [] w11 w11 := Mod.refl _ _
  clear hm11
  have hb2_s := hb2
  have hb3_s := hb3
  refine D.take 0 rfl (by decide +kernel) (fun w_ hS => (R1.fieldAt rfl tyF33_1)) hS2 rfl <| D.take 1 rfl (by decide +kernel) (fun w_ hS => (R1.loadFld rfl (Blk.gr hb2_s hS) rfl tyP28)) hS2 rfl <| D.take 2 rfl (by decide +kernel) (fun w_ hS => (R1.fieldAt rfl tyF33_1)) hS2 rfl <| D.take 3 rfl (by decide +kernel) (fun w_ hS => (R1.loadFld rfl (Blk.gr hb3_s hS) rfl tyP28)) hS2 rfl <| D.take 4 rfl (by decide +kernel) (fun w_ hS => (R1.assign rfl)) hS2 rfl <| D.take 5 rfl (by decide +kernel) (fun w_ hS => (R1.assign rfl)) hS2 rfl <| D.done (by decide +kernel) ?_ _
  refine X.seq <| W.seq <| W.block <| W.loop (ι := Ts × Option Addr × Nat × Ts × Option Addr × Nat × Value × List (List Value) × Ts) (fun (l1, T1, t1, m1, T2, t2, u, css, o) => [(4, .pointer (some ⟨g4, 0, none⟩)), (5, .pointer (some ⟨g5, 0, none⟩)), (6, .slice T1 l1.length t1), (7, .slice T2 m1.length t2)]) (fun (l1, T1, t1, m1, T2, t2, u, css, o) w_ => Lay rdN (ownL u ++ g5 :: g4 :: N1) w_ (.slice T1 l1.length t1) l1 ∧ Lay rdN (ownL u ++ g5 :: g4 :: N2) w_ (.slice T2 m1.length t2) m1 ∧ U32 (ownL u ++ g5 :: g4 :: M) w_ (.slice A15 (toL (k + j).num.natAbs).length c15) (toL (k + j).num.natAbs) ∧ U32 (ownL u ++ g5 :: g4 :: M) w_ (.slice B15 (toL (k + j).den).length e15) (toL (k + j).den) ∧ w_.ownsRow w.heap.size 46 4 u o.length css.flatten ∧ LayL rdN (ownL u ++ g5 :: g4 :: M) w_ css o ∧ Blk w_ g4 33 #[.int .i64 0, .slice none 0 0, .bool false, .slice none 0 0, .slice none 0 0] ∧ Blk w_ g5 33 #[.int .i64 s1, u, .bool (decide ((k + j).num < 0)), .slice A15 (toL (k + j).num.natAbs).length c15, .slice B15 (toL (k + j).den).length e15] ∧ w.heap.size ≤ g5 ∧ w.heap.size ≤ g4 ∧ g4 ≠ g5 ∧ u.ownBlock ≠ some g4 ∧ u.ownBlock ≠ some g5 ∧ (∀ x ∈ l1, x ∈ l) ∧ (∀ x ∈ m1, x ∈ m) ∧ addT l m = o ++ addT l1 m1 ∧ l1.length + m1.length + o.length ≤ l.length + m.length ∧ Bd (ownL u ++ g5 :: g4 :: M) w_ ∧ Mod [] w w_) (fun (l1, T1, t1, m1, T2, t2, u, css, o) => l1.length + m1.length) (l, T1, t1, m, T2, t2, .slice none 0 0, [], []) ?_ ?_ ?_
  · exact ⟨rfl, rfl, rfl, rfl, trivial⟩
  ·
   exact ⟨ht1.sub (by intro b hb; first | exact hb | (simp only [mq] at hb ⊢; grind)), ht2.sub (by intro b hb; first | exact hb | (simp only [mq] at hb ⊢; grind)), hn15.sub (by intro b hb; first | exact hb | (simp only [mq] at hb ⊢; grind)), hd15.sub (by intro b hb; first | exact hb | (simp only [mq] at hb ⊢; grind)), own_nil _ _ _ _, LayL.nil, hb4, hb5, hge_g5, hge_g4, hne_g4_g5, (fun h => by cases h), (fun h => by cases h), (fun _ h => h), (fun _ h => h), rfl, (by simp), hbd.sub (by intro b hb; first | exact hb | (simp only [mq] at hb ⊢; grind)), hm0⟩
  ·
   rintro ⟨l1, T1, t1, m1, T2, t2, u, css, o⟩ w12 ⟨ht1, ht2, hn15, hd15, ho, hl, hb4, hb5, hge_g5, hge_g4, hne_g4_g5, hno_ho_g4, hno_ho_g5, sl, sm, heq, hinv, hbd, hm0⟩
   have hx1 := ht1.max
   have hx2 := ht2.max
   unfold maxLen at hx1 hx2
   refine W.seq <| W.seq <| W.region <| L.v (R1.move rfl) rfl <| L.v (R1.lenLay rfl ht1 tyS28) rfl <| L.v (R1.move rfl) rfl <| L.v (R1.lenLay rfl ht2 tyS28) rfl <| L.v (R1.addI rfl rfl (by omega)) rfl <| L.v (R1.gt rfl rfl) rfl <| L.nil <| X.seq ?_
   refine W.cond rfl ?_ ?_
   ·
    intro hc26
    try simp only [bq, ne_eq] at hc26
    refine W.skip <| X.seq <| W.block <| W.seq <| W.region <| L.v (R1.build (vs := []) rfl built_T) rfl <| L.alloc tyZ46 rfl ?_
    intro g8 w13 hN8
    replace ht1 := ht1.new hN8
    replace ht2 := ht2.new hN8
    replace hn15 := hn15.new hN8
    replace hd15 := hd15.new hN8
    have hno_ho_g8 := own_ne_new ho hN8
    replace ho := own_gr ho hN8.mod (by simp)
    replace hl := hl.new hN8
    have hne_g4_g8 := hb4.ne_ hN8
    replace hb4 := Blk.gr hb4 hN8.mod
    have hne_g5_g8 := hb5.ne_ hN8
    replace hb5 := Blk.gr hb5 hN8.mod
    replace hbd := hbd.new hN8
    have hge_g8 := New.ge hN8 hm0.size
    replace hm0 := hm0.trans (hN8.mod.mono (by simp))
    have hb8 := hN8.blk
    clear hN8
    refine L.storeBox rfl rfl hb8 rfl rfl tyG46 ?_
    intro w14 hb8' hm14
    replace ht1 := ht1.mod hm14 (by simp)
    replace ht2 := ht2.mod hm14 (by simp)
    replace hn15 := hn15.mod hm14 (by simp)
    replace hd15 := hd15.mod hm14 (by simp)
    replace ho := own_far ho hm14 hno_ho_g8
    replace hl := hl.mod hm14 (by simp)
    replace hb4 := Blk.far hb4 hm14 (by first | exact hne_g4_g8 | exact (hne_g8_g4).symm)
    replace hb5 := Blk.far hb5 hm14 (by first | exact hne_g5_g8 | exact (hne_g8_g5).symm)
    replace hbd := hbd.gr hm14
    replace hm0 := hm0.old1 hm14 hge_g8
    clear hm14
    replace hb8 := hb8'; clear hb8'
    refine L.nil <| X.seq <| W.seq <| W.block <| W.seq <| W.cut (ι := Unit) (fun _ => [(4, .pointer (some ⟨g4, 0, none⟩)), (5, .pointer (some ⟨g5, 0, none⟩)), (6, .slice T1 l1.length t1), (7, .slice T2 m1.length t2), (8, .pointer (some ⟨g8, 0, none⟩)), (46, .bool (takeL l1 m1))]) (fun _ w_ => Lay rdN (g8 :: (ownL u ++ g5 :: g4 :: N1)) w_ (.slice T1 l1.length t1) l1 ∧ Lay rdN (g8 :: (ownL u ++ g5 :: g4 :: N2)) w_ (.slice T2 m1.length t2) m1 ∧ U32 (g8 :: (ownL u ++ g5 :: g4 :: M)) w_ (.slice A15 (toL (k + j).num.natAbs).length c15) (toL (k + j).num.natAbs) ∧ U32 (g8 :: (ownL u ++ g5 :: g4 :: M)) w_ (.slice B15 (toL (k + j).den).length e15) (toL (k + j).den) ∧ w_.ownsRow w.heap.size 46 4 u o.length css.flatten ∧ LayL rdN (g8 :: (ownL u ++ g5 :: g4 :: M)) w_ css o ∧ Blk w_ g4 33 #[.int .i64 0, .slice none 0 0, .bool false, .slice none 0 0, .slice none 0 0] ∧ Blk w_ g5 33 #[.int .i64 s1, u, .bool (decide ((k + j).num < 0)), .slice A15 (toL (k + j).num.natAbs).length c15, .slice B15 (toL (k + j).den).length e15] ∧ w.heap.size ≤ g5 ∧ w.heap.size ≤ g4 ∧ g4 ≠ g5 ∧ u.ownBlock ≠ some g4 ∧ u.ownBlock ≠ some g5 ∧ (∀ x ∈ l1, x ∈ l) ∧ (∀ x ∈ m1, x ∈ m) ∧ addT l m = o ++ addT l1 m1 ∧ l1.length + m1.length + o.length ≤ l.length + m.length ∧ Bd (g8 :: (ownL u ++ g5 :: g4 :: M)) w_ ∧ Mod [] w w_ ∧ Blk w_ g8 46 #[.int .i64 0, .bool false, .slice none 0 0, .slice none 0 0] ∧ w.heap.size ≤ g8 ∧ g4 ≠ g8 ∧ g5 ≠ g8 ∧ u.ownBlock ≠ some g8) ?_ ?_
    ·
     refine W.drawW (T := []) rfl (by decide +kernel) (NoHang.join (NoHang.then (NoHang.block (NoHang.then (NoHang.block (NoHang.next (NoHang.block (NoHang.then NoHang.post)))))))) (fun w15 hm15 => ?_)
     replace ht1 := ht1.gr hm15
     replace ht2 := ht2.gr hm15
     replace hn15 := hn15.gr hm15
     replace hd15 := hd15.gr hm15
     replace ho := own_gr ho hm15 (by simp)
     replace hl := hl.gr hm15
     replace hb4 := Blk.gr hb4 hm15
     replace hb5 := Blk.gr hb5 hm15
     replace hbd := hbd.gr hm15
     replace hm0 := hm0.trans hm15
     replace hb8 := Blk.gr hb8 hm15
     have hS3 : Mod [] w15 w15 := Mod.refl _ _
     clear hm15
     refine D.take 0 rfl (by decide +kernel) (fun w_ hS => (R1.move rfl)) hS3 rfl <| D.take 1 rfl (by decide +kernel) (fun w_ hS => (R1.lenLay rfl (Lay.gr ht2 hS) tyS28)) hS3 rfl <| D.take 2 rfl (by decide +kernel) (fun w_ hS => ((R1.eq rfl rfl).asB (c := decide (m1.length = 0)) (by congr 1; apply propext; omega))) hS3 rfl <| D.take 3 rfl (by decide +kernel) (fun w_ hS => (R1.move rfl)) hS3 rfl ?_
     cases hgd50 : decide (m1.length = 0)
     ·
      simp only [bq] at hgd50
      refine D.takeOn 4 rfl rfl rfl rfl (by decide +kernel) (fun w_ hS => (R1.move rfl)) hS3 rfl <| D.takeOn 5 rfl rfl rfl rfl (by decide +kernel) (fun w_ hS => (R1.lenLay rfl (Lay.gr ht1 hS) tyS28)) hS3 rfl <| D.takeOn 6 rfl rfl rfl rfl (by decide +kernel) (fun w_ hS => ((R1.gt rfl rfl).asB (c := decide (0 < l1.length)) (by congr 1; apply propext; omega))) hS3 rfl <| D.takeOn 7 rfl rfl rfl rfl (by decide +kernel) (fun w_ hS => (R1.move rfl)) hS3 rfl ?_
      cases hgd54 : decide (0 < l1.length)
      ·
       simp only [bq] at hgd54
       refine D.off 8 rfl rfl rfl rfl rfl (by decide +kernel) hS3 rfl <| D.off 9 rfl rfl rfl rfl rfl (by decide +kernel) hS3 rfl <| D.off 10 rfl rfl rfl rfl rfl (by decide +kernel) hS3 rfl <| D.off 11 rfl rfl rfl rfl rfl (by decide +kernel) hS3 rfl <| D.off 12 rfl rfl rfl rfl rfl (by decide +kernel) hS3 rfl <| D.off 13 rfl rfl rfl rfl rfl (by decide +kernel) hS3 rfl <| D.off 14 rfl rfl rfl rfl rfl (by decide +kernel) hS3 rfl <| D.off 15 rfl rfl rfl rfl rfl (by decide +kernel) hS3 rfl <| D.off 16 rfl rfl rfl rfl rfl (by decide +kernel) hS3 rfl <| D.takeOn 17 rfl rfl rfl rfl (by decide +kernel) (fun w_ hS => (R1.pickF rfl rfl)) hS3 rfl <| D.take 18 rfl (by decide +kernel) (fun w_ hS => (R1.pickF rfl rfl)) hS3 rfl ?_
       refine D.take 19 rfl (by decide +kernel) (fun w_ hS => (R1.assign rfl)) hS3 rfl <| D.done (by decide +kernel) ?_ _
       refine X.join () ?_ ?_
       · first | exact ⟨rfl, rfl, rfl, rfl, rfl, congrArg (fun b => some (Value.bool b)) (takeL_1 hgd50), trivial⟩ | exact ⟨rfl, rfl, rfl, rfl, rfl, congrArg (fun b => some (Value.bool b)) (takeL_2 hgd50 (by omega)), trivial⟩ | exact ⟨rfl, rfl, rfl, rfl, rfl, congrArg (fun b => some (Value.bool b)) (takeL_3 hz58 hz62), trivial⟩
       ·
        exact ⟨ht1.sub (by intro b hb; first | exact hb | (simp only [mq] at hb ⊢; grind)), ht2.sub (by intro b hb; first | exact hb | (simp only [mq] at hb ⊢; grind)), hn15.sub (by intro b hb; first | exact hb | (simp only [mq] at hb ⊢; grind)), hd15.sub (by intro b hb; first | exact hb | (simp only [mq] at hb ⊢; grind)), ho, hl.sub (by intro b hb; first | exact hb | (simp only [mq] at hb ⊢; grind)), hb4, hb5, hge_g5, hge_g4, hne_g4_g5, hno_ho_g4, hno_ho_g5, sl, sm, heq, hinv, hbd.sub (by intro b hb; first | exact hb | (simp only [mq] at hb ⊢; grind)), hm0, hb8, hge_g8, hne_g4_g8, hne_g5_g8, hno_ho_g8⟩
      ·
       simp only [bq] at hgd54
       refine D.takeOn 8 rfl rfl rfl rfl (by decide +kernel) (fun w_ hS => (R1.move rfl)) hS3 rfl <| D.takeOn 9 rfl rfl rfl rfl (by decide +kernel) (fun w_ hS => (R1.atLay (j := 0) rfl rfl (Lay.gr ht1 hS) tyS28 rfl (by omega))) hS3 rfl <| D.takeOn 10 rfl rfl rfl rfl (by decide +kernel) (fun w_ hS => (R1.fieldAddr rfl tyF46_0)) hS3 rfl ?_
       obtain ⟨z58, cs58, hz58, hE58, A58, a58, B58, b58, rfl, hn58, hd58⟩ := Lay.elemQ ht1 (j := 0) (by omega)
       refine D.takeOn 11 rfl rfl rfl rfl (by decide +kernel) (fun w_ hS => (R1.loadEF rfl (SlE.gr hE58 hS) rfl tyP3)) hS3 rfl <| D.takeOn 12 rfl rfl rfl rfl (by decide +kernel) (fun w_ hS => (R1.move rfl)) hS3 rfl <| D.takeOn 13 rfl rfl rfl rfl (by decide +kernel) (fun w_ hS => (R1.atLay (j := 0) rfl rfl (Lay.gr ht2 hS) tyS28 rfl (by omega))) hS3 rfl <| D.takeOn 14 rfl rfl rfl rfl (by decide +kernel) (fun w_ hS => (R1.fieldAddr rfl tyF46_0)) hS3 rfl ?_
       obtain ⟨z62, cs62, hz62, hE62, A62, a62, B62, b62, rfl, hn62, hd62⟩ := Lay.elemQ ht2 (j := 0) (by omega)
       refine D.takeOn 15 rfl rfl rfl rfl (by decide +kernel) (fun w_ hS => (R1.loadEF rfl (SlE.gr hE62 hS) rfl tyP3)) hS3 rfl <| D.takeOn 16 rfl rfl rfl rfl (by decide +kernel) (fun w_ hS => ((R1.lt rfl rfl).asB (c := decide (z58.1 < z62.1)) (by congr 1; apply propext; omega))) hS3 rfl <| D.takeOn 17 rfl rfl rfl rfl (by decide +kernel) (fun w_ hS => (R1.pickT rfl rfl)) hS3 rfl <| D.take 18 rfl (by decide +kernel) (fun w_ hS => (R1.pickF rfl rfl)) hS3 rfl <| D.take 19 rfl (by decide +kernel) (fun w_ hS => (R1.assign rfl)) hS3 rfl <| D.done (by decide +kernel) ?_ _
       refine X.join () ?_ ?_
       · first | exact ⟨rfl, rfl, rfl, rfl, rfl, congrArg (fun b => some (Value.bool b)) (takeL_1 hgd50), trivial⟩ | exact ⟨rfl, rfl, rfl, rfl, rfl, congrArg (fun b => some (Value.bool b)) (takeL_2 hgd50 (by omega)), trivial⟩ | exact ⟨rfl, rfl, rfl, rfl, rfl, congrArg (fun b => some (Value.bool b)) (takeL_3 hz58 hz62), trivial⟩
       ·
        exact ⟨ht1.sub (by intro b hb; first | exact hb | (simp only [mq] at hb ⊢; grind)), ht2.sub (by intro b hb; first | exact hb | (simp only [mq] at hb ⊢; grind)), hn15.sub (by intro b hb; first | exact hb | (simp only [mq] at hb ⊢; grind)), hd15.sub (by intro b hb; first | exact hb | (simp only [mq] at hb ⊢; grind)), ho, hl.sub (by intro b hb; first | exact hb | (simp only [mq] at hb ⊢; grind)), hb4, hb5, hge_g5, hge_g4, hne_g4_g5, hno_ho_g4, hno_ho_g5, sl, sm, heq, hinv, hbd.sub (by intro b hb; first | exact hb | (simp only [mq] at hb ⊢; grind)), hm0, hb8, hge_g8, hne_g4_g8, hne_g5_g8, hno_ho_g8⟩
     ·
      simp only [bq] at hgd50
      refine D.off 4 rfl rfl rfl rfl rfl (by decide +kernel) hS3 rfl <| D.off 5 rfl rfl rfl rfl rfl (by decide +kernel) hS3 rfl <| D.off 6 rfl rfl rfl rfl rfl (by decide +kernel) hS3 rfl <| D.off 7 rfl rfl rfl rfl rfl (by decide +kernel) hS3 rfl <| D.offU 8 rfl rfl rfl rfl (by decide +kernel) hS3 rfl <| D.offU 9 rfl rfl rfl rfl (by decide +kernel) hS3 rfl <| D.offU 10 rfl rfl rfl rfl (by decide +kernel) hS3 rfl <| D.offU 11 rfl rfl rfl rfl (by decide +kernel) hS3 rfl <| D.offU 12 rfl rfl rfl rfl (by decide +kernel) hS3 rfl <| D.offU 13 rfl rfl rfl rfl (by decide +kernel) hS3 rfl <| D.offU 14 rfl rfl rfl rfl (by decide +kernel) hS3 rfl ?_
      refine D.offU 15 rfl rfl rfl rfl (by decide +kernel) hS3 rfl <| D.offU 16 rfl rfl rfl rfl (by decide +kernel) hS3 rfl <| D.off 17 rfl rfl rfl rfl rfl (by decide +kernel) hS3 rfl <| D.take 18 rfl (by decide +kernel) (fun w_ hS => (R1.pickT rfl rfl)) hS3 rfl <| D.take 19 rfl (by decide +kernel) (fun w_ hS => (R1.assign rfl)) hS3 rfl <| D.done (by decide +kernel) ?_ _
      refine X.join () ?_ ?_
      · first | exact ⟨rfl, rfl, rfl, rfl, rfl, congrArg (fun b => some (Value.bool b)) (takeL_1 hgd50), trivial⟩ | exact ⟨rfl, rfl, rfl, rfl, rfl, congrArg (fun b => some (Value.bool b)) (takeL_2 hgd50 (by omega)), trivial⟩ | exact ⟨rfl, rfl, rfl, rfl, rfl, congrArg (fun b => some (Value.bool b)) (takeL_3 hz58 hz62), trivial⟩
      ·
       exact ⟨ht1.sub (by intro b hb; first | exact hb | (simp only [mq] at hb ⊢; grind)), ht2.sub (by intro b hb; first | exact hb | (simp only [mq] at hb ⊢; grind)), hn15.sub (by intro b hb; first | exact hb | (simp only [mq] at hb ⊢; grind)), hd15.sub (by intro b hb; first | exact hb | (simp only [mq] at hb ⊢; grind)), ho, hl.sub (by intro b hb; first | exact hb | (simp only [mq] at hb ⊢; grind)), hb4, hb5, hge_g5, hge_g4, hne_g4_g5, hno_ho_g4, hno_ho_g5, sl, sm, heq, hinv, hbd.sub (by intro b hb; first | exact hb | (simp only [mq] at hb ⊢; grind)), hm0, hb8, hge_g8, hne_g4_g8, hne_g5_g8, hno_ho_g8⟩
    ·
     rintro _ wk ⟨ht1, ht2, hn15, hd15, ho, hl, hb4, hb5, hge_g5, hge_g4, hne_g4_g5, hno_ho_g4, hno_ho_g5, sl, sm, heq, hinv, hbd, hm0, hb8, hge_g8, hne_g4_g8, hne_g5_g8, hno_ho_g8⟩
     refine X.seq <| W.cut (ι := (Nat × Rat) × Option Addr × Nat × Option Addr × Nat × Ts × Option Addr × Nat × Ts × Option Addr × Nat) (fun (x, A8, c8, B8, e8, l2, T3, t3, m2, T4, t4) => [(4, .pointer (some ⟨g4, 0, none⟩)), (5, .pointer (some ⟨g5, 0, none⟩)), (6, .slice T3 l2.length t3), (7, .slice T4 m2.length t4), (8, .pointer (some ⟨g8, 0, none⟩))]) (fun (x, A8, c8, B8, e8, l2, T3, t3, m2, T4, t4) w_ => Lay rdN (ownL u ++ g5 :: g4 :: N1) w_ (.slice T3 l2.length t3) l2 ∧ Lay rdN (ownL u ++ g5 :: g4 :: N2) w_ (.slice T4 m2.length t4) m2 ∧ U32 (ownL u ++ g5 :: g4 :: M) w_ (.slice A15 (toL (k + j).num.natAbs).length c15) (toL (k + j).num.natAbs) ∧ U32 (ownL u ++ g5 :: g4 :: M) w_ (.slice B15 (toL (k + j).den).length e15) (toL (k + j).den) ∧ w_.ownsRow w.heap.size 46 4 u o.length css.flatten ∧ LayL rdN (ownL u ++ g5 :: g4 :: M) w_ css o ∧ Blk w_ g4 33 #[.int .i64 0, .slice none 0 0, .bool false, .slice none 0 0, .slice none 0 0] ∧ Blk w_ g5 33 #[.int .i64 s1, u, .bool (decide ((k + j).num < 0)), .slice A15 (toL (k + j).num.natAbs).length c15, .slice B15 (toL (k + j).den).length e15] ∧ w.heap.size ≤ g5 ∧ w.heap.size ≤ g4 ∧ g4 ≠ g5 ∧ u.ownBlock ≠ some g4 ∧ u.ownBlock ≠ some g5 ∧ (∀ x ∈ l2, x ∈ l) ∧ (∀ x ∈ m2, x ∈ m) ∧ addT l m = o ++ addT l1 m1 ∧ l1.length + m1.length + o.length ≤ l.length + m.length ∧ Bd (ownL u ++ g5 :: g4 :: M) w_ ∧ Mod [] w w_ ∧ Blk w_ g8 46 #[.int .i64 (x.1 : Int), .bool (decide (x.2.num < 0)), .slice A8 (toL x.2.num.natAbs).length c8, .slice B8 (toL x.2.den).length e8] ∧ w.heap.size ≤ g8 ∧ g4 ≠ g8 ∧ g5 ≠ g8 ∧ u.ownBlock ≠ some g8 ∧ U32 (ownL u ++ g5 :: g4 :: M) w_ (.slice A8 (toL x.2.num.natAbs).length c8) (toL x.2.num.natAbs) ∧ U32 (ownL u ++ g5 :: g4 :: M) w_ (.slice B8 (toL x.2.den).length e8) (toL x.2.den) ∧ Fit x.2 200000000000 ∧ addT l1 m1 = put0 x ++ addT l2 m2 ∧ l2.length + m2.length < l1.length + m1.length) ?_ ?_
     ·
      refine W.cond rfl ?_ ?_
      ·
       intro hc46
       have hT : takeL l1 m1 = _ := hc46
       have h0 : 0 < l1.length := takeL_len hT (by omega)
       refine W.drawG [g8] (T := []) rfl (by decide +kernel) (NoHang.join (NoHang.block (NoHang.then (NoHang.block (NoHang.next (NoHang.block (NoHang.then NoHang.post))))))) (fun w16 hm16 => ?_)
       replace ht1 := ht1.gr hm16
       replace ht2 := ht2.gr hm16
       replace hn15 := hn15.gr hm16
       replace hd15 := hd15.gr hm16
       replace ho := own_gr ho hm16 (by simp)
       replace hl := hl.gr hm16
       replace hb4 := Blk.gr hb4 hm16
       replace hb5 := Blk.gr hb5 hm16
       replace hbd := hbd.gr hm16
       replace hm0 := hm0.trans hm16
       replace hb8 := Blk.gr hb8 hm16
       have hS4 : Mod [g8] w16 w16 := Mod.refl _ _
       clear hm16
       refine D.take 0 rfl (by decide +kernel) (fun w_ hS => (R1.move rfl)) hS4 rfl <| D.take 1 rfl (by decide +kernel) (fun w_ hS => (R1.atLay (j := 0) rfl rfl (Lay.mod ht1 hS (by simp)) tyS28 rfl (by omega))) hS4 rfl <| D.take 2 rfl (by decide +kernel) (fun w_ hS => (R1.fieldAddr rfl tyF46_0)) hS4 rfl ?_
       obtain ⟨z69, cs69, hz69, hE69, A69, a69, B69, b69, rfl, hn69, hd69⟩ := Lay.elemQ ht1 (j := 0) (by omega)
       refine D.take 3 rfl (by decide +kernel) (fun w_ hS => (R1.loadEF rfl (SlE.mod hE69 hS (by simp)) rfl tyP3)) hS4 rfl <| D.take 4 rfl (by decide +kernel) (fun w_ hS => (R1.move rfl)) hS4 rfl <| D.take 5 rfl (by decide +kernel) (fun w_ hS => (R1.atLay (j := 0) rfl rfl (Lay.mod ht1 hS (by simp)) tyS28 rfl (by omega))) hS4 rfl <| D.take 6 rfl (by decide +kernel) (fun w_ hS => (R1.fieldAddr rfl tyF46_1)) hS4 rfl ?_
       obtain ⟨z73, cs73, hz73, hE73, A73, a73, B73, b73, rfl, hn73, hd73⟩ := Lay.elemQ ht1 (j := 0) (by omega)
       obtain rfl : z69 = z73 := by have h9 := hz73; rw [hz69] at h9; injection h9
       refine D.take 7 rfl (by decide +kernel) (fun w_ hS => (R1.loadEA (ds := [.bool (decide (z69.2.num < 0)), .slice A73 (toL z69.2.num.natAbs).length a73, .slice B73 (toL z69.2.den).length b73]) rfl (SlE.mod hE73 hS (by simp)) rfl tyG31)) hS4 rfl <| D.take 10 rfl (by decide +kernel) (fun w_ hS => (R1.move rfl)) hS4 rfl ?_
       have hcut : Lay rdN _ w16 (cutS T1 t1 1 l1.length 4) (l1.drop 1) := Lay.cutL ht1 (by omega)
       refine D.take 11 rfl (by decide +kernel) (fun w_ hS => ((R1.sliceL rfl rfl tyS28 (by omega) (by omega)).asV (v := cutS T1 t1 1 l1.length 4) rfl)) hS4 rfl <| D.one 8 rfl (by decide +kernel) (fun hX => ?_)
       refine L.call rfl (c_rat_Norm (q := z69.2) (rv_toL _) hn73 hd73 hbd (Nat.le_trans (fl _ (sl _ (List.mem_of_getElem? hz73))).1 (by decide)) (Nat.le_trans (fl _ (sl _ (List.mem_of_getElem? hz73))).2 (by decide))) rfl ?_
       rintro _ w17 ⟨⟨A74, c74, B74, e74, rfl, hn74, hd74⟩, hm17⟩
       replace ht2 := ht2.gr hm17
       replace hn15 := hn15.gr hm17
       replace hd15 := hd15.gr hm17
       replace ho := own_gr ho hm17 (by simp)
       replace hl := hl.gr hm17
       replace hb4 := Blk.gr hb4 hm17
       replace hb5 := Blk.gr hb5 hm17
       replace hbd := hbd.gr hm17
       replace hm0 := hm0.trans hm17
       replace hb8 := Blk.gr hb8 hm17
       replace hcut := hcut.gr hm17
       replace hS4 := hS4.trans (hm17.mono (by simp))
       clear hm17
       have F74 := (fl _ (sl _ (List.mem_of_getElem? hz73)))
       refine L.nil (hX _ _ ⟨.inr hS4, ?_⟩)
       refine D.take 9 rfl (by decide +kernel) (fun w_ hS => (R1.build (vs := [.int .i64 (z69.1 : Int), .agg #[.bool (decide (z69.2.num < 0)), .slice A74 (toL z69.2.num.natAbs).length c74, .slice B74 (toL z69.2.den).length e74]]) rfl (built_T01 _ _ _ _ _ _ _ _))) hS4 rfl <| D.one 12 rfl (by decide +kernel) (fun hX => ?_)
       refine L.storeBox rfl rfl hb8 rfl rfl tyG46 ?_
       intro w18 hb8' hm18
       replace hS4 := hS4.trans hm18
       replace ht2 := ht2.mod hm18 (by simp)
       replace hn15 := hn15.mod hm18 (by simp)
       replace hd15 := hd15.mod hm18 (by simp)
       replace ho := own_far ho hm18 hno_ho_g8
       replace hl := hl.mod hm18 (by simp)
       replace hb4 := Blk.far hb4 hm18 (by first | exact hne_g4_g8 | exact (hne_g8_g4).symm)
       replace hb5 := Blk.far hb5 hm18 (by first | exact hne_g5_g8 | exact (hne_g8_g5).symm)
       replace hbd := hbd.gr hm18
       replace hm0 := hm0.old1 hm18 hge_g8
       replace hcut := hcut.mod hm18 (by simp)
       replace hn74 := hn74.mod hm18 (by simp)
       replace hd74 := hd74.mod hm18 (by simp)
       clear hm18
       replace hb8 := hb8'; clear hb8'
       refine L.nil (hX _ _ ⟨.inr hS4, ?_⟩)
       refine D.take 13 rfl (by decide +kernel) (fun w_ hS => (R1.assign rfl)) hS4 rfl <| D.done (by decide +kernel) ?_ _
       obtain ⟨T3, t3, hf_hcut⟩ := hcut.form
       rw [hf_hcut] at hcut ⊢
       refine X.join (z69, A74, c74, B74, e74, l1.drop 1, T3, t3, m1, T2, t2) ?_ ?_
       · exact ⟨rfl, rfl, rfl, rfl, rfl, trivial⟩
       ·
        exact ⟨hcut.sub (by intro b hb; first | exact hb | (simp only [mq] at hb ⊢; grind)), ht2.sub (by intro b hb; first | exact hb | (simp only [mq] at hb ⊢; grind)), hn15.sub (by intro b hb; first | exact hb | (simp only [mq] at hb ⊢; grind)), hd15.sub (by intro b hb; first | exact hb | (simp only [mq] at hb ⊢; grind)), ho, hl.sub (by intro b hb; first | exact hb | (simp only [mq] at hb ⊢; grind)), hb4, hb5, hge_g5, hge_g4, hne_g4_g5, hno_ho_g4, hno_ho_g5, mem_drop sl, sm, heq, hinv, hbd.sub (by intro b hb; first | exact hb | (simp only [mq] at hb ⊢; grind)), hm0, hb8, hge_g8, hne_g4_g8, hne_g5_g8, hno_ho_g8, hn74.sub (by intro b hb; first | exact hb | (simp only [mq] at hb ⊢; grind)), hd74.sub (by intro b hb; first | exact hb | (simp only [mq] at hb ⊢; grind)), Fit.mono F74 (by decide), addT_L hT hz69 (nl _ (sl _ (List.mem_of_getElem? hz69))), (by have h9 := List.length_drop (i := 1) (l := l1); have h8 := List.length_drop (i := 1) (l := m1); omega)⟩
      ·
       intro hc46
       have hT : takeL l1 m1 = _ := hc46
       have h0 : 0 < m1.length := takeL_F hT
       refine W.seq <| W.drawW (T := []) rfl (by decide +kernel) (NoHang.then (NoHang.join (NoHang.block (NoHang.then (NoHang.block (NoHang.next (NoHang.block (NoHang.then NoHang.post)))))))) (fun w19 hm19 => ?_)
       replace ht1 := ht1.gr hm19
       replace ht2 := ht2.gr hm19
       replace hn15 := hn15.gr hm19
       replace hd15 := hd15.gr hm19
       replace ho := own_gr ho hm19 (by simp)
       replace hl := hl.gr hm19
       replace hb4 := Blk.gr hb4 hm19
       replace hb5 := Blk.gr hb5 hm19
       replace hbd := hbd.gr hm19
       replace hm0 := hm0.trans hm19
       replace hb8 := Blk.gr hb8 hm19
       have hS5 : Mod [] w19 w19 := Mod.refl _ _
       clear hm19
       refine D.take 0 rfl (by decide +kernel) (fun w_ hS => (R1.move rfl)) hS5 rfl <| D.take 1 rfl (by decide +kernel) (fun w_ hS => (R1.lenLay rfl (Lay.gr ht1 hS) tyS28)) hS5 rfl <| D.take 2 rfl (by decide +kernel) (fun w_ hS => ((R1.eq rfl rfl).asB (c := decide (l1.length = 0)) (by congr 1; apply propext; omega))) hS5 rfl <| D.take 3 rfl (by decide +kernel) (fun w_ hS => (R1.move rfl)) hS5 rfl ?_
       cases hgd82 : decide (l1.length = 0)
       ·
        simp only [bq] at hgd82
        refine D.takeOn 4 rfl rfl rfl rfl (by decide +kernel) (fun w_ hS => (R1.move rfl)) hS5 rfl <| D.takeOn 5 rfl rfl rfl rfl (by decide +kernel) (fun w_ hS => (R1.atLay (j := 0) rfl rfl (Lay.gr ht2 hS) tyS28 rfl (by omega))) hS5 rfl <| D.takeOn 6 rfl rfl rfl rfl (by decide +kernel) (fun w_ hS => (R1.fieldAddr rfl tyF46_0)) hS5 rfl ?_
        obtain ⟨z86, cs86, hz86, hE86, A86, a86, B86, b86, rfl, hn86, hd86⟩ := Lay.elemQ ht2 (j := 0) (by omega)
        refine D.takeOn 7 rfl rfl rfl rfl (by decide +kernel) (fun w_ hS => (R1.loadEF rfl (SlE.gr hE86 hS) rfl tyP3)) hS5 rfl <| D.takeOn 8 rfl rfl rfl rfl (by decide +kernel) (fun w_ hS => (R1.move rfl)) hS5 rfl <| D.takeOn 9 rfl rfl rfl rfl (by decide +kernel) (fun w_ hS => (R1.atLay (j := 0) rfl rfl (Lay.gr ht1 hS) tyS28 rfl (by omega))) hS5 rfl <| D.takeOn 10 rfl rfl rfl rfl (by decide +kernel) (fun w_ hS => (R1.fieldAddr rfl tyF46_0)) hS5 rfl ?_
        obtain ⟨z90, cs90, hz90, hE90, A90, a90, B90, b90, rfl, hn90, hd90⟩ := Lay.elemQ ht1 (j := 0) (by omega)
        refine D.takeOn 11 rfl rfl rfl rfl (by decide +kernel) (fun w_ hS => (R1.loadEF rfl (SlE.gr hE90 hS) rfl tyP3)) hS5 rfl <| D.takeOn 12 rfl rfl rfl rfl (by decide +kernel) (fun w_ hS => ((R1.lt rfl rfl).asB (c := decide (z86.1 < z90.1)) (by congr 1; apply propext; omega))) hS5 rfl <| D.take 13 rfl (by decide +kernel) (fun w_ hS => (R1.pickF rfl rfl)) hS5 rfl <| D.take 14 rfl (by decide +kernel) (fun w_ hS => (R1.assign rfl)) hS5 rfl <| D.done (by decide +kernel) ?_ _
        refine X.seq <| W.cond rfl ?_ ?_
        ·
         intro hc78
         try simp only [bq, ne_eq] at hc78
         refine W.drawG [g8] (T := []) rfl (by decide +kernel) (NoHang.join (NoHang.block (NoHang.then (NoHang.block (NoHang.next (NoHang.block (NoHang.then NoHang.post))))))) (fun w20 hm20 => ?_)
         replace ht1 := ht1.gr hm20
         replace ht2 := ht2.gr hm20
         replace hn15 := hn15.gr hm20
         replace hd15 := hd15.gr hm20
         replace ho := own_gr ho hm20 (by simp)
         replace hl := hl.gr hm20
         replace hb4 := Blk.gr hb4 hm20
         replace hb5 := Blk.gr hb5 hm20
         replace hbd := hbd.gr hm20
         replace hm0 := hm0.trans hm20
         replace hb8 := Blk.gr hb8 hm20
         have hS6 : Mod [g8] w20 w20 := Mod.refl _ _
         clear hm20
         refine D.take 0 rfl (by decide +kernel) (fun w_ hS => (R1.move rfl)) hS6 rfl <| D.take 1 rfl (by decide +kernel) (fun w_ hS => (R1.atLay (j := 0) rfl rfl (Lay.mod ht2 hS (by simp)) tyS28 rfl (by omega))) hS6 rfl <| D.take 2 rfl (by decide +kernel) (fun w_ hS => (R1.fieldAddr rfl tyF46_0)) hS6 rfl ?_
         obtain ⟨z96, cs96, hz96, hE96, A96, a96, B96, b96, rfl, hn96, hd96⟩ := Lay.elemQ ht2 (j := 0) (by omega)
         refine D.take 3 rfl (by decide +kernel) (fun w_ hS => (R1.loadEF rfl (SlE.mod hE96 hS (by simp)) rfl tyP3)) hS6 rfl <| D.take 4 rfl (by decide +kernel) (fun w_ hS => (R1.move rfl)) hS6 rfl <| D.take 5 rfl (by decide +kernel) (fun w_ hS => (R1.atLay (j := 0) rfl rfl (Lay.mod ht2 hS (by simp)) tyS28 rfl (by omega))) hS6 rfl <| D.take 6 rfl (by decide +kernel) (fun w_ hS => (R1.fieldAddr rfl tyF46_1)) hS6 rfl ?_
         obtain ⟨z100, cs100, hz100, hE100, A100, a100, B100, b100, rfl, hn100, hd100⟩ := Lay.elemQ ht2 (j := 0) (by omega)
         obtain rfl : z96 = z100 := by have h9 := hz100; rw [hz96] at h9; injection h9
         refine D.take 7 rfl (by decide +kernel) (fun w_ hS => (R1.loadEA (ds := [.bool (decide (z96.2.num < 0)), .slice A100 (toL z96.2.num.natAbs).length a100, .slice B100 (toL z96.2.den).length b100]) rfl (SlE.mod hE100 hS (by simp)) rfl tyG31)) hS6 rfl <| D.take 10 rfl (by decide +kernel) (fun w_ hS => (R1.move rfl)) hS6 rfl ?_
         have hcut : Lay rdN _ w20 (cutS T2 t2 1 m1.length 4) (m1.drop 1) := Lay.cutL ht2 (by omega)
         refine D.take 11 rfl (by decide +kernel) (fun w_ hS => ((R1.sliceL rfl rfl tyS28 (by omega) (by omega)).asV (v := cutS T2 t2 1 m1.length 4) rfl)) hS6 rfl <| D.one 8 rfl (by decide +kernel) (fun hX => ?_)
         refine L.call rfl (c_rat_Norm (q := z96.2) (rv_toL _) hn100 hd100 hbd (Nat.le_trans (fm _ (sm _ (List.mem_of_getElem? hz100))).1 (by decide)) (Nat.le_trans (fm _ (sm _ (List.mem_of_getElem? hz100))).2 (by decide))) rfl ?_
         rintro _ w21 ⟨⟨A101, c101, B101, e101, rfl, hn101, hd101⟩, hm21⟩
         replace ht1 := ht1.gr hm21
         replace hn15 := hn15.gr hm21
         replace hd15 := hd15.gr hm21
         replace ho := own_gr ho hm21 (by simp)
         replace hl := hl.gr hm21
         replace hb4 := Blk.gr hb4 hm21
         replace hb5 := Blk.gr hb5 hm21
         replace hbd := hbd.gr hm21
         replace hm0 := hm0.trans hm21
         replace hb8 := Blk.gr hb8 hm21
         replace hcut := hcut.gr hm21
         replace hS6 := hS6.trans (hm21.mono (by simp))
         clear hm21
         have F101 := (fm _ (sm _ (List.mem_of_getElem? hz100)))
         refine L.nil (hX _ _ ⟨.inr hS6, ?_⟩)
         refine D.take 9 rfl (by decide +kernel) (fun w_ hS => (R1.build (vs := [.int .i64 (z96.1 : Int), .agg #[.bool (decide (z96.2.num < 0)), .slice A101 (toL z96.2.num.natAbs).length c101, .slice B101 (toL z96.2.den).length e101]]) rfl (built_T01 _ _ _ _ _ _ _ _))) hS6 rfl <| D.one 12 rfl (by decide +kernel) (fun hX => ?_)
         refine L.storeBox rfl rfl hb8 rfl rfl tyG46 ?_
         intro w22 hb8' hm22
         replace hS6 := hS6.trans hm22
         replace ht1 := ht1.mod hm22 (by simp)
         replace hn15 := hn15.mod hm22 (by simp)
         replace hd15 := hd15.mod hm22 (by simp)
         replace ho := own_far ho hm22 hno_ho_g8
         replace hl := hl.mod hm22 (by simp)
         replace hb4 := Blk.far hb4 hm22 (by first | exact hne_g4_g8 | exact (hne_g8_g4).symm)
         replace hb5 := Blk.far hb5 hm22 (by first | exact hne_g5_g8 | exact (hne_g8_g5).symm)
         replace hbd := hbd.gr hm22
         replace hm0 := hm0.old1 hm22 hge_g8
         replace hcut := hcut.mod hm22 (by simp)
         replace hn101 := hn101.mod hm22 (by simp)
         replace hd101 := hd101.mod hm22 (by simp)
         clear hm22
         replace hb8 := hb8'; clear hb8'
         refine L.nil (hX _ _ ⟨.inr hS6, ?_⟩)
         refine D.take 13 rfl (by decide +kernel) (fun w_ hS => (R1.assign rfl)) hS6 rfl <| D.done (by decide +kernel) ?_ _
         obtain ⟨T3, t3, hf_hcut⟩ := hcut.form
         rw [hf_hcut] at hcut ⊢
         refine X.join (z96, A101, c101, B101, e101, l1, T1, t1, m1.drop 1, T3, t3) ?_ ?_
         · exact ⟨rfl, rfl, rfl, rfl, rfl, trivial⟩
         ·
          exact ⟨ht1.sub (by intro b hb; first | exact hb | (simp only [mq] at hb ⊢; grind)), hcut.sub (by intro b hb; first | exact hb | (simp only [mq] at hb ⊢; grind)), hn15.sub (by intro b hb; first | exact hb | (simp only [mq] at hb ⊢; grind)), hd15.sub (by intro b hb; first | exact hb | (simp only [mq] at hb ⊢; grind)), ho, hl.sub (by intro b hb; first | exact hb | (simp only [mq] at hb ⊢; grind)), hb4, hb5, hge_g5, hge_g4, hne_g4_g5, hno_ho_g4, hno_ho_g5, sl, mem_drop sm, heq, hinv, hbd.sub (by intro b hb; first | exact hb | (simp only [mq] at hb ⊢; grind)), hm0, hb8, hge_g8, hne_g4_g8, hne_g5_g8, hno_ho_g8, hn101.sub (by intro b hb; first | exact hb | (simp only [mq] at hb ⊢; grind)), hd101.sub (by intro b hb; first | exact hb | (simp only [mq] at hb ⊢; grind)), Fit.mono F101 (by decide), addT_R hT hz96 (by first | exact .inl hgd82 | exact .inr ⟨_, hz90, by rw [hz86] at hz96; injection hz96 with h9; subst h9; omega⟩) (nm _ (sm _ (List.mem_of_getElem? hz96))), (by have h9 := List.length_drop (i := 1) (l := l1); have h8 := List.length_drop (i := 1) (l := m1); omega)⟩
        ·
         intro hc78
         try simp only [bq, ne_eq] at hc78
         refine W.drawG [g8] (T := []) rfl (by decide +kernel) (NoHang.join (NoHang.block (NoHang.then (NoHang.block (NoHang.next (NoHang.block (NoHang.then NoHang.post))))))) (fun w23 hm23 => ?_)
         replace ht1 := ht1.gr hm23
         replace ht2 := ht2.gr hm23
         replace hn15 := hn15.gr hm23
         replace hd15 := hd15.gr hm23
         replace ho := own_gr ho hm23 (by simp)
         replace hl := hl.gr hm23
         replace hb4 := Blk.gr hb4 hm23
         replace hb5 := Blk.gr hb5 hm23
         replace hbd := hbd.gr hm23
         replace hm0 := hm0.trans hm23
         replace hb8 := Blk.gr hb8 hm23
         have hS7 : Mod [g8] w23 w23 := Mod.refl _ _
         clear hm23
         refine D.take 0 rfl (by decide +kernel) (fun w_ hS => (R1.move rfl)) hS7 rfl <| D.take 1 rfl (by decide +kernel) (fun w_ hS => (R1.atLay (j := 0) rfl rfl (Lay.mod ht1 hS (by simp)) tyS28 rfl (by omega))) hS7 rfl <| D.take 2 rfl (by decide +kernel) (fun w_ hS => (R1.fieldAddr rfl tyF46_0)) hS7 rfl ?_
         obtain ⟨z31, cs31, hz31, hE31, A31, a31, B31, b31, rfl, hn31, hd31⟩ := Lay.elemQ ht1 (j := 0) (by omega)
         refine D.take 3 rfl (by decide +kernel) (fun w_ hS => (R1.loadEF rfl (SlE.mod hE31 hS (by simp)) rfl tyP3)) hS7 rfl <| D.take 4 rfl (by decide +kernel) (fun w_ hS => (R1.move rfl)) hS7 rfl <| D.take 5 rfl (by decide +kernel) (fun w_ hS => (R1.atLay (j := 0) rfl rfl (Lay.mod ht1 hS (by simp)) tyS28 rfl (by omega))) hS7 rfl <| D.take 6 rfl (by decide +kernel) (fun w_ hS => (R1.fieldAddr rfl tyF46_1)) hS7 rfl ?_
         obtain ⟨z35, cs35, hz35, hE35, A35, a35, B35, b35, rfl, hn35, hd35⟩ := Lay.elemQ ht1 (j := 0) (by omega)
         obtain rfl : z31 = z35 := by have h9 := hz35; rw [hz31] at h9; injection h9
         refine D.take 7 rfl (by decide +kernel) (fun w_ hS => (R1.loadEA (ds := [.bool (decide (z31.2.num < 0)), .slice A35 (toL z31.2.num.natAbs).length a35, .slice B35 (toL z31.2.den).length b35]) rfl (SlE.mod hE35 hS (by simp)) rfl tyG31)) hS7 rfl <| D.take 8 rfl (by decide +kernel) (fun w_ hS => (R1.move rfl)) hS7 rfl <| D.take 9 rfl (by decide +kernel) (fun w_ hS => (R1.atLay (j := 0) rfl rfl (Lay.mod ht2 hS (by simp)) tyS28 rfl (by omega))) hS7 rfl <| D.take 10 rfl (by decide +kernel) (fun w_ hS => (R1.fieldAddr rfl tyF46_1)) hS7 rfl ?_
         obtain ⟨z39, cs39, hz39, hE39, A39, a39, B39, b39, rfl, hn39, hd39⟩ := Lay.elemQ ht2 (j := 0) (by omega)
         refine D.take 11 rfl (by decide +kernel) (fun w_ hS => (R1.loadEA (ds := [.bool (decide (z39.2.num < 0)), .slice A39 (toL z39.2.num.natAbs).length a39, .slice B39 (toL z39.2.den).length b39]) rfl (SlE.mod hE39 hS (by simp)) rfl tyG31)) hS7 rfl <| D.take 14 rfl (by decide +kernel) (fun w_ hS => (R1.move rfl)) hS7 rfl ?_
         have hcut : Lay rdN _ w23 (cutS T1 t1 1 l1.length 4) (l1.drop 1) := Lay.cutL ht1 (by omega)
         refine D.take 15 rfl (by decide +kernel) (fun w_ hS => ((R1.sliceL rfl rfl tyS28 (by omega) (by omega)).asV (v := cutS T1 t1 1 l1.length 4) rfl)) hS7 rfl <| D.take 16 rfl (by decide +kernel) (fun w_ hS => (R1.move rfl)) hS7 rfl ?_
         have hcut2 : Lay rdN _ w23 (cutS T2 t2 1 m1.length 4) (m1.drop 1) := Lay.cutL ht2 (by omega)
         refine D.take 17 rfl (by decide +kernel) (fun w_ hS => ((R1.sliceL rfl rfl tyS28 (by omega) (by omega)).asV (v := cutS T2 t2 1 m1.length 4) rfl)) hS7 rfl <| D.one 12 rfl (by decide +kernel) (fun hX => ?_)
         refine L.call rfl (c_rat_Add (qa := z31.2) (qb := z39.2) (rv_toL _) (rv_toL _) hn35 hd35 hn39 hd39 hbd (Nat.le_trans (fl _ (sl _ (List.mem_of_getElem? hz35))).1 (by decide)) (Nat.le_trans (fl _ (sl _ (List.mem_of_getElem? hz35))).2 (by decide)) (Nat.le_trans (fm _ (sm _ (List.mem_of_getElem? hz39))).1 (by decide)) (Nat.le_trans (fm _ (sm _ (List.mem_of_getElem? hz39))).2 (by decide))) rfl ?_
         rintro _ w24 ⟨⟨A40, c40, B40, e40, rfl, hn40, hd40⟩, hm24⟩
         replace hn15 := hn15.gr hm24
         replace hd15 := hd15.gr hm24
         replace ho := own_gr ho hm24 (by simp)
         replace hl := hl.gr hm24
         replace hb4 := Blk.gr hb4 hm24
         replace hb5 := Blk.gr hb5 hm24
         replace hbd := hbd.gr hm24
         replace hm0 := hm0.trans hm24
         replace hb8 := Blk.gr hb8 hm24
         replace hcut := hcut.gr hm24
         replace hcut2 := hcut2.gr hm24
         replace hS7 := hS7.trans (hm24.mono (by simp))
         clear hm24
         have F40 := Fit.add (fl _ (sl _ (List.mem_of_getElem? hz35))) (fm _ (sm _ (List.mem_of_getElem? hz39)))
         refine L.nil (hX _ _ ⟨.inr hS7, ?_⟩)
         refine D.take 13 rfl (by decide +kernel) (fun w_ hS => (R1.build (vs := [.int .i64 (z31.1 : Int), .agg #[.bool (decide ((z31.2 + z39.2).num < 0)), .slice A40 (toL (z31.2 + z39.2).num.natAbs).length c40, .slice B40 (toL (z31.2 + z39.2).den).length e40]]) rfl (built_T01 _ _ _ _ _ _ _ _))) hS7 rfl <| D.one 18 rfl (by decide +kernel) (fun hX => ?_)
         refine L.storeBox rfl rfl hb8 rfl rfl tyG46 ?_
         intro w25 hb8' hm25
         replace hS7 := hS7.trans hm25
         replace hn15 := hn15.mod hm25 (by simp)
         replace hd15 := hd15.mod hm25 (by simp)
         replace ho := own_far ho hm25 hno_ho_g8
         replace hl := hl.mod hm25 (by simp)
         replace hb4 := Blk.far hb4 hm25 (by first | exact hne_g4_g8 | exact (hne_g8_g4).symm)
         replace hb5 := Blk.far hb5 hm25 (by first | exact hne_g5_g8 | exact (hne_g8_g5).symm)
         replace hbd := hbd.gr hm25
         replace hm0 := hm0.old1 hm25 hge_g8
         replace hcut := hcut.mod hm25 (by simp)
         replace hcut2 := hcut2.mod hm25 (by simp)
         replace hn40 := hn40.mod hm25 (by simp)
         replace hd40 := hd40.mod hm25 (by simp)
         clear hm25
         replace hb8 := hb8'; clear hb8'
         refine L.nil (hX _ _ ⟨.inr hS7, ?_⟩)
         refine D.take 19 rfl (by decide +kernel) (fun w_ hS => (R1.assign rfl)) hS7 rfl <| D.take 20 rfl (by decide +kernel) (fun w_ hS => (R1.assign rfl)) hS7 rfl <| D.done (by decide +kernel) ?_ _
         obtain ⟨T3, t3, hf_hcut⟩ := hcut.form
         rw [hf_hcut] at hcut ⊢
         obtain ⟨T4, t4, hf_hcut2⟩ := hcut2.form
         rw [hf_hcut2] at hcut2 ⊢
         refine X.join ((z31.1, z31.2 + z39.2), A40, c40, B40, e40, l1.drop 1, T3, t3, m1.drop 1, T4, t4) ?_ ?_
         · exact ⟨rfl, rfl, rfl, rfl, rfl, trivial⟩
         ·
          exact ⟨hcut.sub (by intro b hb; first | exact hb | (simp only [mq] at hb ⊢; grind)), hcut2.sub (by intro b hb; first | exact hb | (simp only [mq] at hb ⊢; grind)), hn15.sub (by intro b hb; first | exact hb | (simp only [mq] at hb ⊢; grind)), hd15.sub (by intro b hb; first | exact hb | (simp only [mq] at hb ⊢; grind)), ho, hl.sub (by intro b hb; first | exact hb | (simp only [mq] at hb ⊢; grind)), hb4, hb5, hge_g5, hge_g4, hne_g4_g5, hno_ho_g4, hno_ho_g5, mem_drop sl, mem_drop sm, heq, hinv, hbd.sub (by intro b hb; first | exact hb | (simp only [mq] at hb ⊢; grind)), hm0, hb8, hge_g8, hne_g4_g8, hne_g5_g8, hno_ho_g8, hn40.sub (by intro b hb; first | exact hb | (simp only [mq] at hb ⊢; grind)), hd40.sub (by intro b hb; first | exact hb | (simp only [mq] at hb ⊢; grind)), Fit.mono F40 (by decide), addT_B hT hz31 hz39 (by rw [hz90] at hz31; rw [hz86] at hz39; injection hz31 with h9; injection hz39 with h8; subst h9; subst h8; omega), (by have h9 := List.length_drop (i := 1) (l := l1); have h8 := List.length_drop (i := 1) (l := m1); omega)⟩
       ·
        simp only [bq] at hgd82
        refine D.off 4 rfl rfl rfl rfl rfl (by decide +kernel) hS5 rfl <| D.off 5 rfl rfl rfl rfl rfl (by decide +kernel) hS5 rfl <| D.off 6 rfl rfl rfl rfl rfl (by decide +kernel) hS5 rfl <| D.off 7 rfl rfl rfl rfl rfl (by decide +kernel) hS5 rfl <| D.off 8 rfl rfl rfl rfl rfl (by decide +kernel) hS5 rfl <| D.off 9 rfl rfl rfl rfl rfl (by decide +kernel) hS5 rfl <| D.off 10 rfl rfl rfl rfl rfl (by decide +kernel) hS5 rfl <| D.off 11 rfl rfl rfl rfl rfl (by decide +kernel) hS5 rfl <| D.off 12 rfl rfl rfl rfl rfl (by decide +kernel) hS5 rfl <| D.take 13 rfl (by decide +kernel) (fun w_ hS => (R1.pickT rfl rfl)) hS5 rfl <| D.take 14 rfl (by decide +kernel) (fun w_ hS => (R1.assign rfl)) hS5 rfl ?_
        refine D.done (by decide +kernel) ?_ _
        refine X.seq <| W.condT rfl <| W.drawG [g8] (T := []) rfl (by decide +kernel) (NoHang.join (NoHang.block (NoHang.then (NoHang.block (NoHang.next (NoHang.block (NoHang.then NoHang.post))))))) (fun w26 hm26 => ?_)
        replace ht1 := ht1.gr hm26
        replace ht2 := ht2.gr hm26
        replace hn15 := hn15.gr hm26
        replace hd15 := hd15.gr hm26
        replace ho := own_gr ho hm26 (by simp)
        replace hl := hl.gr hm26
        replace hb4 := Blk.gr hb4 hm26
        replace hb5 := Blk.gr hb5 hm26
        replace hbd := hbd.gr hm26
        replace hm0 := hm0.trans hm26
        replace hb8 := Blk.gr hb8 hm26
        have hS8 : Mod [g8] w26 w26 := Mod.refl _ _
        clear hm26
        refine D.take 0 rfl (by decide +kernel) (fun w_ hS => (R1.move rfl)) hS8 rfl <| D.take 1 rfl (by decide +kernel) (fun w_ hS => (R1.atLay (j := 0) rfl rfl (Lay.mod ht2 hS (by simp)) tyS28 rfl (by omega))) hS8 rfl <| D.take 2 rfl (by decide +kernel) (fun w_ hS => (R1.fieldAddr rfl tyF46_0)) hS8 rfl ?_
        obtain ⟨z96, cs96, hz96, hE96, A96, a96, B96, b96, rfl, hn96, hd96⟩ := Lay.elemQ ht2 (j := 0) (by omega)
        refine D.take 3 rfl (by decide +kernel) (fun w_ hS => (R1.loadEF rfl (SlE.mod hE96 hS (by simp)) rfl tyP3)) hS8 rfl <| D.take 4 rfl (by decide +kernel) (fun w_ hS => (R1.move rfl)) hS8 rfl <| D.take 5 rfl (by decide +kernel) (fun w_ hS => (R1.atLay (j := 0) rfl rfl (Lay.mod ht2 hS (by simp)) tyS28 rfl (by omega))) hS8 rfl <| D.take 6 rfl (by decide +kernel) (fun w_ hS => (R1.fieldAddr rfl tyF46_1)) hS8 rfl ?_
        obtain ⟨z100, cs100, hz100, hE100, A100, a100, B100, b100, rfl, hn100, hd100⟩ := Lay.elemQ ht2 (j := 0) (by omega)
        obtain rfl : z96 = z100 := by have h9 := hz100; rw [hz96] at h9; injection h9
        refine D.take 7 rfl (by decide +kernel) (fun w_ hS => (R1.loadEA (ds := [.bool (decide (z96.2.num < 0)), .slice A100 (toL z96.2.num.natAbs).length a100, .slice B100 (toL z96.2.den).length b100]) rfl (SlE.mod hE100 hS (by simp)) rfl tyG31)) hS8 rfl <| D.take 10 rfl (by decide +kernel) (fun w_ hS => (R1.move rfl)) hS8 rfl ?_
        have hcut : Lay rdN _ w26 (cutS T2 t2 1 m1.length 4) (m1.drop 1) := Lay.cutL ht2 (by omega)
        refine D.take 11 rfl (by decide +kernel) (fun w_ hS => ((R1.sliceL rfl rfl tyS28 (by omega) (by omega)).asV (v := cutS T2 t2 1 m1.length 4) rfl)) hS8 rfl <| D.one 8 rfl (by decide +kernel) (fun hX => ?_)
        refine L.call rfl (c_rat_Norm (q := z96.2) (rv_toL _) hn100 hd100 hbd (Nat.le_trans (fm _ (sm _ (List.mem_of_getElem? hz100))).1 (by decide)) (Nat.le_trans (fm _ (sm _ (List.mem_of_getElem? hz100))).2 (by decide))) rfl ?_
        rintro _ w27 ⟨⟨A101, c101, B101, e101, rfl, hn101, hd101⟩, hm27⟩
        replace ht1 := ht1.gr hm27
        replace hn15 := hn15.gr hm27
        replace hd15 := hd15.gr hm27
        replace ho := own_gr ho hm27 (by simp)
        replace hl := hl.gr hm27
        replace hb4 := Blk.gr hb4 hm27
        replace hb5 := Blk.gr hb5 hm27
        replace hbd := hbd.gr hm27
        replace hm0 := hm0.trans hm27
        replace hb8 := Blk.gr hb8 hm27
        replace hcut := hcut.gr hm27
        replace hS8 := hS8.trans (hm27.mono (by simp))
        clear hm27
        have F101 := (fm _ (sm _ (List.mem_of_getElem? hz100)))
        refine L.nil (hX _ _ ⟨.inr hS8, ?_⟩)
        refine D.take 9 rfl (by decide +kernel) (fun w_ hS => (R1.build (vs := [.int .i64 (z96.1 : Int), .agg #[.bool (decide (z96.2.num < 0)), .slice A101 (toL z96.2.num.natAbs).length c101, .slice B101 (toL z96.2.den).length e101]]) rfl (built_T01 _ _ _ _ _ _ _ _))) hS8 rfl <| D.one 12 rfl (by decide +kernel) (fun hX => ?_)
        refine L.storeBox rfl rfl hb8 rfl rfl tyG46 ?_
        intro w28 hb8' hm28
        replace hS8 := hS8.trans hm28
        replace ht1 := ht1.mod hm28 (by simp)
        replace hn15 := hn15.mod hm28 (by simp)
        replace hd15 := hd15.mod hm28 (by simp)
        replace ho := own_far ho hm28 hno_ho_g8
        replace hl := hl.mod hm28 (by simp)
        replace hb4 := Blk.far hb4 hm28 (by first | exact hne_g4_g8 | exact (hne_g8_g4).symm)
        replace hb5 := Blk.far hb5 hm28 (by first | exact hne_g5_g8 | exact (hne_g8_g5).symm)
        replace hbd := hbd.gr hm28
        replace hm0 := hm0.old1 hm28 hge_g8
        replace hcut := hcut.mod hm28 (by simp)
        replace hn101 := hn101.mod hm28 (by simp)
        replace hd101 := hd101.mod hm28 (by simp)
        clear hm28
        replace hb8 := hb8'; clear hb8'
        refine L.nil (hX _ _ ⟨.inr hS8, ?_⟩)
        refine D.take 13 rfl (by decide +kernel) (fun w_ hS => (R1.assign rfl)) hS8 rfl <| D.done (by decide +kernel) ?_ _
        obtain ⟨T3, t3, hf_hcut⟩ := hcut.form
        rw [hf_hcut] at hcut ⊢
        refine X.join (z96, A101, c101, B101, e101, l1, T1, t1, m1.drop 1, T3, t3) ?_ ?_
        · exact ⟨rfl, rfl, rfl, rfl, rfl, trivial⟩
        ·
         exact ⟨ht1.sub (by intro b hb; first | exact hb | (simp only [mq] at hb ⊢; grind)), hcut.sub (by intro b hb; first | exact hb | (simp only [mq] at hb ⊢; grind)), hn15.sub (by intro b hb; first | exact hb | (simp only [mq] at hb ⊢; grind)), hd15.sub (by intro b hb; first | exact hb | (simp only [mq] at hb ⊢; grind)), ho, hl.sub (by intro b hb; first | exact hb | (simp only [mq] at hb ⊢; grind)), hb4, hb5, hge_g5, hge_g4, hne_g4_g5, hno_ho_g4, hno_ho_g5, sl, mem_drop sm, heq, hinv, hbd.sub (by intro b hb; first | exact hb | (simp only [mq] at hb ⊢; grind)), hm0, hb8, hge_g8, hne_g4_g8, hne_g5_g8, hno_ho_g8, hn101.sub (by intro b hb; first | exact hb | (simp only [mq] at hb ⊢; grind)), hd101.sub (by intro b hb; first | exact hb | (simp only [mq] at hb ⊢; grind)), Fit.mono F101 (by decide), addT_R hT hz96 (by first | exact .inl hgd82 | exact .inr ⟨_, hz90, by rw [hz86] at hz96; injection hz96 with h9; subst h9; omega⟩) (nm _ (sm _ (List.mem_of_getElem? hz96))), (by have h9 := List.length_drop (i := 1) (l := l1); have h8 := List.length_drop (i := 1) (l := m1); omega)⟩
     ·
      rintro ⟨x, A8, c8, B8, e8, l2, T3, t3, m2, T4, t4⟩ wl ⟨ht1, ht2, hn15, hd15, ho, hl, hb4, hb5, hge_g5, hge_g4, hne_g4_g5, hno_ho_g4, hno_ho_g5, sl, sm, heq, hinv, hbd, hm0, hb8, hge_g8, hne_g4_g8, hne_g5_g8, hno_ho_g8, hn8, hd8, Fx, hst, hlen⟩
      refine X.blockEnd <| X.seq <| W.seq <| W.region <| L.v (R1.fieldAt rfl tyF46_1) rfl <| L.v (R1.loadBoxAt (ds := [.bool (decide (x.2.num < 0)), .slice A8 (toL x.2.num.natAbs).length c8, .slice B8 (toL x.2.den).length e8]) rfl hb8 rfl tyG31) rfl <| L.call rfl (c_rat_Zero (q := x.2) (rv_toL _) hn8 hd8 hbd (Nat.le_trans Fx.1 (by decide)) (Nat.le_trans Fx.2 (by decide))) rfl ?_
      rintro _ w29 ⟨rfl, hm29⟩
      replace ht1 := ht1.gr hm29
      replace ht2 := ht2.gr hm29
      replace hn15 := hn15.gr hm29
      replace hd15 := hd15.gr hm29
      replace ho := own_gr ho hm29 (by simp)
      replace hl := hl.gr hm29
      replace hb4 := Blk.gr hb4 hm29
      replace hb5 := Blk.gr hb5 hm29
      replace hbd := hbd.gr hm29
      replace hm0 := hm0.trans hm29
      replace hb8 := Blk.gr hb8 hm29
      replace hn8 := hn8.gr hm29
      replace hd8 := hd8.gr hm29
      clear hm29
      refine L.v (R1.not rfl) rfl <| L.nil <| X.seq <| W.cond rfl ?_ ?_
      ·
       intro hc108
       try simp only [bq, ne_eq] at hc108
       refine W.region <| L.v (R1.fieldAt rfl tyF33_1) rfl <| L.v ((R1.loadFld rfl hb5 rfl tyP28).asV (v := u) rfl) rfl <| L.v (R1.loadBox rfl hb8 tyG46) rfl <| L.buildSlice (cells := [.int .i64 (x.1 : Int), .bool (decide (x.2.num < 0)), .slice A8 (toL x.2.num.natAbs).length c8, .slice B8 (toL x.2.den).length e8]) rfl tyS28 tyZ46 (fillN1 _ _ _ _ _ _ _ _) (by decide) (by decide) rfl ?_
       intro g112 w30 hN112
       replace ht1 := ht1.gr hN112.mod
       replace ht2 := ht2.gr hN112.mod
       replace hn15 := hn15.gr hN112.mod
       replace hd15 := hd15.gr hN112.mod
       replace ho := own_gr ho hN112.mod (by simp)
       replace hl := hl.gr hN112.mod
       replace hb4 := Blk.gr hb4 hN112.mod
       replace hb5 := Blk.gr hb5 hN112.mod
       replace hbd := hbd.gr hN112.mod
       replace hm0 := hm0.trans hN112.mod
       replace hn8 := hn8.gr hN112.mod
       replace hd8 := hd8.gr hN112.mod
       have hrow : Sl [] w30 4 (.slice (some ⟨g112, 0, none⟩) 1 1) 1 [.int .i64 (x.1 : Int), .bool (decide (x.2.num < 0)), .slice A8 (toL x.2.num.natAbs).length c8, .slice B8 (toL x.2.den).length e8] := Sl.of_blk hN112.blk 0 (Nat.le_refl _) (by decide) rfl (by simp) (fun j hj => by simp)
       clear hN112
       refine L.append rfl rfl ho hrow (by intro c hc; simp only [List.mem_cons, List.not_mem_nil, or_false] at hc; rcases hc with rfl | rfl | rfl | rfl <;> rfl) tyS28 tyZ46 (by omega) (by unfold maxLen; omega) hm0.size rfl ?_
       intro v113 w31 ho113' hG113
       replace ht1 := ht1.grew2 hG113 (by first | exact mem_own | (intro b hb; simp [hb]))
       replace ht2 := ht2.grew2 hG113 (by first | exact mem_own | (intro b hb; simp [hb]))
       replace hn15 := hn15.grew2 hG113 (by first | exact mem_own | (intro b hb; simp [hb]))
       replace hd15 := hd15.grew2 hG113 (by first | exact mem_own | (intro b hb; simp [hb]))
       replace hl := hl.grew2 hG113 (by first | exact mem_own | (intro b hb; simp [hb]))
       have hnn_g4 := hG113.ne hno_ho_g4 hb4
       replace hb4 := Blk.grew hb4 hG113 hno_ho_g4
       replace hno_ho_g4 := hnn_g4
       have hnn_g5 := hG113.ne hno_ho_g5 hb5
       replace hb5 := Blk.grew hb5 hG113 hno_ho_g5
       replace hno_ho_g5 := hnn_g5
       replace hbd := hbd.grew2 hG113 (by first | exact mem_own | (intro b hb; simp [hb]))
       replace hm0 := Mod.oldOwn hm0 hG113.mod ho
       replace hn8 := hn8.grew2 hG113 (by first | exact mem_own | (intro b hb; simp [hb]))
       replace hd8 := hd8.grew2 hG113 (by first | exact mem_own | (intro b hb; simp [hb]))
       replace ho := ho113'; clear ho113'
       clear hG113
       refine L.v (R1.fieldAt rfl tyF33_1) rfl <| L.store rfl rfl hb5 (show 1 < 5 by decide) (own_one ho) tyP28 ?_
       intro w32 hb5' hm32
       replace ht1 := ht1.mod hm32 (by simp)
       replace ht2 := ht2.mod hm32 (by simp)
       replace hn15 := hn15.mod hm32 (by simp)
       replace hd15 := hd15.mod hm32 (by simp)
       replace ho := own_far ho hm32 hno_ho_g5
       replace hl := hl.mod hm32 (by simp)
       replace hb4 := Blk.far hb4 hm32 (by first | exact hne_g4_g5 | exact (hne_g5_g4).symm)
       replace hbd := hbd.gr hm32
       replace hm0 := hm0.old1 hm32 hge_g5
       replace hn8 := hn8.mod hm32 (by simp)
       replace hd8 := hd8.mod hm32 (by simp)
       clear hm32
       replace hb5 := hb5'; clear hb5'
       refine L.nil <| X.blockEnd <| X.next (l2, T3, t3, m2, T4, t4, v113, css ++ [[.int .i64 (x.1 : Int), .bool (decide (x.2.num < 0)), .slice A8 (toL x.2.num.natAbs).length c8, .slice B8 (toL x.2.den).length e8]], o ++ [x]) ?_ ?_ ?_
       · exact ⟨rfl, rfl, rfl, rfl, trivial⟩
       ·
        exact ⟨ht1.sub (by intro b hb; first | exact hb | (simp only [mq] at hb ⊢; grind)), ht2.sub (by intro b hb; first | exact hb | (simp only [mq] at hb ⊢; grind)), hn15.sub (by intro b hb; first | exact hb | (simp only [mq] at hb ⊢; grind)), hd15.sub (by intro b hb; first | exact hb | (simp only [mq] at hb ⊢; grind)), own_congr ho (by simp) (by simp), (hl.sub (by intro b hb; first | exact hb | (simp only [mq] at hb ⊢; grind))).append (LayL.one _ x ⟨A8, c8, B8, e8, rfl, hn8.sub (by intro b hb; first | exact hb | (simp only [mq] at hb ⊢; grind)), hd8.sub (by intro b hb; first | exact hb | (simp only [mq] at hb ⊢; grind))⟩), hb4, hb5, hge_g5, hge_g4, hne_g4_g5, hno_ho_g4, hno_ho_g5, sl, sm, by rw [heq, hst, put0, if_neg hc108]; simp, by simp; omega, hbd.sub (by intro b hb; first | exact hb | (simp only [mq] at hb ⊢; grind)), hm0⟩
       · first | omega | (dsimp only; omega)
      ·
       intro hc108
       try simp only [bq, ne_eq] at hc108
       refine W.skip <| X.blockEnd <| X.next (l2, T3, t3, m2, T4, t4, u, css, o) ?_ ?_ ?_
       · exact ⟨rfl, rfl, rfl, rfl, trivial⟩
       ·
        exact ⟨ht1.sub (by intro b hb; first | exact hb | (simp only [mq] at hb ⊢; grind)), ht2.sub (by intro b hb; first | exact hb | (simp only [mq] at hb ⊢; grind)), hn15.sub (by intro b hb; first | exact hb | (simp only [mq] at hb ⊢; grind)), hd15.sub (by intro b hb; first | exact hb | (simp only [mq] at hb ⊢; grind)), ho, hl.sub (by intro b hb; first | exact hb | (simp only [mq] at hb ⊢; grind)), hb4, hb5, hge_g5, hge_g4, hne_g4_g5, hno_ho_g4, hno_ho_g5, sl, sm, by rw [heq, hst, put0, if_pos hc108]; simp, by omega, hbd.sub (by intro b hb; first | exact hb | (simp only [mq] at hb ⊢; grind)), hm0⟩
       · first | omega | (dsimp only; omega)
   ·
    intro hc26
    try simp only [bq, ne_eq] at hc26
    have e1 := List.eq_nil_of_length_eq_zero (show l1.length = 0 by omega)
    have e2 := List.eq_nil_of_length_eq_zero (show m1.length = 0 by omega)
    rw [e1, e2, addT_nil, List.append_nil] at heq
    obtain ⟨Tu, tu, rfl⟩ := own_form ho
    refine W.exit <| X.thenExit <| X.nextExit <| X.here <| X.seq <| W.seq <| W.region <| L.v (R1.loadBox rfl hb5 tyG33) rfl <| L.storeBox rfl rfl hb4 rfl rfl tyG33 ?_
    intro w33 hb4' hm33
    replace hn15 := hn15.mod hm33 (by simp)
    replace hd15 := hd15.mod hm33 (by simp)
    replace ho := own_far ho hm33 hno_ho_g4
    replace hl := hl.mod hm33 (by simp)
    replace hm0 := hm0.old1 hm33 hge_g4
    clear hm33
    replace hb4 := hb4'; clear hb4'
    refine L.nil <| X.seq <| W.ret <| X.result1 rfl (.cell rfl (loadVar_blk hb4 tyG33) .nil) ?_
    rw [heq]
    exact ⟨⟨s1, Tu, tu, A15, c15, B15, e15, rfl, own_lay hbd0 ho hl (by intro b hb; first | exact hb | (simp only [mq] at hb ⊢; grind)), hn15.sub (by intro b hb; first | exact hb | (simp only [mq] at hb ⊢; grind)), hd15.sub (by intro b hb; first | exact hb | (simp only [mq] at hb ⊢; grind))⟩, hm0⟩

end Go.Proofs.Ytpnhihljgkohcaa
