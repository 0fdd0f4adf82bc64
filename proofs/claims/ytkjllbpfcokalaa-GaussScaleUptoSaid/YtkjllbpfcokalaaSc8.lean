/- Walks: what the functions compute. -/
import Derived.Test.YtkjllbpfcokalaaGaC
import Derived.Test.YtkjllbpfcokalaaRefE
namespace Go.Proofs.Ytkjllbpfcokalaa
open Go.RowKit
set_option linter.unusedVariables false
set_option linter.unusedSimpArgs false
set_option maxRecDepth 10000

/-- A normal sum as a value, with its strength. -/
def RKs (M : List Nat) (w : World) (v : Value) (st : Int) (l : Ts) (k : Rat) : Prop := ∃ T t A a B b, v = .agg #[.int .i64 st, .slice T l.length t, .bool (decide (k.num < 0)), .slice A (toL k.num.natAbs).length a, .slice B (toL k.den).length b] ∧ Lay rdN M w (.slice T l.length t) l ∧ U32 M w (.slice A (toL k.num.natAbs).length a) (toL k.num.natAbs) ∧ U32 M w (.slice B (toL k.den).length b) (toL k.den)
theorem U32.laid {N G : List Nat} {w w' : World} {u u' v : Value} {xs : List Nat} (h : U32 N w v xs) (hm : Mod G w w') (hg : ∀ g ∈ G, g ∈ N) (hu : ∀ g ∈ ownL u, g ∈ N) (hpr : ∀ g, u'.ownBlock = some g → u.ownBlock = some g ∨ w.heap.size ≤ g) : U32 (ownL u' ++ N) w' v xs := by
  cases e : u'.ownBlock with
  | none => rw [show ownL u' = [] by unfold ownL; rw [e]; rfl]; exact h.mod hm hg
  | some g =>
    rw [show ownL u' = [g] by unfold ownL; rw [e]; rfl]
    rcases hpr g e with h1 | h1
    · exact (h.mod hm hg).sub (fun b hb => by
        rcases List.mem_append.1 hb with h2 | h2
        · rw [List.mem_singleton.1 h2]; exact hu g (by unfold ownL; rw [h1]; simp)
        · exact h2)
    · exact (h.more h1).mod hm (fun b hb => List.mem_cons_of_mem _ (hg b hb))

set_option maxHeartbeats 1000000 in
theorem c_lay8 {M N3 : List Nat} {w : World} {vl vx : Value} {o : Ts} {css : List (List Value)} {v B : Nat} {x : Rat} (ho : w.ownsRow B 50 4 vl o.length css.flatten) (hl : LayL rdN (ownL vl ++ M) w css o) (hx : RN N3 w vx x) (hbd : Bd (ownL vl ++ M) w) (hB : B ≤ w.heap.size) (fx : Fit x 68719476736) (hol : o.length ≤ 1099511627776) :
    Ret Try.prog 39 #[vl, .int .i64 (v : Int), vx] w (fun r w' => ∃ css', w'.ownsRow B 50 4 r (o ++ put0 (v, x)).length css'.flatten ∧ LayL rdN (ownL r ++ M) w' css' (o ++ put0 (v, x)) ∧ (∀ g, r.ownBlock = some g → vl.ownBlock = some g ∨ w.heap.size ≤ g) ∧ Mod (ownL vl) w w') := by
 obtain ⟨A3, c3, B3, e3, rfl, hn3, hd3⟩ := hx
 refine Ret.of (vs := [vl, .int .i64 (v : Int), .agg #[.bool (decide (x.num < 0)), .slice A3 (toL x.num.natAbs).length c3, .slice B3 (toL x.den).length e3]]) (n := 17) Try.func39 rfl rfl rfl rfl ?_
 have hm0 : Mod (ownL vl) w w := Mod.refl _ _
 refine W.seq <| W.region <| L.box rfl rfl ?_
 intro g5 w1 hN5
 have hno_ho_g5 := own_ne_new ho hN5
 replace ho := own_gr ho hN5.mod (by simp)
 replace hl := hl.new hN5
 replace hn3 := hn3.new hN5
 replace hd3 := hd3.new hN5
 replace hbd := hbd.new hN5
 have hge_g5 := New.ge hN5 hm0.size
 replace hm0 := hm0.trans (hN5.mod.mono (by simp))
 have hb5 := hN5.blk
 clear hN5
 refine L.v (R1.assign rfl) rfl <| L.nil <| X.seq <| W.seq <| W.seq <| W.region <| L.v (R1.loadBox rfl hb5 tyG27) rfl <| L.call rfl (c_ref2_Zero (q := x) (rv_toL _) hn3 hd3 hbd (Nat.le_trans fx.1 (by decide)) (Nat.le_trans fx.2 (by decide))) rfl ?_
 rintro _ w2 ⟨rfl, hm2⟩
 replace ho := own_gr ho hm2 (by simp)
 replace hl := hl.gr hm2
 replace hn3 := hn3.gr hm2
 replace hd3 := hd3.gr hm2
 replace hbd := hbd.gr hm2
 replace hm0 := hm0.trans (hm2.mono (by simp))
 replace hb5 := Blk.gr hb5 hm2
 clear hm2
 refine L.nil <| X.seq <| W.cond rfl ?_ ?_
 ·
  intro hc8
  try simp only [bq, ne_eq] at hc8
  refine W.seq <| W.region <| L.v (R1.move rfl) rfl <| L.v (R1.assign rfl) rfl <| L.nil <| X.seq <| W.ret <| X.thenRet <| X.result1 rfl (.tmp rfl .nil) ?_
  rw [put0, if_pos (show (v, x).2 = 0 from hc8), List.append_nil]
  exact ⟨css, ho, hl.sub (by intro b hb; first | exact hb | (simp only [mq] at hb ⊢; grind)), (fun g h => .inl h), hm0⟩
 ·
  intro hc8
  try simp only [bq, ne_eq] at hc8
  refine W.skip <| X.seq <| W.seq <| W.region <| L.v (R1.move rfl) rfl <| L.v (R1.move rfl) rfl <| L.v (R1.loadBox rfl hb5 tyG27) rfl <| L.call rfl (c_ref2_Norm (q := x) (rv_toL _) hn3 hd3 hbd (Nat.le_trans fx.1 (by decide)) (Nat.le_trans fx.2 (by decide))) rfl ?_
  rintro _ w3 ⟨⟨A13, c13, B13, e13, rfl, hn13, hd13⟩, hm3⟩
  replace ho := own_gr ho hm3 (by simp)
  replace hl := hl.gr hm3
  replace hn3 := hn3.gr hm3
  replace hd3 := hd3.gr hm3
  replace hbd := hbd.gr hm3
  replace hm0 := hm0.trans (hm3.mono (by simp))
  replace hb5 := Blk.gr hb5 hm3
  clear hm3
  have F13 := fx
  refine L.v (R1.build (vs := [.int .i64 (v : Int), .agg #[.bool (decide (x.num < 0)), .slice A13 (toL x.num.natAbs).length c13, .slice B13 (toL x.den).length e13]]) rfl (built_T01 _ _ _ _ _ _ _ _)) rfl <| L.buildSlice (cells := [.int .i64 (v : Int), .bool (decide (x.num < 0)), .slice A13 (toL x.num.natAbs).length c13, .slice B13 (toL x.den).length e13]) rfl tyS24 tyZ50 (fillN1 _ _ _ _ _ _ _ _) (by decide) (by decide) rfl ?_
  intro g15 w4 hN15
  replace ho := own_gr ho hN15.mod (by simp)
  replace hl := hl.gr hN15.mod
  replace hn3 := hn3.gr hN15.mod
  replace hd3 := hd3.gr hN15.mod
  replace hbd := hbd.gr hN15.mod
  replace hm0 := hm0.trans (hN15.mod.mono (by simp))
  replace hb5 := Blk.gr hb5 hN15.mod
  replace hn13 := hn13.gr hN15.mod
  replace hd13 := hd13.gr hN15.mod
  have hrow : Sl [] w4 4 (.slice (some ⟨g15, 0, none⟩) 1 1) 1 [.int .i64 (v : Int), .bool (decide (x.num < 0)), .slice A13 (toL x.num.natAbs).length c13, .slice B13 (toL x.den).length e13] := Sl.of_blk hN15.blk 0 (Nat.le_refl _) (by decide) rfl (by simp) (fun j hj => by simp)
  clear hN15
  have hsz0 := hm0.size
  have hB9 := Nat.le_trans hB hm0.size
  refine L.append rfl rfl ho hrow (by intro c hc; simp only [List.mem_cons, List.not_mem_nil, or_false] at hc; rcases hc with rfl | rfl | rfl | rfl <;> rfl) tyS24 tyZ50 (by omega) (by unfold maxLen; omega) hB9 rfl ?_
  intro v16 w5 ho16' hG16
  replace hl := hl.grew2 hG16 (by first | exact mem_own | (intro b hb; simp [hb]))
  replace hbd := hbd.grew2 hG16 (by first | exact mem_own | (intro b hb; simp [hb]))
  replace hm0 := hm0.trans (hG16.mod.mono (by intro b hb; simp [hb]))
  have hnn_g5 := hG16.ne hno_ho_g5 hb5
  replace hb5 := Blk.grew hb5 hG16 hno_ho_g5
  replace hno_ho_g5 := hnn_g5
  replace hn13 := hn13.grew2 hG16 (by first | exact mem_own | (intro b hb; simp [hb]))
  replace hd13 := hd13.grew2 hG16 (by first | exact mem_own | (intro b hb; simp [hb]))
  replace ho := ho16'; clear ho16'
  have hgrew := hG16
  clear hG16
  refine L.v (R1.assign rfl) rfl <| L.nil <| X.seq <| W.ret <| X.result1 rfl (.tmp rfl .nil) ?_
  rw [put0, if_neg (show ¬ (v, x).2 = 0 from hc8)]
  refine ⟨css ++ [[.int .i64 (v : Int), .bool (decide (x.num < 0)), .slice A13 (toL x.num.natAbs).length c13, .slice B13 (toL x.den).length e13]], own_congr ho (by simp) (by simp), (hl.sub (by intro b hb; first | exact hb | (simp only [mq] at hb ⊢; grind))).append (LayL.one _ (v, x) ⟨_, _, _, _, rfl, hn13.sub (by intro b hb; first | exact hb | (simp only [mq] at hb ⊢; grind)), hd13.sub (by intro b hb; first | exact hb | (simp only [mq] at hb ⊢; grind))⟩), (fun g h => ?_), hm0⟩
  rcases hgrew.at_ with h1 | h1
  · exact .inl (h1 ▸ h)
  · rw [h1] at h; injection h with h; subst h; exact .inr hsz0

set_option maxHeartbeats 1000000 in
theorem c_ref8_Scale {M N1 N2 : List Nat} {w : World} {va : Value} {s1 : Int} {l : Ts} {k x : Rat} {sx : Bool} {AX BX : Option Addr} {cx ex : Nat} {xs ys : List Nat} (ha : RKs N1 w va s1 l k) (hx : U32 N2 w (.slice AX xs.length cx) xs) (hy : U32 N2 w (.slice BX ys.length ex) ys) (hqx : rv sx (val xs) (val ys) = x) (hbd : Bd M w) (fl : ∀ x ∈ l, Fit x.2 17179869184) (fk : Fit k 17179869184) (fx : Fit x 17179869184) (fx1 : xs.length ≤ 17179869184) (fx2 : ys.length ≤ 17179869184) (ll : l.length ≤ 68719476736) :
    Ret Try.prog 18 #[va, .agg #[.bool sx, .slice AX xs.length cx, .slice BX ys.length ex]] w (fun r w' => RKs M w' r s1 (scaleT l x) (k * x) ∧ Mod [] w w') := by
 have hbd0 := hbd
 obtain ⟨T1, t1, A1, c1, B1, e1, rfl, ht1, hn1, hd1⟩ := ha
 refine Ret.of (vs := [.agg #[.int .i64 s1, .slice T1 l.length t1, .bool (decide (k.num < 0)), .slice A1 (toL k.num.natAbs).length c1, .slice B1 (toL k.den).length e1], .agg #[.bool sx, .slice AX xs.length cx, .slice BX ys.length ex]]) (n := 40) Try.func18 rfl rfl rfl rfl ?_
 have hm0 : Mod [] w w := Mod.refl _ _
 refine W.seq <| W.region <| L.box rfl rfl ?_
 intro g2 w1 hN2
 replace ht1 := ht1.new hN2
 replace hn1 := hn1.new hN2
 replace hd1 := hd1.new hN2
 replace hx := hx.new hN2
 replace hy := hy.new hN2
 replace hbd := hbd.new hN2
 have hge_g2 := New.ge hN2 hm0.size
 replace hm0 := hm0.trans (hN2.mod.mono (by simp))
 have hb2 := hN2.blk
 clear hN2
 refine L.box rfl rfl ?_
 intro g3 w2 hN3
 replace ht1 := ht1.new hN3
 replace hn1 := hn1.new hN3
 replace hd1 := hd1.new hN3
 replace hx := hx.new hN3
 replace hy := hy.new hN3
 replace hbd := hbd.new hN3
 have hge_g3 := New.ge hN3 hm0.size
 replace hm0 := hm0.trans (hN3.mod.mono (by simp))
 have hne_g2_g3 := hb2.ne_ hN3
 replace hb2 := Blk.gr hb2 hN3.mod
 have hb3 := hN3.blk
 clear hN3
 refine L.alloc tyZ29 rfl ?_
 intro g4 w3 hN4
 replace ht1 := ht1.new hN4
 replace hn1 := hn1.new hN4
 replace hd1 := hd1.new hN4
 replace hx := hx.new hN4
 replace hy := hy.new hN4
 replace hbd := hbd.new hN4
 have hge_g4 := New.ge hN4 hm0.size
 replace hm0 := hm0.trans (hN4.mod.mono (by simp))
 have hne_g2_g4 := hb2.ne_ hN4
 replace hb2 := Blk.gr hb2 hN4.mod
 have hne_g3_g4 := hb3.ne_ hN4
 replace hb3 := Blk.gr hb3 hN4.mod
 have hb4 := hN4.blk
 clear hN4
 refine L.nil <| X.seq <| W.seq <| W.cut (ι := Option Addr × Nat × Option Addr × Nat × Nat) (fun (A12, c12, B12, e12, g5) => [(2, .pointer (some ⟨g2, 0, none⟩)), (3, .pointer (some ⟨g3, 0, none⟩)), (4, .pointer (some ⟨g4, 0, none⟩)), (5, .pointer (some ⟨g5, 0, none⟩))]) (fun (A12, c12, B12, e12, g5) w_ => Lay rdN (g5 :: g4 :: N1) w_ (.slice T1 l.length t1) l ∧ U32 (g5 :: g4 :: N2) w_ (.slice AX xs.length cx) xs ∧ U32 (g5 :: g4 :: N2) w_ (.slice BX ys.length ex) ys ∧ U32 (g5 :: g4 :: M) w_ (.slice A12 (toL (k * x).num.natAbs).length c12) (toL (k * x).num.natAbs) ∧ U32 (g5 :: g4 :: M) w_ (.slice B12 (toL (k * x).den).length e12) (toL (k * x).den) ∧ Blk w_ g3 27 #[.bool sx, .slice AX xs.length cx, .slice BX ys.length ex] ∧ Blk w_ g2 29 #[.int .i64 s1, .slice T1 l.length t1, .bool (decide (k.num < 0)), .slice A1 (toL k.num.natAbs).length c1, .slice B1 (toL k.den).length e1] ∧ Blk w_ g4 29 #[.int .i64 0, .slice none 0 0, .bool false, .slice none 0 0, .slice none 0 0] ∧ w.heap.size ≤ g5 ∧ w.heap.size ≤ g4 ∧ g4 ≠ g5 ∧ g3 ≠ g4 ∧ g3 ≠ g5 ∧ g2 ≠ g4 ∧ g2 ≠ g5 ∧ Bd (g5 :: g4 :: M) w_ ∧ Mod [] w w_ ∧ Blk w_ g5 29 #[.int .i64 s1, .slice none 0 0, .bool (decide ((k * x).num < 0)), .slice A12 (toL (k * x).num.natAbs).length c12, .slice B12 (toL (k * x).den).length e12]) ?_ ?_
 ·
  refine W.drawW (T := [8]) rfl (by decide +kernel) (NoHang.join (NoHang.then NoHang.post)) (fun w4 hm4 => ?_)
  replace ht1 := ht1.gr hm4
  replace hn1 := hn1.gr hm4
  replace hd1 := hd1.gr hm4
  replace hx := hx.gr hm4
  replace hy := hy.gr hm4
  replace hbd := hbd.gr hm4
  replace hm0 := hm0.trans hm4
  replace hb2 := Blk.gr hb2 hm4
  replace hb3 := Blk.gr hb3 hm4
  replace hb4 := Blk.gr hb4 hm4
  have hS1 : Mod [] w4 w4 := Mod.refl _ _
  clear hm4
  have hb2_s := hb2
  have hb3_s := hb3
  have hb4_s := hb4
  refine D.take 0 rfl (by decide +kernel) (fun w_ hS => (R1.fieldAt rfl tyF29_0)) hS1 rfl <| D.take 1 rfl (by decide +kernel) (fun w_ hS => (R1.loadFld rfl (Blk.gr hb2_s hS) rfl tyP3)) hS1 rfl <| D.take 2 rfl (by decide +kernel) (fun w_ hS => (R1.fieldAt rfl tyF29_2)) hS1 rfl <| D.take 3 rfl (by decide +kernel) (fun w_ hS => (R1.loadBoxAt (ds := [.bool (decide (k.num < 0)), .slice A1 (toL k.num.natAbs).length c1, .slice B1 (toL k.den).length e1]) rfl (Blk.gr hb2_s hS) rfl tyG27)) hS1 rfl <| D.take 4 rfl (by decide +kernel) (fun w_ hS => (R1.loadBox rfl (Blk.gr hb3_s hS) tyG27)) hS1 rfl <| D.many (rs := [5, 7]) (by decide +kernel) rfl ?_
  intro i_ hi_
  simp only [List.mem_cons, List.not_mem_nil, or_false] at hi_
  rcases hi_ with rfl | rfl
  ·
   refine ⟨_, rfl, fun hX => ?_⟩
   refine L.call rfl (c_ref2_Mul (qa := k) (qb := x) (rv_toL _) hqx hn1 hd1 hx hy hbd (Nat.le_trans fk.1 (by decide)) (Nat.le_trans fk.2 (by decide)) (Nat.le_trans fx1 (by decide)) (Nat.le_trans fx2 (by decide))) rfl ?_
   rintro _ w5 ⟨⟨A12, c12, B12, e12, rfl, hn12, hd12⟩, hm5⟩
   replace ht1 := ht1.gr hm5
   replace hn1 := hn1.gr hm5
   replace hd1 := hd1.gr hm5
   replace hx := hx.gr hm5
   replace hy := hy.gr hm5
   replace hbd := hbd.gr hm5
   replace hm0 := hm0.trans hm5
   replace hb2 := Blk.gr hb2 hm5
   replace hb3 := Blk.gr hb3 hm5
   replace hb4 := Blk.gr hb4 hm5
   replace hS1 := hS1.trans hm5
   clear hm5
   have F12 := Fit.mul fk fx
   refine L.nil (hX _ _ ⟨.inr hS1, ?_⟩)
   refine D.take 6 rfl (by decide +kernel) (fun w_ hS => (R1.build (vs := [.int .i64 s1, .agg #[.bool (decide ((k * x).num < 0)), .slice A12 (toL (k * x).num.natAbs).length c12, .slice B12 (toL (k * x).den).length e12]]) rfl (built_C02 _ _ _ _ _ _ _ _))) hS1 rfl <| D.one 7 rfl (by decide +kernel) (fun hX => ?_)
   refine L.alloc tyZ29 rfl ?_
   intro g5 w6 hN5
   replace hS1 := hS1.trans hN5.mod
   replace ht1 := ht1.new hN5
   replace hn1 := hn1.new hN5
   replace hd1 := hd1.new hN5
   replace hx := hx.new hN5
   replace hy := hy.new hN5
   replace hbd := hbd.new hN5
   have hge_g5 := New.ge hN5 hm0.size
   replace hm0 := hm0.trans (hN5.mod.mono (by simp))
   have hne_g2_g5 := hb2.ne_ hN5
   replace hb2 := Blk.gr hb2 hN5.mod
   have hne_g3_g5 := hb3.ne_ hN5
   replace hb3 := Blk.gr hb3 hN5.mod
   have hne_g4_g5 := hb4.ne_ hN5
   replace hb4 := Blk.gr hb4 hN5.mod
   replace hn12 := hn12.new hN5
   replace hd12 := hd12.new hN5
   have hb5 := hN5.blk
   clear hN5
   refine L.nil (hX _ _ ⟨.inr hS1, ?_⟩)
   refine D.one 8 rfl (by decide +kernel) (fun hX => ?_)
   refine L.storeBox rfl rfl hb5 rfl rfl tyG29 ?_
   intro w7 hb5' hm7
   replace ht1 := ht1.mod hm7 (by simp)
   replace hn1 := hn1.mod hm7 (by simp)
   replace hd1 := hd1.mod hm7 (by simp)
   replace hx := hx.mod hm7 (by simp)
   replace hy := hy.mod hm7 (by simp)
   replace hbd := hbd.gr hm7
   replace hm0 := hm0.old1 hm7 hge_g5
   replace hb2 := Blk.far hb2 hm7 (by first | exact hne_g2_g5 | exact (hne_g5_g2).symm)
   replace hb3 := Blk.far hb3 hm7 (by first | exact hne_g3_g5 | exact (hne_g5_g3).symm)
   replace hb4 := Blk.far hb4 hm7 (by first | exact hne_g4_g5 | exact (hne_g5_g4).symm)
   replace hn12 := hn12.mod hm7 (by simp)
   replace hd12 := hd12.mod hm7 (by simp)
   clear hm7
   replace hb5 := hb5'; clear hb5'
   refine L.nil (hX _ _ ⟨.inl rfl, ?_⟩)
   refine D.done (by decide +kernel) ?_ _
   refine X.join (A12, c12, B12, e12, g5) ?_ ?_
   · exact ⟨rfl, rfl, rfl, rfl, trivial⟩
   ·
    exact ⟨ht1.sub (by intro b hb; first | exact hb | (simp only [mq] at hb ⊢; grind)), hx.sub (by intro b hb; first | exact hb | (simp only [mq] at hb ⊢; grind)), hy.sub (by intro b hb; first | exact hb | (simp only [mq] at hb ⊢; grind)), hn12.sub (by intro b hb; first | exact hb | (simp only [mq] at hb ⊢; grind)), hd12.sub (by intro b hb; first | exact hb | (simp only [mq] at hb ⊢; grind)), hb3, hb2, hb4, hge_g5, hge_g4, hne_g4_g5, hne_g3_g4, hne_g3_g5, hne_g2_g4, hne_g2_g5, hbd.sub (by intro b hb; first | exact hb | (simp only [mq] at hb ⊢; grind)), hm0, hb5⟩
  ·
   refine ⟨_, rfl, fun hX => ?_⟩
   refine L.alloc tyZ29 rfl ?_
   intro g5 w8 hN5
   replace hS1 := hS1.trans hN5.mod
   replace ht1 := ht1.new hN5
   replace hn1 := hn1.new hN5
   replace hd1 := hd1.new hN5
   replace hx := hx.new hN5
   replace hy := hy.new hN5
   replace hbd := hbd.new hN5
   have hge_g5 := New.ge hN5 hm0.size
   replace hm0 := hm0.trans (hN5.mod.mono (by simp))
   have hne_g2_g5 := hb2.ne_ hN5
   replace hb2 := Blk.gr hb2 hN5.mod
   have hne_g3_g5 := hb3.ne_ hN5
   replace hb3 := Blk.gr hb3 hN5.mod
   have hne_g4_g5 := hb4.ne_ hN5
   replace hb4 := Blk.gr hb4 hN5.mod
   have hb5 := hN5.blk
   clear hN5
   refine L.nil (hX _ _ ⟨.inr hS1, ?_⟩)
   refine D.one 5 rfl (by decide +kernel) (fun hX => ?_)
   refine L.call rfl (c_ref2_Mul (qa := k) (qb := x) (rv_toL _) hqx hn1 hd1 hx hy hbd (Nat.le_trans fk.1 (by decide)) (Nat.le_trans fk.2 (by decide)) (Nat.le_trans fx1 (by decide)) (Nat.le_trans fx2 (by decide))) rfl ?_
   rintro _ w9 ⟨⟨A12, c12, B12, e12, rfl, hn12, hd12⟩, hm9⟩
   replace ht1 := ht1.gr hm9
   replace hn1 := hn1.gr hm9
   replace hd1 := hd1.gr hm9
   replace hx := hx.gr hm9
   replace hy := hy.gr hm9
   replace hbd := hbd.gr hm9
   replace hm0 := hm0.trans hm9
   replace hb2 := Blk.gr hb2 hm9
   replace hb3 := Blk.gr hb3 hm9
   replace hb4 := Blk.gr hb4 hm9
   replace hb5 := Blk.gr hb5 hm9
   replace hS1 := hS1.trans hm9
   clear hm9
   have F12 := Fit.mul fk fx
   refine L.nil (hX _ _ ⟨.inr hS1, ?_⟩)
   refine D.take 6 rfl (by decide +kernel) (fun w_ hS => (R1.build (vs := [.int .i64 s1, .agg #[.bool (decide ((k * x).num < 0)), .slice A12 (toL (k * x).num.natAbs).length c12, .slice B12 (toL (k * x).den).length e12]]) rfl (built_C02 _ _ _ _ _ _ _ _))) hS1 rfl <| D.one 8 rfl (by decide +kernel) (fun hX => ?_)
   refine L.storeBox rfl rfl hb5 rfl rfl tyG29 ?_
   intro w10 hb5' hm10
   replace ht1 := ht1.mod hm10 (by simp)
   replace hn1 := hn1.mod hm10 (by simp)
   replace hd1 := hd1.mod hm10 (by simp)
   replace hx := hx.mod hm10 (by simp)
   replace hy := hy.mod hm10 (by simp)
   replace hbd := hbd.gr hm10
   replace hm0 := hm0.old1 hm10 hge_g5
   replace hb2 := Blk.far hb2 hm10 (by first | exact hne_g2_g5 | exact (hne_g5_g2).symm)
   replace hb3 := Blk.far hb3 hm10 (by first | exact hne_g3_g5 | exact (hne_g5_g3).symm)
   replace hb4 := Blk.far hb4 hm10 (by first | exact hne_g4_g5 | exact (hne_g5_g4).symm)
   replace hn12 := hn12.mod hm10 (by simp)
   replace hd12 := hd12.mod hm10 (by simp)
   clear hm10
   replace hb5 := hb5'; clear hb5'
   refine L.nil (hX _ _ ⟨.inl rfl, ?_⟩)
   refine D.done (by decide +kernel) ?_ _
   refine X.join (A12, c12, B12, e12, g5) ?_ ?_
   · exact ⟨rfl, rfl, rfl, rfl, trivial⟩
   ·
    exact ⟨ht1.sub (by intro b hb; first | exact hb | (simp only [mq] at hb ⊢; grind)), hx.sub (by intro b hb; first | exact hb | (simp only [mq] at hb ⊢; grind)), hy.sub (by intro b hb; first | exact hb | (simp only [mq] at hb ⊢; grind)), hn12.sub (by intro b hb; first | exact hb | (simp only [mq] at hb ⊢; grind)), hd12.sub (by intro b hb; first | exact hb | (simp only [mq] at hb ⊢; grind)), hb3, hb2, hb4, hge_g5, hge_g4, hne_g4_g5, hne_g3_g4, hne_g3_g5, hne_g2_g4, hne_g2_g5, hbd.sub (by intro b hb; first | exact hb | (simp only [mq] at hb ⊢; grind)), hm0, hb5⟩
 ·
  rintro ⟨A12, c12, B12, e12, g5⟩ wj ⟨ht1, hx, hy, hn12, hd12, hb3, hb2, hb4, hge_g5, hge_g4, hne_g4_g5, hne_g3_g4, hne_g3_g5, hne_g2_g4, hne_g2_g5, hbd, hm0, hb5⟩
  refine X.seq <| W.seq <| W.seq <| W.region <| L.v (R1.assign rfl) rfl <| L.nil <| X.seq <| W.block <| W.loop (ι := Nat × Value × List (List Value) × Ts) (fun (i, u, css, o) => [(2, .pointer (some ⟨g2, 0, none⟩)), (3, .pointer (some ⟨g3, 0, none⟩)), (4, .pointer (some ⟨g4, 0, none⟩)), (5, .pointer (some ⟨g5, 0, none⟩)), (6, .int .i64 (i : Int))]) (fun (i, u, css, o) w_ => Lay rdN (ownL u ++ g5 :: g4 :: N1) w_ (.slice T1 l.length t1) l ∧ U32 (ownL u ++ g5 :: g4 :: N2) w_ (.slice AX xs.length cx) xs ∧ U32 (ownL u ++ g5 :: g4 :: N2) w_ (.slice BX ys.length ex) ys ∧ U32 (ownL u ++ g5 :: g4 :: M) w_ (.slice A12 (toL (k * x).num.natAbs).length c12) (toL (k * x).num.natAbs) ∧ U32 (ownL u ++ g5 :: g4 :: M) w_ (.slice B12 (toL (k * x).den).length e12) (toL (k * x).den) ∧ Blk w_ g3 27 #[.bool sx, .slice AX xs.length cx, .slice BX ys.length ex] ∧ Blk w_ g2 29 #[.int .i64 s1, .slice T1 l.length t1, .bool (decide (k.num < 0)), .slice A1 (toL k.num.natAbs).length c1, .slice B1 (toL k.den).length e1] ∧ Blk w_ g4 29 #[.int .i64 0, .slice none 0 0, .bool false, .slice none 0 0, .slice none 0 0] ∧ w.heap.size ≤ g5 ∧ w.heap.size ≤ g4 ∧ g4 ≠ g5 ∧ g3 ≠ g4 ∧ g3 ≠ g5 ∧ g2 ≠ g4 ∧ g2 ≠ g5 ∧ Bd (ownL u ++ g5 :: g4 :: M) w_ ∧ Mod [] w w_ ∧ w_.ownsRow w.heap.size 50 4 u o.length css.flatten ∧ LayL rdN (ownL u ++ g5 :: g4 :: M) w_ css o ∧ Blk w_ g5 29 #[.int .i64 s1, u, .bool (decide ((k * x).num < 0)), .slice A12 (toL (k * x).num.natAbs).length c12, .slice B12 (toL (k * x).den).length e12] ∧ u.ownBlock ≠ some g2 ∧ u.ownBlock ≠ some g3 ∧ u.ownBlock ≠ some g4 ∧ u.ownBlock ≠ some g5 ∧ i ≤ l.length ∧ o = scaleT (l.take i) x ∧ o.length ≤ i) (fun (i, u, css, o) => l.length - i) (0, .slice none 0 0, [], []) ?_ ?_ ?_
  · exact ⟨rfl, rfl, rfl, rfl, rfl, trivial⟩
  ·
   exact ⟨ht1.sub (by intro b hb; first | exact hb | (simp only [mq] at hb ⊢; grind)), hx.sub (by intro b hb; first | exact hb | (simp only [mq] at hb ⊢; grind)), hy.sub (by intro b hb; first | exact hb | (simp only [mq] at hb ⊢; grind)), hn12.sub (by intro b hb; first | exact hb | (simp only [mq] at hb ⊢; grind)), hd12.sub (by intro b hb; first | exact hb | (simp only [mq] at hb ⊢; grind)), hb3, hb2, hb4, hge_g5, hge_g4, hne_g4_g5, hne_g3_g4, hne_g3_g5, hne_g2_g4, hne_g2_g5, hbd.sub (by intro b hb; first | exact hb | (simp only [mq] at hb ⊢; grind)), hm0, own_nil _ _ _ _, LayL.nil, hb5, (fun h => by cases h), (fun h => by cases h), (fun h => by cases h), (fun h => by cases h), Nat.zero_le _, rfl, Nat.le_refl _⟩
  ·
   rintro ⟨i, u, css, o⟩ w11 ⟨ht1, hx, hy, hn12, hd12, hb3, hb2, hb4, hge_g5, hge_g4, hne_g4_g5, hne_g3_g4, hne_g3_g5, hne_g2_g4, hne_g2_g5, hbd, hm0, ho, hl, hb5, hno_ho_g2, hno_ho_g3, hno_ho_g4, hno_ho_g5, hi, heq, hol⟩
   refine W.seq <| W.seq <| W.region <| L.v (R1.move rfl) rfl <| L.v (R1.fieldAt rfl tyF29_1) rfl <| L.v (R1.loadFld rfl hb2 rfl tyP24) rfl <| L.v (R1.lenLay rfl ht1 tyS24) rfl <| L.v (R1.lt rfl rfl) rfl <| L.nil <| X.seq <| W.cond rfl ?_ ?_
   ·
    intro hc18
    try simp only [bq, ne_eq] at hc18
    refine W.skip <| X.seq <| W.seq <| W.block <| W.drawW (T := [16, 17, 18]) rfl (by decide +kernel) (NoHang.block (NoHang.then (NoHang.next (NoHang.block (NoHang.then NoHang.post))))) (fun w12 hm12 => ?_)
    replace ht1 := ht1.gr hm12
    replace hx := hx.gr hm12
    replace hy := hy.gr hm12
    replace hn12 := hn12.gr hm12
    replace hd12 := hd12.gr hm12
    replace hb3 := Blk.gr hb3 hm12
    replace hb2 := Blk.gr hb2 hm12
    replace hb4 := Blk.gr hb4 hm12
    replace hbd := hbd.gr hm12
    replace hm0 := hm0.trans hm12
    replace ho := own_gr ho hm12 (by simp)
    replace hl := hl.gr hm12
    replace hb5 := Blk.gr hb5 hm12
    have hS2 : Mod [] w12 w12 := Mod.refl _ _
    clear hm12
    have hb3_s := hb3
    have hb2_s := hb2
    have hb4_s := hb4
    have hb5_s := hb5
    refine D.take 0 rfl (by decide +kernel) (fun w_ hS => (R1.fieldAt rfl tyF29_1)) hS2 rfl <| D.take 1 rfl (by decide +kernel) (fun w_ hS => ((R1.loadFld rfl (Blk.gr hb5_s hS) rfl tyP24).asV (v := u) rfl)) hS2 rfl <| D.take 2 rfl (by decide +kernel) (fun w_ hS => (R1.fieldAt rfl tyF29_1)) hS2 rfl <| D.take 3 rfl (by decide +kernel) (fun w_ hS => (R1.loadFld rfl (Blk.gr hb2_s hS) rfl tyP24)) hS2 rfl <| D.take 4 rfl (by decide +kernel) (fun w_ hS => (R1.move rfl)) hS2 rfl <| D.take 5 rfl (by decide +kernel) (fun w_ hS => (R1.atLay (j := i) rfl rfl (Lay.gr ht1 hS) tyS24 rfl (by omega))) hS2 rfl <| D.take 6 rfl (by decide +kernel) (fun w_ hS => (R1.fieldAddr rfl tyF50_0)) hS2 rfl ?_
    obtain ⟨z28, cs28, hz28, hE28, A28, a28, B28, b28, rfl, hn28, hd28⟩ := Lay.elemQ ht1 (j := i) (by omega)
    refine D.take 7 rfl (by decide +kernel) (fun w_ hS => (R1.loadEF rfl (SlE.gr hE28 hS) rfl tyP3)) hS2 rfl <| D.take 8 rfl (by decide +kernel) (fun w_ hS => (R1.fieldAt rfl tyF29_1)) hS2 rfl <| D.take 9 rfl (by decide +kernel) (fun w_ hS => (R1.loadFld rfl (Blk.gr hb2_s hS) rfl tyP24)) hS2 rfl <| D.take 10 rfl (by decide +kernel) (fun w_ hS => (R1.move rfl)) hS2 rfl <| D.take 11 rfl (by decide +kernel) (fun w_ hS => (R1.atLay (j := i) rfl rfl (Lay.gr ht1 hS) tyS24 rfl (by omega))) hS2 rfl <| D.take 12 rfl (by decide +kernel) (fun w_ hS => (R1.fieldAddr rfl tyF50_1)) hS2 rfl ?_
    obtain ⟨z34, cs34, hz34, hE34, A34, a34, B34, b34, rfl, hn34, hd34⟩ := Lay.elemQ ht1 (j := i) (by omega)
    obtain rfl : z28 = z34 := by have h9 := hz34; rw [hz28] at h9; injection h9
    refine D.take 13 rfl (by decide +kernel) (fun w_ hS => (R1.loadEA (ds := [.bool (decide (z28.2.num < 0)), .slice A34 (toL z28.2.num.natAbs).length a34, .slice B34 (toL z28.2.den).length b34]) rfl (SlE.gr hE34 hS) rfl tyG27)) hS2 rfl <| D.take 14 rfl (by decide +kernel) (fun w_ hS => (R1.loadBox rfl (Blk.gr hb3_s hS) tyG27)) hS2 rfl <| D.one 15 rfl (by decide +kernel) (fun hX => ?_)
    refine L.call rfl (c_ref2_Mul (qa := z28.2) (qb := x) (rv_toL _) hqx hn34 hd34 hx hy hbd (Nat.le_trans (fl _ (List.mem_of_getElem? hz34)).1 (by decide)) (Nat.le_trans (fl _ (List.mem_of_getElem? hz34)).2 (by decide)) (Nat.le_trans fx1 (by decide)) (Nat.le_trans fx2 (by decide))) rfl ?_
    rintro _ w13 ⟨⟨A36, c36, B36, e36, rfl, hn36, hd36⟩, hm13⟩
    replace ht1 := ht1.gr hm13
    replace hx := hx.gr hm13
    replace hy := hy.gr hm13
    replace hn12 := hn12.gr hm13
    replace hd12 := hd12.gr hm13
    replace hb3 := Blk.gr hb3 hm13
    replace hb2 := Blk.gr hb2 hm13
    replace hb4 := Blk.gr hb4 hm13
    replace hbd := hbd.gr hm13
    replace hm0 := hm0.trans hm13
    replace ho := own_gr ho hm13 (by simp)
    replace hl := hl.gr hm13
    replace hb5 := Blk.gr hb5 hm13
    replace hn28 := hn28.gr hm13
    replace hd28 := hd28.gr hm13
    replace hn34 := hn34.gr hm13
    replace hd34 := hd34.gr hm13
    replace hS2 := hS2.trans hm13
    clear hm13
    have F36 := Fit.mul (fl _ (List.mem_of_getElem? hz34)) fx
    refine L.nil (hX _ _ ⟨.inr hS2, ?_⟩)
    refine D.one 16 rfl (by decide +kernel) (fun hX => ?_)
    refine L.call rfl (c_lay8 ho hl ⟨_, _, _, _, rfl, hn36, hd36⟩ hbd hm0.size (F36.mono (by decide)) (by omega)) rfl ?_
    rintro v37 w14 ⟨css2, ho2, hl2, hpr, hmX⟩
    have ht2 := ht1.laid (u' := v37) hmX (by first | exact mem_own | (intro b hb; simp [hb])) (by first | exact mem_own | (intro b hb; simp [hb])) hpr
    have hx2 := hx.laid (u' := v37) hmX (by first | exact mem_own | (intro b hb; simp [hb])) (by first | exact mem_own | (intro b hb; simp [hb])) hpr
    have hy2 := hy.laid (u' := v37) hmX (by first | exact mem_own | (intro b hb; simp [hb])) (by first | exact mem_own | (intro b hb; simp [hb])) hpr
    have hn2 := hn12.laid (u' := v37) hmX mem_own mem_own hpr
    have hd2 := hd12.laid (u' := v37) hmX mem_own mem_own hpr
    have hbd2 := hbd.laid hmX ho2
    have hno2_g2 : v37.ownBlock ≠ some g2 := fun h9 => by rcases hpr _ h9 with h8 | h8; exact hno_ho_g2 h8; have h7 := Blk.lt hb2; omega
    have hno2_g3 : v37.ownBlock ≠ some g3 := fun h9 => by rcases hpr _ h9 with h8 | h8; exact hno_ho_g3 h8; have h7 := Blk.lt hb3; omega
    have hno2_g4 : v37.ownBlock ≠ some g4 := fun h9 => by rcases hpr _ h9 with h8 | h8; exact hno_ho_g4 h8; have h7 := Blk.lt hb4; omega
    have hno2_g5 : v37.ownBlock ≠ some g5 := fun h9 => by rcases hpr _ h9 with h8 | h8; exact hno_ho_g5 h8; have h7 := Blk.lt hb5; omega
    replace hb2 := Blk.ownfar hb2 hmX hno_ho_g2
    replace hb3 := Blk.ownfar hb3 hmX hno_ho_g3
    replace hb4 := Blk.ownfar hb4 hmX hno_ho_g4
    replace hb5 := Blk.ownfar hb5 hmX hno_ho_g5
    have hm2 := Mod.oldOwn hm0 hmX ho
    clear hno_ho_g2; have hno_ho2_g2 := hno2_g2
    clear hno_ho_g3; have hno_ho2_g3 := hno2_g3
    clear hno_ho_g4; have hno_ho2_g4 := hno2_g4
    clear hno_ho_g5; have hno_ho2_g5 := hno2_g5
    refine L.nil (hX _ _ ⟨.inl rfl, ?_⟩)
    refine D.one 17 rfl (by decide +kernel) (fun hX => ?_)
    refine L.v (R1.fieldAt rfl tyF29_1) rfl (L.nil (hX _ _ ⟨.inl rfl, ?_⟩))
    refine D.one 18 rfl (by decide +kernel) (fun hX => ?_)
    refine L.store rfl rfl hb5 (show 1 < 5 by decide) (own_one ho2) tyP24 ?_
    intro w15 hb5' hm15
    replace ht2 := ht2.mod hm15 (by simp)
    replace hx2 := hx2.mod hm15 (by simp)
    replace hy2 := hy2.mod hm15 (by simp)
    replace hn2 := hn2.mod hm15 (by simp)
    replace hd2 := hd2.mod hm15 (by simp)
    replace hbd2 := hbd2.gr hm15
    replace ho2 := own_far ho2 hm15 hno_ho2_g5
    replace hl2 := hl2.mod hm15 (by simp)
    replace hm2 := hm2.old1 hm15 hge_g5
    replace hb2 := Blk.far hb2 hm15 (by first | exact hne_g2_g5 | exact (hne_g5_g2).symm)
    replace hb3 := Blk.far hb3 hm15 (by first | exact hne_g3_g5 | exact (hne_g5_g3).symm)
    replace hb4 := Blk.far hb4 hm15 (by first | exact hne_g4_g5 | exact (hne_g5_g4).symm)
    clear hm15
    replace hb5 := hb5'; clear hb5'
    refine L.nil (hX _ _ ⟨.inl rfl, ?_⟩)
    refine D.done (by decide +kernel) ?_ _
    refine X.blockEnd <| X.seq <| W.region <| L.v (R1.move rfl) rfl <| L.v (R1.addI (b := 1) rfl rfl (by omega)) rfl <| L.v (R1.assign rfl) rfl <| L.nil <| X.next (i + 1, v37, css2, o ++ put0 (z28.1, z28.2 * x)) ?_ ?_ ?_
    · exact ⟨rfl, rfl, rfl, rfl, rfl, trivial⟩
    ·
     have hp9 : (put0 (z28.1, z28.2 * x)).length ≤ 1 := by unfold put0; split <;> simp
     exact ⟨ht2.sub (by intro b hb; first | exact hb | (simp only [mq] at hb ⊢; grind)), hx2.sub (by intro b hb; first | exact hb | (simp only [mq] at hb ⊢; grind)), hy2.sub (by intro b hb; first | exact hb | (simp only [mq] at hb ⊢; grind)), hn2.sub (by intro b hb; first | exact hb | (simp only [mq] at hb ⊢; grind)), hd2.sub (by intro b hb; first | exact hb | (simp only [mq] at hb ⊢; grind)), hb3, hb2, hb4, hge_g5, hge_g4, hne_g4_g5, hne_g3_g4, hne_g3_g5, hne_g2_g4, hne_g2_g5, hbd2.sub (by intro b hb; first | exact hb | (simp only [mq] at hb ⊢; grind)), hm2, ho2, hl2, hb5, hno_ho2_g2, hno_ho2_g3, hno_ho2_g4, hno_ho2_g5, by omega, by rw [scaleT_snoc hz28, ← heq], by simp; omega⟩
    · first | omega | (dsimp only; omega)
   ·
    intro hc18
    try simp only [bq, ne_eq] at hc18
    obtain rfl : i = l.length := by omega
    rw [List.take_length] at heq
    obtain ⟨Tu, tu, rfl⟩ := own_form ho
    refine W.exit <| X.thenExit <| X.nextExit <| X.here <| X.seq <| W.seq <| W.region <| L.v (R1.loadBox rfl hb5 tyG29) rfl <| L.storeBox rfl rfl hb4 rfl rfl tyG29 ?_
    intro w16 hb4' hm16
    replace ht1 := ht1.mod hm16 (by simp)
    replace hx := hx.mod hm16 (by simp)
    replace hy := hy.mod hm16 (by simp)
    replace hn12 := hn12.mod hm16 (by simp)
    replace hd12 := hd12.mod hm16 (by simp)
    replace hb3 := Blk.far hb3 hm16 (by first | exact hne_g3_g4 | exact (hne_g4_g3).symm)
    replace hb2 := Blk.far hb2 hm16 (by first | exact hne_g2_g4 | exact (hne_g4_g2).symm)
    replace hbd := hbd.gr hm16
    replace hm0 := hm0.old1 hm16 hge_g4
    replace ho := own_far ho hm16 hno_ho_g4
    replace hl := hl.mod hm16 (by simp)
    replace hb5 := Blk.far hb5 hm16 (by first | exact hne_g5_g4 | exact (hne_g4_g5).symm)
    clear hm16
    replace hb4 := hb4'; clear hb4'
    refine L.nil <| X.seq <| W.ret <| X.result1 rfl (.cell rfl (loadVar_blk hb4 tyG29) .nil) ?_
    exact ⟨⟨Tu, tu, A12, c12, B12, e12, by rw [← heq], heq ▸ own_lay hbd0 ho hl (by intro b hb; first | exact hb | (simp only [mq] at hb ⊢; grind)), hn12.sub (by intro b hb; first | exact hb | (simp only [mq] at hb ⊢; grind)), hd12.sub (by intro b hb; first | exact hb | (simp only [mq] at hb ⊢; grind))⟩, hm0⟩

end Go.Proofs.Ytkjllbpfcokalaa
