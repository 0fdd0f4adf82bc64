/- Walks: what the functions compute. -/
import Derived.Test.YtpnhihljgkohcaaGaB
namespace Go.Proofs.Ytpnhihljgkohcaa
open Go.RowKit
set_option linter.unusedVariables false
set_option linter.unusedSimpArgs false
set_option maxRecDepth 10000

/-- The program's rows behind sums, as they lie in memory. -/
def Srow (RW : Nat) (M : List Nat) (w w' : World) (z0 : Int) (t : Nat) (cs : List CR) (gR : Nat) (vR : Value) (rs : List (Ts × Rat)) (ok : Bool) : Prop :=
  w.heap.size ≤ gR ∧ Blk w' gR RW #[vR, .bool ok] ∧ Lay rdK M w' vR rs ∧ PInv (heldG z0) t (vecs (heldG z0) cs) rs ok ∧ rs.length ≤ (vecs (heldG z0) cs).length
/-- What is asked of sums that are solved. -/
structure OkS (z0 : Int) (t : Nat) (cs : List CR) : Prop where
  sm : ∀ c ∈ cs, SmC 1099511627776 c
  ov : ∀ c ∈ cs, isC c (heldG z0 : Int) = true → OvC (heldG z0) t (conT c)
  bn : 4 * bnd t (heldG z0) + 4 * t + 8 ≤ 17179869184
  t1 : 1 ≤ t
theorem OkS.left_ok {z0 : Int} {t : Nat} {cs : List CR} (h : OkS z0 t cs) {L : List Vec} {rs : List (Ts × Rat)} {ok : Bool} (hP : PInv (heldG z0) t L rs ok) {c : CR} (hc : isC c (heldG z0 : Int) = true) (hv : OvC (heldG z0) t (conT c)) : ∀ i, i ≤ rs.length → OkT (leftT (rs.take i) ((conT c).1, (conT c).2)) := by
  obtain ⟨d, h1, h2, h3⟩ := hv
  obtain ⟨_, _, h4, h5⟩ := isC_spec hc
  exact hP.left_ok (heldG_le z0) h.bn h4 h5 h1 h2 h3
theorem OkS.step {z0 : Int} {t : Nat} {cs : List CR} {L : List Vec} {rs : List (Ts × Rat)} {ok : Bool} (hP : PInv (heldG z0) t L rs ok) {c : CR} (hc : isC c (heldG z0 : Int) = true) (hv : OvC (heldG z0) t (conT c)) : PInv (heldG z0) t (L ++ [cv (heldG z0) (conT c).1 (conT c).2]) (laysT rs ok ((conT c).1, (conT c).2)).1 (laysT rs ok ((conT c).1, (conT c).2)).2 := by
  obtain ⟨d, h1, h2, h3⟩ := hv
  obtain ⟨_, _, h4, h5⟩ := isC_spec hc
  exact hP.step (heldG_le z0) h4 h5 h1 h2 h3
theorem PInv.len {n t : Nat} {L : List Vec} {rs : List (Ts × Rat)} {ok : Bool} (h : PInv n t L rs ok) (hn : n ≤ 64) : rs.length ≤ 64 := by
  obtain ⟨R, h1, h2⟩ := h.rank
  have := h1.rank_n; omega
/-- Is a sum implied, by the program's rows? -/
def impT (z0 : Int) (rs : List (Ts × Rat)) (ok : Bool) (c : CR) : Bool := !ok || (isC c (heldG z0 : Int) && (decide ((leftT rs (conT c)).1.length = 0) && decide ((leftT rs (conT c)).2 = 0)))
/-- The number that a variable must be, by the program's rows. -/
def fixT (z0 v : Int) (rs : List (Ts × Rat)) (ok : Bool) : Option Rat := if ok = true ∧ 0 ≤ v ∧ v < (heldG z0 : Int) ∧ (leftT rs ([(v.toNat, 1)], 0)).1.length = 0 then some (leftT rs ([(v.toNat, 1)], 0)).2 else none
/-- A fraction that reads as a number. -/
def RV (M : List Nat) (w : World) (v : Value) (q : Rat) : Prop := ∃ s A a B b xs ys, v = .agg #[.bool s, .slice A xs.length a, .slice B ys.length b] ∧ U32 M w (.slice A xs.length a) xs ∧ U32 M w (.slice B ys.length b) ys ∧ rv s (val xs) (val ys) = q ∧ xs.length ≤ 17179869184 ∧ ys.length ≤ 17179869184
theorem RV.zero {M : List Nat} {w : World} : RV M w (.agg #[.bool false, .slice none 0 0, .slice none 0 0]) 0 := ⟨false, none, 0, none, 0, [], [], rfl, U32.nil, U32.nil, by rw [show val ([] : List Nat) = 0 from rfl, rv_d0], by decide, by decide⟩
theorem RV.of {M : List Nat} {w : World} {A B : Option Addr} {a b : Nat} {q : Rat} (h1 : U32 M w (.slice A (toL q.num.natAbs).length a) (toL q.num.natAbs)) (h2 : U32 M w (.slice B (toL q.den).length b) (toL q.den)) (hf : Fit q 17179869184) : RV M w (.agg #[.bool (decide (q.num < 0)), .slice A (toL q.num.natAbs).length a, .slice B (toL q.den).length b]) q :=
  ⟨_, A, a, B, b, _, _, rfl, h1, h2, rv_toL q, hf.1, hf.2⟩
theorem c_heldG {w : World} {z0 : Int} :
    Ret Try.prog 67 #[.int .i64 z0] w (fun r w' => r = .int .i64 ((heldG z0 : Nat) : Int) ∧ Mod [] w w') := by
 refine Ret.of (vs := [.int .i64 z0]) (n := 6) Try.func67 rfl rfl rfl rfl ?_
 have hm0 : Mod [] w w := Mod.refl _ _
 refine W.seq <| W.region <| L.v (R1.assign rfl) rfl <| L.nil <| X.seq <| W.seq <| W.region <| L.v (R1.move rfl) rfl <| L.v (R1.maxI rfl rfl) rfl <| L.v (R1.minI rfl rfl) rfl <| L.v (R1.assign rfl) rfl ?_
 refine L.nil <| X.seq <| W.ret <| X.result1 rfl (.tmp rfl .nil) <| ⟨?_, hm0⟩
 congr 1; unfold heldG; omega

set_option maxHeartbeats 1000000 in
theorem c_solved {M : List Nat} {w : World} {vl : Value} {cs : List CR} {z0 : Int} {t : Nat} (hL : Lay rdC M w vl cs) (hbd : Bd M w) (oks : OkS z0 t cs) :
    Ret Try.prog 45 #[vl, .int .i64 z0] w (fun r w' => ∃ gR vR rs ok, r = .pointer (some ⟨gR, 0, none⟩) ∧ Srow 70 M w w' z0 t cs gR vR rs ok ∧ Mod [] w w') := by
 have hbd0 := hbd
 obtain ⟨TL, tL, rfl⟩ := hL.form
 have hmx := hL.max; unfold maxLen at hmx
 have hhd := heldG_le z0
 refine Ret.of (vs := [.slice TL cs.length tL, .int .i64 z0]) (n := 25) Try.func45 rfl rfl rfl rfl ?_
 have hm0 : Mod [] w w := Mod.refl _ _
 refine W.seq <| W.region <| L.v (R1.assign rfl) rfl <| L.nil <| X.seq <| W.seq <| W.region <| L.v (R1.build (vs := [.bool true]) rfl (built_R1 _)) rfl <| L.box rfl rfl ?_
 intro gR w1 hN9
 replace hL := hL.new hN9
 replace hbd := hbd.new hN9
 have hge_gR := New.ge hN9 hm0.size
 replace hm0 := hm0.trans (hN9.mod.mono (by simp))
 have hb9 := hN9.blk
 clear hN9
 have hbR := hb9
 refine L.v (R1.assign rfl) rfl <| L.nil <| X.seq <| W.seq <| W.seq <| W.region <| L.v (R1.move rfl) rfl <| L.v (R1.lenLay rfl hL tyS22) rfl <| L.v (R1.move rfl) rfl <| L.nil <| X.seq ?_
 refine W.block <| W.loop (ι := Nat × Value × List (List Value) × List (Ts × Rat) × Bool) (fun (i, u, css, rs, good) => [(1, .int .i64 z0), (5, .pointer (some ⟨gR, 0, none⟩)), (10, .slice TL cs.length tL), (11, .int .i64 (cs.length : Int)), (12, .int .i64 (i : Int))]) (fun (i, u, css, rs, good) w_ => Lay rdC (ownL u ++ gR :: M) w_ (.slice TL cs.length tL) cs ∧ Blk w_ gR 70 #[u, .bool good] ∧ w_.ownsRow w.heap.size 33 5 u rs.length css.flatten ∧ LayL rdK (ownL u ++ gR :: M) w_ css rs ∧ u.ownBlock ≠ some gR ∧ w.heap.size ≤ gR ∧ Bd (ownL u ++ gR :: M) w_ ∧ Mod [] w w_ ∧ i ≤ cs.length ∧ PInv (heldG z0) t (vecs (heldG z0) (cs.take i)) rs good ∧ rs.length ≤ (vecs (heldG z0) (cs.take i)).length) (fun (i, u, css, rs, good) => cs.length - i) (0, .slice none 0 0, [], [], true) ?_ ?_ ?_
 · exact ⟨rfl, rfl, rfl, rfl, rfl, trivial⟩
 ·
  exact ⟨hL.sub (by intro b hb; first | exact hb | (simp only [mq] at hb ⊢; grind)), hb9, own_nil _ _ _ _, LayL.nil, (fun h => by cases h), hge_gR, hbd.sub (by intro b hb; first | exact hb | (simp only [mq] at hb ⊢; grind)), hm0, Nat.zero_le _, PInv.nil _ _, Nat.le_refl _⟩
 ·
  rintro ⟨i, u, css, rs, good⟩ w2 ⟨hL, hbR, ho, hl, hno_ho_gR, hge_gR, hbd, hm0, hi, hP, hrk⟩
  refine W.seq <| W.region <| L.v (R1.lt rfl rfl) rfl <| L.nil <| X.seq <| W.seq <| W.cond rfl ?_ ?_
  ·
   intro hc13
   try simp only [bq, ne_eq] at hc13
   refine W.skip <| X.seq <| W.seq <| W.block <| W.seq <| W.region <| L.v (R1.atLay (j := i) rfl rfl hL tyS22 rfl (by omega)) rfl ?_
   obtain ⟨z15, cs15, hz15, hE15, vt15, ds15, rfl, ht15, vn15, vd15, rfl, hn15, hd15⟩ := Lay.elemQ hL (j := i) (by omega)
   obtain ⟨T15, t15, rfl⟩ := ht15.form
   obtain ⟨A15, c15, rfl⟩ := hn15.form
   obtain ⟨B15, e15, rfl⟩ := hd15.form
   refine L.v (R1.loadE rfl hE15 tyG33) rfl <| L.alloc tyZ33 rfl ?_
   intro g7 w3 hN7
   replace hL := hL.new hN7
   have hne_gR_g7 := hbR.ne_ hN7
   replace hbR := Blk.gr hbR hN7.mod
   have hno_ho_g7 := own_ne_new ho hN7
   replace ho := own_gr ho hN7.mod (by simp)
   replace hl := hl.new hN7
   replace hbd := hbd.new hN7
   have hge_g7 := New.ge hN7 hm0.size
   replace hm0 := hm0.trans (hN7.mod.mono (by simp))
   replace ht15 := ht15.new hN7
   replace hn15 := hn15.new hN7
   replace hd15 := hd15.new hN7
   have hb7 := hN7.blk
   clear hN7
   refine L.storeBox rfl rfl hb7 rfl rfl tyG33 ?_
   intro w4 hb7' hm4
   replace hL := hL.mod hm4 (by simp)
   replace hbR := Blk.far hbR hm4 (by first | exact hne_gR_g7 | exact (hne_g7_gR).symm)
   replace ho := own_far ho hm4 hno_ho_g7
   replace hl := hl.mod hm4 (by simp)
   replace hbd := hbd.gr hm4
   replace hm0 := hm0.old1 hm4 hge_g7
   replace ht15 := ht15.mod hm4 (by simp)
   replace hn15 := hn15.mod hm4 (by simp)
   replace hd15 := hd15.mod hm4 (by simp)
   clear hm4
   replace hb7 := hb7'; clear hb7'
   refine L.nil <| X.seq <| W.seq <| W.drawW (T := []) rfl (by decide +kernel) (NoHang.then (NoHang.block (NoHang.then (NoHang.next (NoHang.block (NoHang.then NoHang.post)))))) (fun w5 hm5 => ?_)
   replace hL := hL.gr hm5
   replace hbR := Blk.gr hbR hm5
   replace ho := own_gr ho hm5 (by simp)
   replace hl := hl.gr hm5
   replace hbd := hbd.gr hm5
   replace hm0 := hm0.trans hm5
   replace ht15 := ht15.gr hm5
   replace hn15 := hn15.gr hm5
   replace hd15 := hd15.gr hm5
   replace hb7 := Blk.gr hb7 hm5
   have hS1 : Mod [] w5 w5 := Mod.refl _ _
   clear hm5
   have hb7_s := hb7
   refine D.take 0 rfl (by decide +kernel) (fun w_ hS => (R1.loadBox rfl (Blk.gr hb7_s hS) tyG33)) hS1 rfl <| D.take 1 rfl (by decide +kernel) (fun w_ hS => (R1.move rfl)) hS1 rfl <| D.one 2 rfl (by decide +kernel) (fun hX => ?_)
   refine L.call rfl (c_heldG) rfl ?_
   rintro _ w6 ⟨rfl, hm6⟩
   replace hL := hL.gr hm6
   replace hbR := Blk.gr hbR hm6
   replace ho := own_gr ho hm6 (by simp)
   replace hl := hl.gr hm6
   replace hbd := hbd.gr hm6
   replace hm0 := hm0.trans hm6
   replace ht15 := ht15.gr hm6
   replace hn15 := hn15.gr hm6
   replace hd15 := hd15.gr hm6
   replace hb7 := Blk.gr hb7 hm6
   replace hS1 := hS1.trans hm6
   clear hm6
   refine L.nil (hX _ _ ⟨.inr hS1, ?_⟩)
   refine D.one 3 rfl (by decide +kernel) (fun hX => ?_)
   refine L.call rfl (c_aff_Is ht15 hn15 hd15 (n := ((heldG z0) : Int)) (by omega) hbd (oks.sm _ (List.mem_of_getElem? hz15))) rfl ?_
   rintro _ w7 ⟨rfl, hm7⟩
   replace hL := hL.gr hm7
   replace hbR := Blk.gr hbR hm7
   replace ho := own_gr ho hm7 (by simp)
   replace hl := hl.gr hm7
   replace hbd := hbd.gr hm7
   replace hm0 := hm0.trans hm7
   replace ht15 := ht15.gr hm7
   replace hn15 := hn15.gr hm7
   replace hd15 := hd15.gr hm7
   replace hb7 := Blk.gr hb7 hm7
   replace hS1 := hS1.trans hm7
   clear hm7
   refine L.nil (hX _ _ ⟨.inr hS1, ?_⟩)
   refine D.done (by decide +kernel) ?_ _
   refine X.seq <| W.cond rfl ?_ ?_
   ·
    intro hc19
    have hcc_ := hc19
    refine W.region <| L.v (R1.move rfl) rfl <| L.v (R1.loadBox rfl hb7 tyG33) rfl <| L.call rfl (c_lays (M := M) hbR ho (hl.sub (by intro b hb; first | exact hb | (simp only [mq] at hb ⊢; grind))) hno_ho_gR hm0.size (hbd.sub (by intro b hb; first | exact hb | (simp only [mq] at hb ⊢; grind))) ((RK_of hc19 (ht15.sub (M' := (ownL u ++ gR :: M)) (by intro b hb; first | exact hb | (simp only [mq] at hb ⊢; grind))) (hn15.sub (by intro b hb; first | exact hb | (simp only [mq] at hb ⊢; grind))) (hd15.sub (by intro b hb; first | exact hb | (simp only [mq] at hb ⊢; grind))))) (oks.left_ok hP hc19 (oks.ov _ (List.mem_of_getElem? hz15) hc19)) (hP.row_ok (heldG_le _) oks.bn) (hP.len (heldG_le _))) rfl ?_
    rintro v22 w8 ⟨u2, css2, hbR2, ho2, hl2, hno2, hpr, hmX⟩
    have hL2 := hL.laid (u' := u2) hmX (by intro b hb; simp only [List.mem_cons, List.mem_append] at hb ⊢; grind) (by intro b hb; simp only [List.mem_cons, List.mem_append]; grind) hpr
    have hbd2 := hbd.laid hmX ho2
    have hm2 := hm0.old hmX (by intro b hb; rcases List.mem_cons.1 hb with rfl | hb; exact .inr hge_gR; exact .inr (own_ge ho b (by unfold ownL at hb; simpa using hb)).1)
    refine L.nil <| X.blockEnd <| X.seq <| W.region <| L.v (R1.addI (b := 1) rfl rfl (by omega)) rfl <| L.v (R1.move rfl) rfl <| L.nil <| X.next (i + 1, u2, css2, (laysT rs good ((conT z15).1, (conT z15).2)).1, (laysT rs good ((conT z15).1, (conT z15).2)).2) ?_ ?_ ?_
    · exact ⟨rfl, rfl, rfl, rfl, rfl, trivial⟩
    ·
     exact ⟨hL2.sub (by intro b hb; first | exact hb | (simp only [mq] at hb ⊢; grind)), hbR2, ho2, hl2, hno2, hge_gR, hbd2.sub (by intro b hb; first | exact hb | (simp only [mq] at hb ⊢; grind)), hm2, by omega, by rw [vecs_yes hz15 hc19]; exact OkS.step (cs := cs) hP hc19 (oks.ov _ (List.mem_of_getElem? hz15) hc19), by rw [vecs_yes hz15 hc19, List.length_append]; exact Nat.le_trans (laysT_len _ _ _) (Nat.succ_le_succ hrk)⟩
    · first | omega | (dsimp only; omega)
   ·
    intro hc19
    have hcc_ := hc19
    refine W.skip <| X.blockEnd <| X.seq <| W.region <| L.v (R1.addI (b := 1) rfl rfl (by omega)) rfl <| L.v (R1.move rfl) rfl <| L.nil <| X.next (i + 1, u, css, rs, good) ?_ ?_ ?_
    · exact ⟨rfl, rfl, rfl, rfl, rfl, trivial⟩
    ·
     exact ⟨hL.sub (by intro b hb; first | exact hb | (simp only [mq] at hb ⊢; grind)), hbR, ho, hl.sub (by intro b hb; first | exact hb | (simp only [mq] at hb ⊢; grind)), hno_ho_gR, hge_gR, hbd.sub (by intro b hb; first | exact hb | (simp only [mq] at hb ⊢; grind)), hm0, by omega, by rw [vecs_no hz15 hc19]; exact hP, by rw [vecs_no hz15 hc19]; exact hrk⟩
    · first | omega | (dsimp only; omega)
  ·
   intro hc13
   try simp only [bq, ne_eq] at hc13
   obtain rfl : i = cs.length := by omega
   rw [List.take_length] at hP hrk
   refine W.exit <| X.thenExit <| X.nextExit <| X.here <| X.seq <| W.seq <| W.region <| L.v (R1.move rfl) rfl <| L.v (R1.assign rfl) rfl <| L.nil <| X.seq ?_
   refine W.ret <| X.result1 rfl (.tmp rfl .nil) ?_
   exact ⟨gR, u, rs, good, rfl, ⟨hge_gR, hbR, own_lay hbd0 ho hl (by intro b hb; first | exact hb | (simp only [mq] at hb ⊢; grind)), hP, hrk⟩, hm0⟩

theorem c_Consistent {M : List Nat} {w : World} {vl : Value} {cs : List CR} {z0 : Int} {t : Nat} (hL : Lay rdC M w vl cs) (hbd : Bd M w) (oks : OkS z0 t cs) :
    Ret Try.prog 25 #[vl, .int .i64 z0] w (fun r w' => ∃ rs ok, PInv (heldG z0) t (vecs (heldG z0) cs) rs ok ∧ r = .bool ok ∧ Mod [] w w') := by
 refine Ret.of (vs := [vl, .int .i64 z0]) (n := 11) Try.func25 rfl rfl rfl rfl ?_
 have hm0 : Mod [] w w := Mod.refl _ _
 refine W.seq <| W.region <| L.v (R1.assign rfl) rfl <| L.nil <| X.seq <| W.seq <| W.region <| L.v (R1.move rfl) rfl <| L.v (R1.move rfl) rfl <| L.call rfl (c_solved hL hbd oks) rfl ?_
 rintro _ w1 ⟨gR, vR, rs, ok, rfl, ⟨hgeR, hbR, hlR, hP, hrk⟩, hm1⟩
 replace hm0 := hm0.trans hm1
 clear hm1
 refine L.v (R1.nilCheck rfl) rfl <| L.v (R1.fieldAt rfl tyF70_1) rfl <| L.v (R1.loadFld rfl hbR rfl tyP4) rfl <| L.v (R1.assign rfl) rfl <| L.nil <| X.seq <| W.ret <| X.result1 rfl (.tmp rfl .nil) ?_
 exact ⟨rs, ok, hP, rfl, hm0⟩

end Go.Proofs.Ytpnhihljgkohcaa
