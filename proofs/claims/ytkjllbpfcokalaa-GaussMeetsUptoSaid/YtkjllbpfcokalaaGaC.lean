/- Walks: what the functions compute. -/
import Derived.Test.YtkjllbpfcokalaaGaB
namespace Go.Proofs.Ytkjllbpfcokalaa
open Go.RowKit
set_option linter.unusedVariables false
set_option linter.unusedSimpArgs false
set_option maxRecDepth 10000

/-- The program's rows behind sums, as they lie in memory. -/
def Srow (RW : Nat) (M : List Nat) (w w' : World) (z0 : Int) (t : Nat) (cs : List CR) (gR : Nat) (vR : Value) (rs : List (Ts × Rat)) (ok : Bool) : Prop :=
  w.heap.size ≤ gR ∧ Blk w' gR RW #[vR, .bool ok] ∧ Lay rdK M w' vR rs ∧ PInv (heldG z0) t (vecs (heldG z0) cs) rs ok ∧ rs.length ≤ (vecs (heldG z0) cs).length
/-- What is asked of sums that are solved. -/
structure OkS (z0 : Int) (t : Nat) (cs : List CR) : Prop where
  sm : ∀ c ∈ cs, SmC 1099511627776 c
  ov : ∀ c ∈ cs, isC c (heldG z0 : Int) = true → OvC (heldG z0) t (conT c)
  bn : 4 * bnd t (heldG z0) + 4 * t + 8 ≤ 17179869184
  t1 : 1 ≤ t
theorem OkS.left_ok {z0 : Int} {t : Nat} {cs : List CR} (h : OkS z0 t cs) {L : List Vec} {rs : List (Ts × Rat)} {ok : Bool} (hP : PInv (heldG z0) t L rs ok) {c : CR} (hc : isC c (heldG z0 : Int) = true) (hv : OvC (heldG z0) t (conT c)) : ∀ i, i ≤ rs.length → OkT (leftT (rs.take i) ((conT c).1, (conT c).2)) := by
  obtain ⟨d, h1, h2, h3⟩ := hv
  obtain ⟨_, _, h4, h5⟩ := isC_spec hc
  exact hP.left_ok (heldG_le z0) h.bn h4 h5 h1 h2 h3
theorem OkS.step {z0 : Int} {t : Nat} {cs : List CR} {L : List Vec} {rs : List (Ts × Rat)} {ok : Bool} (hP : PInv (heldG z0) t L rs ok) {c : CR} (hc : isC c (heldG z0 : Int) = true) (hv : OvC (heldG z0) t (conT c)) : PInv (heldG z0) t (L ++ [cv (heldG z0) (conT c).1 (conT c).2]) (laysT rs ok ((conT c).1, (conT c).2)).1 (laysT rs ok ((conT c).1, (conT c).2)).2 := by
  obtain ⟨d, h1, h2, h3⟩ := hv
  obtain ⟨_, _, h4, h5⟩ := isC_spec hc
  exact hP.step (heldG_le z0) h4 h5 h1 h2 h3
theorem PInv.len {n t : Nat} {L : List Vec} {rs : List (Ts × Rat)} {ok : Bool} (h : PInv n t L rs ok) (hn : n ≤ 64) : rs.length ≤ 64 := by
  obtain ⟨R, h1, h2⟩ := h.rank
  have := h1.rank_n; omega
/-- Is a sum implied, by the program's rows? -/
def impT (z0 : Int) (rs : List (Ts × Rat)) (ok : Bool) (c : CR) : Bool := !ok || (isC c (heldG z0 : Int) && (decide ((leftT rs (conT c)).1.length = 0) && decide ((leftT rs (conT c)).2 = 0)))
/-- The number that a variable must be, by the program's rows. -/
def fixT (z0 v : Int) (rs : List (Ts × Rat)) (ok : Bool) : Option Rat := if ok = true ∧ 0 ≤ v ∧ v < (heldG z0 : Int) ∧ (leftT rs ([(v.toNat, 1)], 0)).1.length = 0 then some (leftT rs ([(v.toNat, 1)], 0)).2 else none
theorem ov_one {n v t : Nat} (hv : v < n) (ht : 1 ≤ t) : OvC n t ([(v, 1)], 0) := ⟨1, by decide, by
  have : 4294967296 ^ 1 ≤ 4294967296 ^ t := Nat.pow_le_pow_right (by decide) ht
  omega, fun i => by
  have h1 : 4294967296 ^ 1 ≤ 4294967296 ^ t := Nat.pow_le_pow_right (by decide) ht
  simp only [cv, coef]
  split
  · exact ⟨0, by rw [Rat.zero_mul]; rfl, by simp; omega⟩
  · split
    · exact ⟨1, by simp, by simp; omega⟩
    · exact ⟨0, by rw [Rat.zero_mul]; rfl, by simp; omega⟩⟩
/-- A fraction that reads as a number. -/
def RV (M : List Nat) (w : World) (v : Value) (q : Rat) : Prop := ∃ s A a B b xs ys, v = .agg #[.bool s, .slice A xs.length a, .slice B ys.length b] ∧ U32 M w (.slice A xs.length a) xs ∧ U32 M w (.slice B ys.length b) ys ∧ rv s (val xs) (val ys) = q ∧ xs.length ≤ 17179869184 ∧ ys.length ≤ 17179869184
theorem RV.zero {M : List Nat} {w : World} : RV M w (.agg #[.bool false, .slice none 0 0, .slice none 0 0]) 0 := ⟨false, none, 0, none, 0, [], [], rfl, U32.nil, U32.nil, by rw [show val ([] : List Nat) = 0 from rfl, rv_d0], by decide, by decide⟩
theorem RV.of {M : List Nat} {w : World} {A B : Option Addr} {a b : Nat} {q : Rat} (h1 : U32 M w (.slice A (toL q.num.natAbs).length a) (toL q.num.natAbs)) (h2 : U32 M w (.slice B (toL q.den).length b) (toL q.den)) (hf : Fit q 17179869184) : RV M w (.agg #[.bool (decide (q.num < 0)), .slice A (toL q.num.natAbs).length a, .slice B (toL q.den).length b]) q :=
  ⟨_, A, a, B, b, _, _, rfl, h1, h2, rv_toL q, hf.1, hf.2⟩
theorem fixT_no {z0 v : Int} {rs : List (Ts × Rat)} {ok : Bool} (h : ok = false ∨ v < 0 ∨ (heldG z0 : Int) ≤ v ∨ (leftT rs ([(v.toNat, 1)], 0)).1.length ≠ 0) : fixT z0 v rs ok = none := by
  unfold fixT
  rw [if_neg]
  rintro ⟨h1, h2, h3, h4⟩
  rcases h with h | h | h | h
  · rw [h] at h1; cases h1
  · omega
  · omega
  · exact h h4
theorem fixT_yes {z0 : Int} {V : Nat} {rs : List (Ts × Rat)} {d : Ts × Rat} (hd : d = leftT rs ([(V, 1)], 0)) (hv : (V : Int) < (heldG z0 : Int)) (h : d.1.length = 0) : fixT z0 (V : Int) rs true = some d.2 := by
  subst hd
  unfold fixT
  rw [Int.toNat_natCast, if_pos ⟨rfl, by omega, hv, h⟩]
theorem one_nice (v : Nat) : Nice [(v, (1 : Rat))] := Nice.nil.cons (by simp) (by simp only; decide)
theorem one_below {v n : Nat} (h : v < n) : Below n [(v, (1 : Rat))] := fun s hs => by simp only [List.mem_singleton] at hs; subst hs; exact h

theorem c_heldG {w : World} {z0 : Int} :
    Ret Try.prog 32 #[.int .i64 z0] w (fun r w' => r = .int .i64 ((heldG z0 : Nat) : Int) ∧ Mod [] w w') := by
 refine Ret.of (vs := [.int .i64 z0]) (n := 6) Try.func32 rfl rfl rfl rfl ?_
 have hm0 : Mod [] w w := Mod.refl _ _
 refine W.seq <| W.region <| L.v (R1.assign rfl) rfl <| L.nil <| X.seq <| W.seq <| W.region <| L.v (R1.move rfl) rfl <| L.v (R1.maxI rfl rfl) rfl <| L.v (R1.minI rfl rfl) rfl <| L.v (R1.assign rfl) rfl ?_
 refine L.nil <| X.seq <| W.ret <| X.result1 rfl (.tmp rfl .nil) <| ⟨?_, hm0⟩
 congr 1; unfold heldG; omega

set_option maxHeartbeats 1000000 in
theorem c_solved {M : List Nat} {w : World} {vl : Value} {cs : List CR} {z0 : Int} {t : Nat} (hL : Lay rdC M w vl cs) (hbd : Bd M w) (oks : OkS z0 t cs) :
    Ret Try.prog 31 #[vl, .int .i64 z0] w (fun r w' => ∃ gR vR rs ok, r = .pointer (some ⟨gR, 0, none⟩) ∧ Srow 56 M w w' z0 t cs gR vR rs ok ∧ Mod [] w w') := by
 have hbd0 := hbd
 obtain ⟨TL, tL, rfl⟩ := hL.form
 have hmx := hL.max; unfold maxLen at hmx
 have hhd := heldG_le z0
 refine Ret.of (vs := [.slice TL cs.length tL, .int .i64 z0]) (n := 25) Try.func31 rfl rfl rfl rfl ?_
 have hm0 : Mod [] w w := Mod.refl _ _
 refine W.seq <| W.region <| L.v (R1.assign rfl) rfl <| L.nil <| X.seq <| W.seq <| W.region <| L.v (R1.build (vs := [.bool true]) rfl (built_R1 _)) rfl <| L.box rfl rfl ?_
 intro gR w1 hN9
 replace hL := hL.new hN9
 replace hbd := hbd.new hN9
 have hge_gR := New.ge hN9 hm0.size
 replace hm0 := hm0.trans (hN9.mod.mono (by simp))
 have hb9 := hN9.blk
 clear hN9
 have hbR := hb9
 refine L.v (R1.assign rfl) rfl <| L.nil <| X.seq <| W.seq <| W.seq <| W.region <| L.v (R1.move rfl) rfl <| L.v (R1.lenLay rfl hL tyS22) rfl <| L.v (R1.move rfl) rfl <| L.nil <| X.seq ?_
 refine W.block <| W.loop (ι := Nat × Value × List (List Value) × List (Ts × Rat) × Bool) (fun (i, u, css, rs, good) => [(1, .int .i64 z0), (5, .pointer (some ⟨gR, 0, none⟩)), (10, .slice TL cs.length tL), (11, .int .i64 (cs.length : Int)), (12, .int .i64 (i : Int))]) (fun (i, u, css, rs, good) w_ => Lay rdC (ownL u ++ gR :: M) w_ (.slice TL cs.length tL) cs ∧ Blk w_ gR 56 #[u, .bool good] ∧ w_.ownsRow w.heap.size 29 5 u rs.length css.flatten ∧ LayL rdK (ownL u ++ gR :: M) w_ css rs ∧ u.ownBlock ≠ some gR ∧ w.heap.size ≤ gR ∧ Bd (ownL u ++ gR :: M) w_ ∧ Mod [] w w_ ∧ i ≤ cs.length ∧ PInv (heldG z0) t (vecs (heldG z0) (cs.take i)) rs good ∧ rs.length ≤ (vecs (heldG z0) (cs.take i)).length) (fun (i, u, css, rs, good) => cs.length - i) (0, .slice none 0 0, [], [], true) ?_ ?_ ?_
 · exact ⟨rfl, rfl, rfl, rfl, rfl, trivial⟩
 ·
  exact ⟨hL.sub (by intro b hb; first | exact hb | (simp only [mq] at hb ⊢; grind)), hb9, own_nil _ _ _ _, LayL.nil, (fun h => by cases h), hge_gR, hbd.sub (by intro b hb; first | exact hb | (simp only [mq] at hb ⊢; grind)), hm0, Nat.zero_le _, PInv.nil _ _, Nat.le_refl _⟩
 ·
  rintro ⟨i, u, css, rs, good⟩ w2 ⟨hL, hbR, ho, hl, hno_ho_gR, hge_gR, hbd, hm0, hi, hP, hrk⟩
  refine W.seq <| W.region <| L.v (R1.lt rfl rfl) rfl <| L.nil <| X.seq <| W.seq <| W.cond rfl ?_ ?_
  ·
   intro hc13
   try simp only [bq, ne_eq] at hc13
   refine W.skip <| X.seq <| W.seq <| W.block <| W.seq <| W.region <| L.v (R1.atLay (j := i) rfl rfl hL tyS22 rfl (by omega)) rfl ?_
   obtain ⟨z15, cs15, hz15, hE15, vt15, ds15, rfl, ht15, vn15, vd15, rfl, hn15, hd15⟩ := Lay.elemQ hL (j := i) (by omega)
   obtain ⟨T15, t15, rfl⟩ := ht15.form
   obtain ⟨A15, c15, rfl⟩ := hn15.form
   obtain ⟨B15, e15, rfl⟩ := hd15.form
   refine L.v (R1.loadE rfl hE15 tyG29) rfl <| L.alloc tyZ29 rfl ?_
   intro g7 w3 hN7
   replace hL := hL.new hN7
   have hne_gR_g7 := hbR.ne_ hN7
   replace hbR := Blk.gr hbR hN7.mod
   have hno_ho_g7 := own_ne_new ho hN7
   replace ho := own_gr ho hN7.mod (by simp)
   replace hl := hl.new hN7
   replace hbd := hbd.new hN7
   have hge_g7 := New.ge hN7 hm0.size
   replace hm0 := hm0.trans (hN7.mod.mono (by simp))
   replace ht15 := ht15.new hN7
   replace hn15 := hn15.new hN7
   replace hd15 := hd15.new hN7
   have hb7 := hN7.blk
   clear hN7
   refine L.storeBox rfl rfl hb7 rfl rfl tyG29 ?_
   intro w4 hb7' hm4
   replace hL := hL.mod hm4 (by simp)
   replace hbR := Blk.far hbR hm4 (by first | exact hne_gR_g7 | exact (hne_g7_gR).symm)
   replace ho := own_far ho hm4 hno_ho_g7
   replace hl := hl.mod hm4 (by simp)
   replace hbd := hbd.gr hm4
   replace hm0 := hm0.old1 hm4 hge_g7
   replace ht15 := ht15.mod hm4 (by simp)
   replace hn15 := hn15.mod hm4 (by simp)
   replace hd15 := hd15.mod hm4 (by simp)
   clear hm4
   replace hb7 := hb7'; clear hb7'
   refine L.nil <| X.seq <| W.seq <| W.drawW (T := []) rfl (by decide +kernel) (NoHang.then (NoHang.block (NoHang.then (NoHang.next (NoHang.block (NoHang.then NoHang.post)))))) (fun w5 hm5 => ?_)
   replace hL := hL.gr hm5
   replace hbR := Blk.gr hbR hm5
   replace ho := own_gr ho hm5 (by simp)
   replace hl := hl.gr hm5
   replace hbd := hbd.gr hm5
   replace hm0 := hm0.trans hm5
   replace ht15 := ht15.gr hm5
   replace hn15 := hn15.gr hm5
   replace hd15 := hd15.gr hm5
   replace hb7 := Blk.gr hb7 hm5
   have hS1 : Mod [] w5 w5 := Mod.refl _ _
   clear hm5
   have hbR_s := hbR
   have hb7_s := hb7
   refine D.take 0 rfl (by decide +kernel) (fun w_ hS => (R1.loadBox rfl (Blk.gr hb7_s hS) tyG29)) hS1 rfl <| D.take 1 rfl (by decide +kernel) (fun w_ hS => (R1.move rfl)) hS1 rfl <| D.one 2 rfl (by decide +kernel) (fun hX => ?_)
   refine L.call rfl (c_heldG) rfl ?_
   rintro _ w6 ⟨rfl, hm6⟩
   replace hL := hL.gr hm6
   replace hbR := Blk.gr hbR hm6
   replace ho := own_gr ho hm6 (by simp)
   replace hl := hl.gr hm6
   replace hbd := hbd.gr hm6
   replace hm0 := hm0.trans hm6
   replace ht15 := ht15.gr hm6
   replace hn15 := hn15.gr hm6
   replace hd15 := hd15.gr hm6
   replace hb7 := Blk.gr hb7 hm6
   replace hS1 := hS1.trans hm6
   clear hm6
   refine L.nil (hX _ _ ⟨.inr hS1, ?_⟩)
   refine D.one 3 rfl (by decide +kernel) (fun hX => ?_)
   refine L.call rfl (c_aff_Is ht15 hn15 hd15 (n := ((heldG z0) : Int)) (by omega) hbd (oks.sm _ (List.mem_of_getElem? hz15))) rfl ?_
   rintro _ w7 ⟨rfl, hm7⟩
   replace hL := hL.gr hm7
   replace hbR := Blk.gr hbR hm7
   replace ho := own_gr ho hm7 (by simp)
   replace hl := hl.gr hm7
   replace hbd := hbd.gr hm7
   replace hm0 := hm0.trans hm7
   replace ht15 := ht15.gr hm7
   replace hn15 := hn15.gr hm7
   replace hd15 := hd15.gr hm7
   replace hb7 := Blk.gr hb7 hm7
   replace hS1 := hS1.trans hm7
   clear hm7
   refine L.nil (hX _ _ ⟨.inr hS1, ?_⟩)
   refine D.done (by decide +kernel) ?_ _
   refine X.seq <| W.cond rfl ?_ ?_
   ·
    intro hc19
    have hcc_ := hc19
    refine W.region <| L.v (R1.move rfl) rfl <| L.v (R1.loadBox rfl hb7 tyG29) rfl <| L.call rfl (c_lays (M := M) hbR ho (hl.sub (by intro b hb; first | exact hb | (simp only [mq] at hb ⊢; grind))) hno_ho_gR hm0.size (hbd.sub (by intro b hb; first | exact hb | (simp only [mq] at hb ⊢; grind))) ((RK_of hc19 (ht15.sub (M' := (ownL u ++ gR :: M)) (by intro b hb; first | exact hb | (simp only [mq] at hb ⊢; grind))) (hn15.sub (by intro b hb; first | exact hb | (simp only [mq] at hb ⊢; grind))) (hd15.sub (by intro b hb; first | exact hb | (simp only [mq] at hb ⊢; grind))))) (oks.left_ok hP hc19 (oks.ov _ (List.mem_of_getElem? hz15) hc19)) (hP.row_ok (heldG_le _) oks.bn) (hP.len (heldG_le _))) rfl ?_
    rintro v22 w8 ⟨u2, css2, hbR2, ho2, hl2, hno2, hpr, hmX⟩
    have hL2 := hL.laid (u' := u2) hmX (by intro b hb; simp only [List.mem_cons, List.mem_append] at hb ⊢; grind) (by intro b hb; simp only [List.mem_cons, List.mem_append]; grind) hpr
    have hbd2 := hbd.laid hmX ho2
    have hm2 := hm0.old hmX (by intro b hb; rcases List.mem_cons.1 hb with rfl | hb; exact .inr hge_gR; exact .inr (own_ge ho b (by unfold ownL at hb; simpa using hb)).1)
    refine L.nil <| X.blockEnd <| X.seq <| W.region <| L.v (R1.addI (b := 1) rfl rfl (by omega)) rfl <| L.v (R1.move rfl) rfl <| L.nil <| X.next (i + 1, u2, css2, (laysT rs good ((conT z15).1, (conT z15).2)).1, (laysT rs good ((conT z15).1, (conT z15).2)).2) ?_ ?_ ?_
    · exact ⟨rfl, rfl, rfl, rfl, rfl, trivial⟩
    ·
     exact ⟨hL2.sub (by intro b hb; first | exact hb | (simp only [mq] at hb ⊢; grind)), hbR2, ho2, hl2, hno2, hge_gR, hbd2.sub (by intro b hb; first | exact hb | (simp only [mq] at hb ⊢; grind)), hm2, by omega, by rw [vecs_yes hz15 hc19]; exact OkS.step (cs := cs) hP hc19 (oks.ov _ (List.mem_of_getElem? hz15) hc19), by rw [vecs_yes hz15 hc19, List.length_append]; exact Nat.le_trans (laysT_len _ _ _) (Nat.succ_le_succ hrk)⟩
    · first | omega | (dsimp only; omega)
   ·
    intro hc19
    have hcc_ := hc19
    refine W.skip <| X.blockEnd <| X.seq <| W.region <| L.v (R1.addI (b := 1) rfl rfl (by omega)) rfl <| L.v (R1.move rfl) rfl <| L.nil <| X.next (i + 1, u, css, rs, good) ?_ ?_ ?_
    · exact ⟨rfl, rfl, rfl, rfl, rfl, trivial⟩
    ·
     exact ⟨hL.sub (by intro b hb; first | exact hb | (simp only [mq] at hb ⊢; grind)), hbR, ho, hl.sub (by intro b hb; first | exact hb | (simp only [mq] at hb ⊢; grind)), hno_ho_gR, hge_gR, hbd.sub (by intro b hb; first | exact hb | (simp only [mq] at hb ⊢; grind)), hm0, by omega, by rw [vecs_no hz15 hc19]; exact hP, by rw [vecs_no hz15 hc19]; exact hrk⟩
    · first | omega | (dsimp only; omega)
  ·
   intro hc13
   try simp only [bq, ne_eq] at hc13
   obtain rfl : i = cs.length := by omega
   rw [List.take_length] at hP hrk
   refine W.exit <| X.thenExit <| X.nextExit <| X.here <| X.seq <| W.seq <| W.region <| L.v (R1.move rfl) rfl <| L.v (R1.assign rfl) rfl <| L.nil <| X.seq ?_
   refine W.ret <| X.result1 rfl (.tmp rfl .nil) ?_
   exact ⟨gR, u, rs, good, rfl, ⟨hge_gR, hbR, own_lay hbd0 ho hl (by intro b hb; first | exact hb | (simp only [mq] at hb ⊢; grind)), hP, hrk⟩, hm0⟩

theorem built_C12g (T : Option Addr) (l t : Nat) (s : Bool) (A : Option Addr) (n c : Nat) (B : Option Addr) (m d : Nat) : Try.prog.built 29 [(1, .slice T l t), (2, .agg #[.bool s, .slice A n c, .slice B m d])] = some #[.int .i64 0, .slice T l t, .bool s, .slice A n c, .slice B m d] := by kernel_rfl
theorem c_Consistent {M : List Nat} {w : World} {vl : Value} {cs : List CR} {z0 : Int} {t : Nat} (hL : Lay rdC M w vl cs) (hbd : Bd M w) (oks : OkS z0 t cs) :
    Ret Try.prog 11 #[vl, .int .i64 z0] w (fun r w' => ∃ rs ok, PInv (heldG z0) t (vecs (heldG z0) cs) rs ok ∧ r = .bool ok ∧ Mod [] w w') := by
 refine Ret.of (vs := [vl, .int .i64 z0]) (n := 11) Try.func11 rfl rfl rfl rfl ?_
 have hm0 : Mod [] w w := Mod.refl _ _
 refine W.seq <| W.region <| L.v (R1.assign rfl) rfl <| L.nil <| X.seq <| W.seq <| W.region <| L.v (R1.move rfl) rfl <| L.v (R1.move rfl) rfl <| L.call rfl (c_solved hL hbd oks) rfl ?_
 rintro _ w1 ⟨gR, vR, rs, ok, rfl, ⟨hgeR, hbR, hlR, hP, hrk⟩, hm1⟩
 replace hL := hL.gr hm1
 replace hbd := hbd.gr hm1
 replace hm0 := hm0.trans hm1
 clear hm1
 refine L.v (R1.nilCheck rfl) rfl <| L.v (R1.fieldAt rfl tyF56_1) rfl <| L.v (R1.loadFld rfl hbR rfl tyP4) rfl <| L.v (R1.assign rfl) rfl <| L.nil <| X.seq <| W.ret <| X.result1 rfl (.tmp rfl .nil) ?_
 exact ⟨rs, ok, hP, rfl, hm0⟩

theorem c_Rank {M : List Nat} {w : World} {vl : Value} {cs : List CR} {z0 : Int} {t : Nat} (hL : Lay rdC M w vl cs) (hbd : Bd M w) (oks : OkS z0 t cs) :
    Ret Try.prog 12 #[vl, .int .i64 z0] w (fun r w' => ∃ rs ok, (PInv (heldG z0) t (vecs (heldG z0) cs) rs ok ∧ rs.length ≤ (vecs (heldG z0) cs).length) ∧ r = .int .i64 (rs.length : Int) ∧ Mod [] w w') := by
 refine Ret.of (vs := [vl, .int .i64 z0]) (n := 12) Try.func12 rfl rfl rfl rfl ?_
 have hm0 : Mod [] w w := Mod.refl _ _
 refine W.seq <| W.region <| L.v (R1.assign rfl) rfl <| L.nil <| X.seq <| W.seq <| W.region <| L.v (R1.move rfl) rfl <| L.v (R1.move rfl) rfl <| L.call rfl (c_solved hL hbd oks) rfl ?_
 rintro _ w1 ⟨gR, vR, rs, ok, rfl, ⟨hgeR, hbR, hlR, hP, hrk⟩, hm1⟩
 replace hL := hL.gr hm1
 replace hbd := hbd.gr hm1
 replace hm0 := hm0.trans hm1
 clear hm1
 refine L.v (R1.nilCheck rfl) rfl <| L.v (R1.fieldAt rfl tyF56_0) rfl <| L.v (R1.loadFld rfl hbR rfl tyP22) rfl <| L.v (R1.lenLay rfl hlR tyS22) rfl <| L.v (R1.assign rfl) rfl <| L.nil <| X.seq <| W.ret <| X.result1 rfl (.tmp rfl .nil) ?_
 exact ⟨rs, ok, ⟨hP, hrk⟩, rfl, hm0⟩

set_option maxHeartbeats 1000000 in
theorem c_Implies {M : List Nat} {w : World} {vl : Value} {cs : List CR} {z0 : Int} {t : Nat} (hL : Lay rdC M w vl cs) (hbd : Bd M w) (oks : OkS z0 t cs) {c : CR} {vt vn vd : Value} (ht : Lay rdT M w vt c.ts) (h : U32 M w vn c.k.n) (k : U32 M w vd c.k.d) (hsm : SmC 1099511627776 c) (hvc : isC c ((heldG z0) : Int) = true → OvC (heldG z0) t (conT c)) :
    Ret Try.prog 22 #[vl, .agg #[.int .i64 c.st, vt, .bool c.k.s, vn, vd], .int .i64 z0] w (fun r w' => ∃ rs ok, PInv (heldG z0) t (vecs (heldG z0) cs) rs ok ∧ r = .bool (impT z0 rs ok c) ∧ Mod [] w w') := by
 obtain ⟨T9, t9, rfl⟩ := ht.form
 obtain ⟨A9, c9, rfl⟩ := h.form
 obtain ⟨B9, e9, rfl⟩ := k.form
 have hhd := heldG_le z0
 refine Ret.of (vs := [vl, .agg #[.int .i64 c.st, .slice T9 c.ts.length t9, .bool c.k.s, .slice A9 c.k.n.length c9, .slice B9 c.k.d.length e9], .int .i64 z0]) (n := 40) Try.func22 rfl rfl rfl rfl ?_
 have hm0 : Mod [] w w := Mod.refl _ _
 refine W.seq <| W.region <| L.box rfl rfl ?_
 intro g4 w1 hN4
 replace hL := hL.new hN4
 replace hbd := hbd.new hN4
 replace ht := ht.new hN4
 replace h := h.new hN4
 replace k := k.new hN4
 have hge_g4 := New.ge hN4 hm0.size
 replace hm0 := hm0.trans (hN4.mod.mono (by simp))
 have hb4 := hN4.blk
 clear hN4
 refine L.v (R1.assign rfl) rfl <| L.nil <| X.seq <| W.seq <| W.region <| L.v (R1.move rfl) rfl <| L.v (R1.move rfl) rfl ?_
 have hlt4 := Blk.lt hb4
 refine L.call rfl (c_solved hL hbd oks) rfl ?_
 rintro _ w2 ⟨gR, vR, rs, ok, rfl, ⟨hgeR, hbR, hlR, hP, hrk⟩, hm2⟩
 replace hL := hL.gr hm2
 replace hbd := hbd.gr hm2
 replace ht := ht.gr hm2
 replace h := h.gr hm2
 replace k := k.gr hm2
 replace hm0 := hm0.trans hm2
 replace hb4 := Blk.gr hb4 hm2
 clear hm2
 have hne_g4_gR := Nat.ne_of_lt (Nat.lt_of_lt_of_le hlt4 hgeR)
 refine L.v (R1.assign rfl) rfl <| L.nil <| X.seq <| W.seq <| W.seq <| W.drawW (T := []) rfl (by decide +kernel) (NoHang.then (NoHang.then NoHang.post)) (fun w3 hm3 => ?_)
 replace hL := hL.gr hm3
 replace hbd := hbd.gr hm3
 replace ht := ht.gr hm3
 replace h := h.gr hm3
 replace k := k.gr hm3
 replace hm0 := hm0.trans hm3
 replace hb4 := Blk.gr hb4 hm3
 replace hbR := Blk.gr hbR hm3
 replace hlR := hlR.gr hm3
 have hS1 : Mod [] w3 w3 := Mod.refl _ _
 clear hm3
 have hb4_s := hb4
 have hbR_s := hbR
 refine D.take 0 rfl (by decide +kernel) (fun w_ hS => (R1.move rfl)) hS1 rfl <| D.take 1 rfl (by decide +kernel) (fun w_ hS => (R1.nilCheck rfl)) hS1 rfl <| D.take 2 rfl (by decide +kernel) (fun w_ hS => (R1.fieldAt rfl tyF56_1)) hS1 rfl <| D.take 3 rfl (by decide +kernel) (fun w_ hS => (R1.loadFld rfl (Blk.gr hbR_s hS) rfl tyP4)) hS1 rfl <| D.take 4 rfl (by decide +kernel) (fun w_ hS => (R1.not rfl)) hS1 rfl <| D.take 5 rfl (by decide +kernel) (fun w_ hS => (R1.move rfl)) hS1 rfl ?_
 cases hgd16 : (!ok)
 ·
  try simp only [bq, ne_eq] at hgd16
  refine D.takeOn 6 rfl rfl rfl rfl (by decide +kernel) (fun w_ hS => (R1.loadBox rfl (Blk.gr hb4_s hS) tyG29)) hS1 rfl <| D.takeOn 7 rfl rfl rfl rfl (by decide +kernel) (fun w_ hS => (R1.move rfl)) hS1 rfl <| D.one 8 rfl (by decide +kernel) (fun hX => ?_)
  refine L.callOn rfl rfl rfl rfl (c_heldG) rfl ?_
  rintro _ w4 ⟨rfl, hm4⟩
  replace hL := hL.gr hm4
  replace hbd := hbd.gr hm4
  replace ht := ht.gr hm4
  replace h := h.gr hm4
  replace k := k.gr hm4
  replace hm0 := hm0.trans hm4
  replace hb4 := Blk.gr hb4 hm4
  replace hbR := Blk.gr hbR hm4
  replace hlR := hlR.gr hm4
  replace hS1 := hS1.trans hm4
  clear hm4
  refine L.nil (hX _ _ ⟨.inr hS1, ?_⟩)
  refine D.one 9 rfl (by decide +kernel) (fun hX => ?_)
  refine L.callOn rfl rfl rfl rfl (c_aff_Is ht h k (n := ((heldG z0) : Int)) (by omega) hbd hsm) rfl ?_
  rintro _ w5 ⟨rfl, hm5⟩
  replace hL := hL.gr hm5
  replace hbd := hbd.gr hm5
  replace ht := ht.gr hm5
  replace h := h.gr hm5
  replace k := k.gr hm5
  replace hm0 := hm0.trans hm5
  replace hb4 := Blk.gr hb4 hm5
  replace hbR := Blk.gr hbR hm5
  replace hlR := hlR.gr hm5
  replace hS1 := hS1.trans hm5
  clear hm5
  refine L.nil (hX _ _ ⟨.inr hS1, ?_⟩)
  refine D.takeOn 10 rfl rfl rfl rfl (by decide +kernel) (fun w_ hS => (R1.not rfl)) hS1 rfl <| D.take 11 rfl (by decide +kernel) (fun w_ hS => (R1.pickF rfl rfl)) hS1 rfl <| D.done (by decide +kernel) ?_ _
  refine X.seq <| W.cond rfl ?_ ?_
  ·
   intro hc22
   try simp only [bq, ne_eq] at hc22
   refine W.seq <| W.region <| L.v (R1.move rfl) rfl <| L.v (R1.nilCheck rfl) rfl <| L.v (R1.fieldAt rfl tyF56_1) rfl <| L.v (R1.loadFld rfl hbR rfl tyP4) rfl <| L.v (R1.not rfl) rfl <| L.v (R1.assign rfl) rfl <| L.nil <| X.seq <| W.ret ?_
   refine X.thenRet <| X.result1 rfl (.tmp rfl .nil) <| ⟨rs, ok, hP, ?_, hm0⟩
   rw [impT, hgd16]; first | rfl | (rw [hc22]; rfl)
  ·
   intro hc22
   try simp only [bq, ne_eq] at hc22
   refine W.skip <| X.seq <| W.seq <| W.region <| L.v (R1.move rfl) rfl <| L.v (R1.loadBox rfl hb4 tyG29) rfl <| L.call rfl (c_left hbR hlR (RK_of hc22 ht h k) hbd (oks.left_ok hP hc22 (hvc hc22)) (hP.row_ok (heldG_le _) oks.bn)) rfl ?_
   rintro _ w6 ⟨⟨s30, T30, t30, A30, c30, B30, e30, rfl, ht30, hn30, hd30⟩, hm6⟩
   replace hL := hL.gr hm6
   replace hbd := hbd.gr hm6
   replace ht := ht.gr hm6
   replace h := h.gr hm6
   replace k := k.gr hm6
   replace hm0 := hm0.trans hm6
   replace hb4 := Blk.gr hb4 hm6
   replace hbR := Blk.gr hbR hm6
   replace hlR := hlR.gr hm6
   clear hm6
   obtain ⟨d, hdd⟩ : ∃ d, d = leftT rs ((conT c).1, (conT c).2) := ⟨_, rfl⟩
   have okd : OkT d := by have h9 := oks.left_ok hP hc22 (hvc hc22) rs.length (Nat.le_refl _); rw [List.take_length, ← hdd] at h9; exact h9
   rw [← hdd] at ht30 hn30 hd30 ⊢
   refine L.storeBox rfl rfl hb4 rfl rfl tyG29 ?_
   intro w7 hb4' hm7
   replace hL := hL.mod hm7 (by simp)
   replace hbd := hbd.gr hm7
   replace ht := ht.mod hm7 (by simp)
   replace h := h.mod hm7 (by simp)
   replace k := k.mod hm7 (by simp)
   replace hm0 := hm0.old1 hm7 hge_g4
   replace hbR := Blk.far hbR hm7 (by first | exact hne_gR_g4 | exact (hne_g4_gR).symm)
   replace hlR := hlR.mod hm7 (by simp)
   replace ht30 := ht30.mod hm7 (by simp)
   replace hn30 := hn30.mod hm7 (by simp)
   replace hd30 := hd30.mod hm7 (by simp)
   clear hm7
   replace hb4 := hb4'; clear hb4'
   refine L.nil <| X.seq <| W.seq <| W.region <| L.v (R1.fieldAt rfl tyF29_1) rfl <| L.v (R1.loadFld rfl hb4 rfl tyP24) rfl <| L.v (R1.lenLay rfl ht30 tyS24) rfl <| L.v ((R1.eq rfl rfl).asB (c := decide (d.1.length = 0)) (by congr 1; apply propext; omega)) rfl <| L.v (R1.move rfl) rfl ?_
   cases hgd35 : decide (d.1.length = 0)
   ·
    try simp only [bq, ne_eq] at hgd35
    refine L.off rfl rfl rfl rfl rfl <| L.off rfl rfl rfl rfl rfl <| L.off rfl rfl rfl rfl rfl <| L.v (R1.pickF rfl rfl) rfl <| L.v (R1.assign rfl) rfl <| L.nil <| X.seq <| W.ret <| X.result1 rfl (.tmp rfl .nil) <| ⟨rs, ok, hP, ?_, hm0⟩
    have hde : leftT rs (conT c) = d := hdd.symm
    rw [impT, hgd16, hc22, hde]; first | (rw [decide_eq_true hgd35]; rfl) | (rw [decide_eq_false hgd35]; rfl)
   ·
    try simp only [bq, ne_eq] at hgd35
    refine L.on rfl rfl rfl (R1.fieldAt rfl tyF29_2) rfl <| L.on rfl rfl rfl (R1.loadBoxAt (ds := [.bool (decide (d.2.num < 0)), .slice A30 (toL d.2.num.natAbs).length c30, .slice B30 (toL d.2.den).length e30]) rfl hb4 rfl tyG27) rfl <| L.callOn rfl rfl rfl rfl (c_rat_Zero (q := d.2) (rv_toL _) hn30 hd30 hbd (Nat.le_trans okd.fk.1 (by decide)) (Nat.le_trans okd.fk.2 (by decide))) rfl ?_
    rintro _ w8 ⟨rfl, hm8⟩
    replace hL := hL.gr hm8
    replace hbd := hbd.gr hm8
    replace ht := ht.gr hm8
    replace h := h.gr hm8
    replace k := k.gr hm8
    replace hm0 := hm0.trans hm8
    replace hbR := Blk.gr hbR hm8
    replace hlR := hlR.gr hm8
    replace ht30 := ht30.gr hm8
    replace hn30 := hn30.gr hm8
    replace hd30 := hd30.gr hm8
    replace hb4 := Blk.gr hb4 hm8
    clear hm8
    refine L.v (R1.pickT rfl rfl) rfl <| L.v (R1.assign rfl) rfl <| L.nil <| X.seq <| W.ret <| X.result1 rfl (.tmp rfl .nil) <| ⟨rs, ok, hP, ?_, hm0⟩
    have hde : leftT rs (conT c) = d := hdd.symm
    rw [impT, hgd16, hc22, hde]; first | (rw [decide_eq_true hgd35]; rfl) | (rw [decide_eq_false hgd35]; rfl)
 ·
  try simp only [bq, ne_eq] at hgd16
  refine D.off 6 rfl rfl rfl rfl rfl (by decide +kernel) hS1 rfl <| D.off 7 rfl rfl rfl rfl rfl (by decide +kernel) hS1 rfl <| D.off 8 rfl rfl rfl rfl rfl (by decide +kernel) hS1 rfl <| D.off 9 rfl rfl rfl rfl rfl (by decide +kernel) hS1 rfl <| D.off 10 rfl rfl rfl rfl rfl (by decide +kernel) hS1 rfl <| D.take 11 rfl (by decide +kernel) (fun w_ hS => (R1.pickT rfl rfl)) hS1 rfl <| D.done (by decide +kernel) ?_ _
  refine X.seq <| W.condT rfl <| W.seq <| W.region <| L.v (R1.move rfl) rfl <| L.v (R1.nilCheck rfl) rfl <| L.v (R1.fieldAt rfl tyF56_1) rfl <| L.v (R1.loadFld rfl hbR rfl tyP4) rfl <| L.v (R1.not rfl) rfl <| L.v (R1.assign rfl) rfl <| L.nil ?_
  refine X.seq <| W.ret <| X.thenRet <| X.result1 rfl (.tmp rfl .nil) <| ⟨rs, ok, hP, ?_, hm0⟩
  rw [impT, hgd16]; first | rfl | (rw [hc22]; rfl)

set_option maxHeartbeats 1000000 in
theorem c_Fixed {M : List Nat} {w : World} {vl : Value} {cs : List CR} {z0 : Int} {t : Nat} (hL : Lay rdC M w vl cs) (hbd : Bd M w) (oks : OkS z0 t cs) {v : Int} :
    Ret Try.prog 10 #[vl, .int .i64 v, .int .i64 z0] w (fun r w' => ∃ rs ok q, PInv (heldG z0) t (vecs (heldG z0) cs) rs ok ∧ r = .tuple #[q, .bool (fixT z0 v rs ok).isSome] ∧ RV M w' q ((fixT z0 v rs ok).getD 0) ∧ Mod [] w w') := by
 have hbd0 := hbd
 have hhd := heldG_le z0
 refine Ret.of (vs := [vl, .int .i64 v, .int .i64 z0]) (n := 44) Try.func10 rfl rfl rfl rfl ?_
 have hm0 : Mod [] w w := Mod.refl _ _
 refine W.seq <| W.region <| L.alloc tyZ27 rfl ?_
 intro g6 w1 hN6
 replace hL := hL.new hN6
 replace hbd := hbd.new hN6
 have hge_g6 := New.ge hN6 hm0.size
 replace hm0 := hm0.trans (hN6.mod.mono (by simp))
 have hb6 := hN6.blk
 clear hN6
 refine L.v (R1.assign rfl) rfl <| L.nil <| X.seq <| W.seq <| W.region <| L.v (R1.move rfl) rfl <| L.v (R1.move rfl) rfl ?_
 have hlt6 := Blk.lt hb6
 refine L.call rfl (c_solved hL hbd oks) rfl ?_
 rintro _ w2 ⟨gR, vR, rs, ok, rfl, ⟨hgeR, hbR, hlR, hP, hrk⟩, hm2⟩
 replace hL := hL.gr hm2
 replace hbd := hbd.gr hm2
 replace hm0 := hm0.trans hm2
 replace hb6 := Blk.gr hb6 hm2
 clear hm2
 have hne_g6_gR := Nat.ne_of_lt (Nat.lt_of_lt_of_le hlt6 hgeR)
 refine L.v (R1.assign rfl) rfl <| L.nil <| X.seq <| W.seq <| W.seq <| W.region <| L.v (R1.move rfl) rfl <| L.v (R1.nilCheck rfl) rfl <| L.v (R1.fieldAt rfl tyF56_1) rfl <| L.v (R1.loadFld rfl hbR rfl tyP4) rfl <| L.v (R1.not rfl) rfl ?_
 refine L.v (R1.move rfl) rfl ?_
 cases hgd18 : (!ok)
 ·
  try simp only [bq, ne_eq] at hgd18
  refine L.on rfl rfl rfl (R1.move rfl) rfl <| L.on rfl rfl rfl ((R1.lt rfl rfl).asB (c := decide (v < 0)) (rfl)) rfl <| L.v (R1.pickF rfl rfl) rfl <| L.v (R1.move rfl) rfl ?_
  cases hgd22 : decide (v < 0)
  ·
   simp only [bq] at hgd22
   refine L.on rfl rfl rfl (R1.move rfl) rfl <| L.on rfl rfl rfl (R1.move rfl) rfl <| L.callOn rfl rfl rfl rfl (c_heldG) rfl ?_
   rintro _ w3 ⟨rfl, hm3⟩
   replace hL := hL.gr hm3
   replace hbd := hbd.gr hm3
   replace hm0 := hm0.trans hm3
   replace hb6 := Blk.gr hb6 hm3
   replace hbR := Blk.gr hbR hm3
   replace hlR := hlR.gr hm3
   clear hm3
   refine L.on rfl rfl rfl ((R1.ge rfl rfl).asB (c := decide (((heldG z0) : Int) ≤ v)) (rfl)) rfl <| L.v (R1.pickF rfl rfl) rfl <| L.nil <| X.seq <| W.cond rfl ?_ ?_
   ·
    intro hc27
    simp only [bq] at hc27
    refine W.seq <| W.region <| L.v (R1.build (vs := []) rfl built_Q) rfl <| L.storeBox rfl rfl hb6 rfl rfl tyG27 ?_
    intro w4 hb6' hm4
    replace hL := hL.mod hm4 (by simp)
    replace hbd := hbd.gr hm4
    replace hm0 := hm0.old1 hm4 hge_g6
    replace hbR := Blk.far hbR hm4 (by first | exact hne_gR_g6 | exact (hne_g6_gR).symm)
    replace hlR := hlR.mod hm4 (by simp)
    clear hm4
    replace hb6 := hb6'; clear hb6'
    refine L.v (R1.assign rfl) rfl <| L.nil <| X.seq <| W.ret <| X.thenRet <| X.result2 rfl (.cell rfl (loadVar_blk hb6 tyG27) (.tmp rfl .nil)) ?_
    have hno := (fixT_no (v := v) (z0 := z0) (rs := rs) (ok := ok) (by first | exact .inl hgd18 | exact .inr (.inl hgd22) | exact .inr (.inr (.inl hc27)) | exact .inr (.inr (.inr (by rw [Int.toNat_natCast, ← hdd]; omega)))))
    exact ⟨rs, ok, _, hP, by rw [hno]; rfl, by rw [hno]; exact RV.zero, hm0⟩
   ·
    intro hc27
    simp only [bq] at hc27
    refine W.skip <| X.seq <| W.seq ?_
    obtain ⟨V, rfl⟩ : ∃ V : Nat, v = (V : Int) := ⟨v.toNat, by omega⟩
    refine W.region <| L.v (R1.move rfl) rfl <| L.v (R1.move rfl) rfl <| L.call rfl (c_rat_Int (n := 1) (by decide) (by decide) hbd) rfl ?_
    rintro _ w5 ⟨⟨A31, c31, B31, e31, rfl, hn31, hd31⟩, hm5⟩
    replace hL := hL.gr hm5
    replace hbd := hbd.gr hm5
    replace hm0 := hm0.trans hm5
    replace hb6 := Blk.gr hb6 hm5
    replace hbR := Blk.gr hbR hm5
    replace hlR := hlR.gr hm5
    clear hm5
    have F31 := Fit.int (n := 1) (by decide) (by decide)
    refine L.v (R1.build (vs := [.int .i64 (V : Int), .agg #[.bool (decide ((((1 : Int)) : Rat).num < 0)), .slice A31 (toL (((1 : Int)) : Rat).num.natAbs).length c31, .slice B31 (toL (((1 : Int)) : Rat).den).length e31]]) rfl (built_T01 _ _ _ _ _ _ _ _)) rfl <| L.buildSlice (cells := [.int .i64 (V : Int), .bool (decide ((((1 : Int)) : Rat).num < 0)), .slice A31 (toL (((1 : Int)) : Rat).num.natAbs).length c31, .slice B31 (toL (((1 : Int)) : Rat).den).length e31]) rfl tyS24 tyZ50 (fillN1 _ _ _ _ _ _ _ _) (by decide) (by decide) rfl ?_
    intro g33 w6 hN33
    replace hL := hL.new hN33
    replace hbd := hbd.new hN33
    have hge_g33 := New.ge hN33 hm0.size
    replace hm0 := hm0.trans (hN33.mod.mono (by simp))
    have hne_g6_g33 := hb6.ne_ hN33
    replace hb6 := Blk.gr hb6 hN33.mod
    have hne_gR_g33 := hbR.ne_ hN33
    replace hbR := Blk.gr hbR hN33.mod
    replace hlR := hlR.new hN33
    replace hn31 := hn31.new hN33
    replace hd31 := hd31.new hN33
    have hb33 := hN33.blk
    clear hN33
    have hT33 : Lay rdN (g6 :: M) w6 (.slice (some ⟨g33, 0, none⟩) 1 1) [(V, 1)] := Lay.of_blk (css := [[.int .i64 (V : Int), .bool (decide ((((1 : Int)) : Rat).num < 0)), .slice A31 (toL (((1 : Int)) : Rat).num.natAbs).length c31, .slice B31 (toL (((1 : Int)) : Rat).den).length e31]]) hb33 (LayL.one _ (V, 1) ⟨_, _, _, _, rfl, hn31.sub (by intro b hb; first | exact hb | (simp only [mq] at hb ⊢; grind)), hd31.sub (by intro b hb; first | exact hb | (simp only [mq] at hb ⊢; grind))⟩) rfl rfl (by decide) (fun h9 => by rcases List.mem_cons.1 h9 with h9 | h9; exact hne_g6_g33 h9.symm; exact hbd0.not hge_g33 h9)
    refine L.call rfl (c_rat_Int (n := 0) (by decide) (by decide) hbd) rfl ?_
    rintro _ w7 ⟨⟨A34, c34, B34, e34, rfl, hn34, hd34⟩, hm7⟩
    replace hL := hL.gr hm7
    replace hbd := hbd.gr hm7
    replace hm0 := hm0.trans hm7
    replace hb6 := Blk.gr hb6 hm7
    replace hbR := Blk.gr hbR hm7
    replace hlR := hlR.gr hm7
    replace hn31 := hn31.gr hm7
    replace hd31 := hd31.gr hm7
    replace hb33 := Blk.gr hb33 hm7
    replace hT33 := hT33.gr hm7
    clear hm7
    have F34 := Fit.int (n := 0) (by decide) (by decide)
    refine L.v (R1.build (vs := [.slice (some ⟨g33, 0, none⟩) 1 1, .agg #[.bool (decide ((((0 : Int)) : Rat).num < 0)), .slice A34 (toL (((0 : Int)) : Rat).num.natAbs).length c34, .slice B34 (toL (((0 : Int)) : Rat).den).length e34]]) rfl (built_C12g _ _ _ _ _ _ _ _ _ _)) rfl <| L.call rfl (c_left (M := g6 :: M) (l := [(V, 1)]) (k := 0) hbR hlR ⟨0, _, _, _, _, _, _, rfl, hT33.sub (by intro b hb; first | exact hb | (simp only [mq] at hb ⊢; grind)), hn34.sub (by intro b hb; first | exact hb | (simp only [mq] at hb ⊢; grind)), hd34.sub (by intro b hb; first | exact hb | (simp only [mq] at hb ⊢; grind))⟩ (hbd.sub (by intro b hb; first | exact hb | (simp only [mq] at hb ⊢; grind))) (by obtain ⟨e, h1, h2, h3⟩ := ov_one (n := (heldG z0)) (v := V) (by omega) oks.t1; exact hP.left_ok (heldG_le _) oks.bn (one_nice V) (one_below (by omega)) h1 h2 h3) (hP.row_ok (heldG_le _) oks.bn)) rfl ?_
    rintro _ w8 ⟨⟨s36, T36, t36, A36, c36, B36, e36, rfl, ht36, hn36, hd36⟩, hm8⟩
    replace hL := hL.gr hm8
    replace hbd := hbd.gr hm8
    replace hm0 := hm0.trans hm8
    replace hb6 := Blk.gr hb6 hm8
    replace hbR := Blk.gr hbR hm8
    replace hlR := hlR.gr hm8
    replace hn31 := hn31.gr hm8
    replace hd31 := hd31.gr hm8
    replace hb33 := Blk.gr hb33 hm8
    replace hT33 := hT33.gr hm8
    replace hn34 := hn34.gr hm8
    replace hd34 := hd34.gr hm8
    clear hm8
    obtain ⟨d, hdd⟩ : ∃ d, d = leftT rs ([(V, 1)], 0) := ⟨_, rfl⟩
    have okd : OkT d := by
      have h9 : ∀ i, i ≤ rs.length → OkT (leftT (rs.take i) ([(V, 1)], 0)) := (by obtain ⟨e, h1, h2, h3⟩ := ov_one (n := (heldG z0)) (v := V) (by omega) oks.t1; exact hP.left_ok (heldG_le _) oks.bn (one_nice V) (one_below (by omega)) h1 h2 h3)
      have h8 := h9 rs.length (Nat.le_refl _); rw [List.take_length, ← hdd] at h8; exact h8
    rw [← hdd] at ht36 hn36 hd36 ⊢
    refine L.alloc tyZ29 rfl ?_
    intro g9 w9 hN9
    replace hL := hL.new hN9
    replace hbd := hbd.new hN9
    have hge_g9 := New.ge hN9 hm0.size
    replace hm0 := hm0.trans (hN9.mod.mono (by simp))
    have hne_g6_g9 := hb6.ne_ hN9
    replace hb6 := Blk.gr hb6 hN9.mod
    have hne_gR_g9 := hbR.ne_ hN9
    replace hbR := Blk.gr hbR hN9.mod
    replace hlR := hlR.new hN9
    replace hn31 := hn31.new hN9
    replace hd31 := hd31.new hN9
    have hne_g33_g9 := hb33.ne_ hN9
    replace hb33 := Blk.gr hb33 hN9.mod
    replace hT33 := hT33.new hN9
    replace hn34 := hn34.new hN9
    replace hd34 := hd34.new hN9
    replace ht36 := ht36.new hN9
    replace hn36 := hn36.new hN9
    replace hd36 := hd36.new hN9
    have hb9 := hN9.blk
    clear hN9
    refine L.storeBox rfl rfl hb9 rfl rfl tyG29 ?_
    intro w10 hb9' hm10
    replace hL := hL.mod hm10 (by simp)
    replace hbd := hbd.gr hm10
    replace hm0 := hm0.old1 hm10 hge_g9
    replace hb6 := Blk.far hb6 hm10 (by first | exact hne_g6_g9 | exact (hne_g9_g6).symm)
    replace hbR := Blk.far hbR hm10 (by first | exact hne_gR_g9 | exact (hne_g9_gR).symm)
    replace hlR := hlR.mod hm10 (by simp)
    replace hn31 := hn31.mod hm10 (by simp)
    replace hd31 := hd31.mod hm10 (by simp)
    replace hb33 := Blk.far hb33 hm10 (by first | exact hne_g33_g9 | exact (hne_g9_g33).symm)
    replace hT33 := hT33.mod hm10 (by simp)
    replace hn34 := hn34.mod hm10 (by simp)
    replace hd34 := hd34.mod hm10 (by simp)
    replace ht36 := ht36.mod hm10 (by simp)
    replace hn36 := hn36.mod hm10 (by simp)
    replace hd36 := hd36.mod hm10 (by simp)
    clear hm10
    replace hb9 := hb9'; clear hb9'
    refine L.nil <| X.seq <| W.seq <| W.seq <| W.region <| L.v (R1.fieldAt rfl tyF29_1) rfl <| L.v (R1.loadFld rfl hb9 rfl tyP24) rfl <| L.v (R1.lenLay rfl ht36 tyS24) rfl <| L.v ((R1.gt rfl rfl).asB (c := decide (0 < d.1.length)) (by congr 1; apply propext; omega)) rfl <| L.nil <| X.seq ?_
    refine W.cond rfl ?_ ?_
    ·
     intro hc40
     try simp only [bq, ne_eq] at hc40
     refine W.seq <| W.region <| L.v (R1.build (vs := []) rfl built_Q) rfl <| L.storeBox rfl rfl hb6 rfl rfl tyG27 ?_
     intro w11 hb6' hm11
     replace hL := hL.mod hm11 (by simp)
     replace hbd := hbd.gr hm11
     replace hm0 := hm0.old1 hm11 hge_g6
     replace hbR := Blk.far hbR hm11 (by first | exact hne_gR_g6 | exact (hne_g6_gR).symm)
     replace hlR := hlR.mod hm11 (by simp)
     replace hn31 := hn31.mod hm11 (by simp)
     replace hd31 := hd31.mod hm11 (by simp)
     replace hb33 := Blk.far hb33 hm11 (by first | exact hne_g33_g6 | exact (hne_g6_g33).symm)
     replace hT33 := hT33.mod hm11 (by simp)
     replace hn34 := hn34.mod hm11 (by simp)
     replace hd34 := hd34.mod hm11 (by simp)
     replace ht36 := ht36.mod hm11 (by simp)
     replace hn36 := hn36.mod hm11 (by simp)
     replace hd36 := hd36.mod hm11 (by simp)
     replace hb9 := Blk.far hb9 hm11 (by first | exact hne_g9_g6 | exact (hne_g6_g9).symm)
     clear hm11
     replace hb6 := hb6'; clear hb6'
     refine L.v (R1.assign rfl) rfl <| L.nil <| X.seq <| W.ret <| X.thenRet <| X.result2 rfl (.cell rfl (loadVar_blk hb6 tyG27) (.tmp rfl .nil)) ?_
     have hno := (fixT_no (v := (V : Int)) (z0 := z0) (rs := rs) (ok := ok) (by first | exact .inl hgd18 | exact .inr (.inl hgd22) | exact .inr (.inr (.inl hc27)) | exact .inr (.inr (.inr (by rw [Int.toNat_natCast, ← hdd]; omega)))))
     exact ⟨rs, ok, _, hP, by rw [hno]; rfl, by rw [hno]; exact RV.zero, hm0⟩
    ·
     intro hc40
     try simp only [bq, ne_eq] at hc40
     refine W.skip <| X.seq <| W.seq <| W.region <| L.v (R1.fieldAt rfl tyF29_2) rfl <| L.v (R1.loadBoxAt (ds := [.bool (decide (d.2.num < 0)), .slice A36 (toL d.2.num.natAbs).length c36, .slice B36 (toL d.2.den).length e36]) rfl hb9 rfl tyG27) rfl <| L.storeBox rfl rfl hb6 rfl rfl tyG27 ?_
     intro w12 hb6' hm12
     replace hL := hL.mod hm12 (by simp)
     replace hbd := hbd.gr hm12
     replace hm0 := hm0.old1 hm12 hge_g6
     replace hbR := Blk.far hbR hm12 (by first | exact hne_gR_g6 | exact (hne_g6_gR).symm)
     replace hlR := hlR.mod hm12 (by simp)
     replace hn31 := hn31.mod hm12 (by simp)
     replace hd31 := hd31.mod hm12 (by simp)
     replace hb33 := Blk.far hb33 hm12 (by first | exact hne_g33_g6 | exact (hne_g6_g33).symm)
     replace hT33 := hT33.mod hm12 (by simp)
     replace hn34 := hn34.mod hm12 (by simp)
     replace hd34 := hd34.mod hm12 (by simp)
     replace ht36 := ht36.mod hm12 (by simp)
     replace hn36 := hn36.mod hm12 (by simp)
     replace hd36 := hd36.mod hm12 (by simp)
     replace hb9 := Blk.far hb9 hm12 (by first | exact hne_g9_g6 | exact (hne_g6_g9).symm)
     clear hm12
     replace hb6 := hb6'; clear hb6'
     refine L.v (R1.assign rfl) rfl <| L.nil <| X.seq <| W.ret <| X.result2 rfl (.cell rfl (loadVar_blk hb6 tyG27) (.tmp rfl .nil)) ?_
     have hyes := fixT_yes (z0 := z0) hdd hc27 (by omega)
     rw [← hgd18] at hyes
     exact ⟨rs, ok, _, hP, by rw [hyes]; rfl, by rw [hyes]; exact RV.of (hn36.sub (by intro b hb; first | exact hb | (simp only [mq] at hb ⊢; grind))) (hd36.sub (by intro b hb; first | exact hb | (simp only [mq] at hb ⊢; grind))) okd.fk, hm0⟩
  ·
   simp only [bq] at hgd22
   refine L.off rfl rfl rfl rfl rfl <| L.off rfl rfl rfl rfl rfl <| L.off rfl rfl rfl rfl rfl <| L.off rfl rfl rfl rfl rfl <| L.v (R1.pickT rfl rfl) rfl <| L.nil <| X.seq <| W.condT rfl <| W.seq <| W.region <| L.v (R1.build (vs := []) rfl built_Q) rfl ?_
   refine L.storeBox rfl rfl hb6 rfl rfl tyG27 ?_
   intro w13 hb6' hm13
   replace hL := hL.mod hm13 (by simp)
   replace hbd := hbd.gr hm13
   replace hm0 := hm0.old1 hm13 hge_g6
   replace hbR := Blk.far hbR hm13 (by first | exact hne_gR_g6 | exact (hne_g6_gR).symm)
   replace hlR := hlR.mod hm13 (by simp)
   clear hm13
   replace hb6 := hb6'; clear hb6'
   refine L.v (R1.assign rfl) rfl <| L.nil <| X.seq <| W.ret <| X.thenRet <| X.result2 rfl (.cell rfl (loadVar_blk hb6 tyG27) (.tmp rfl .nil)) ?_
   have hno := (fixT_no (v := v) (z0 := z0) (rs := rs) (ok := ok) (by first | exact .inl hgd18 | exact .inr (.inl hgd22) | exact .inr (.inr (.inl hc27)) | exact .inr (.inr (.inr (by rw [Int.toNat_natCast, ← hdd]; omega)))))
   exact ⟨rs, ok, _, hP, by rw [hno]; rfl, by rw [hno]; exact RV.zero, hm0⟩
 ·
  try simp only [bq, ne_eq] at hgd18
  refine L.off rfl rfl rfl rfl rfl <| L.off rfl rfl rfl rfl rfl <| L.v (R1.pickT rfl rfl) rfl <| L.v (R1.move rfl) rfl <| L.off rfl rfl rfl rfl rfl <| L.off rfl rfl rfl rfl rfl <| L.off rfl rfl rfl rfl rfl <| L.off rfl rfl rfl rfl rfl <| L.v (R1.pickT rfl rfl) rfl <| L.nil <| X.seq ?_
  refine W.condT rfl <| W.seq <| W.region <| L.v (R1.build (vs := []) rfl built_Q) rfl <| L.storeBox rfl rfl hb6 rfl rfl tyG27 ?_
  intro w14 hb6' hm14
  replace hL := hL.mod hm14 (by simp)
  replace hbd := hbd.gr hm14
  replace hm0 := hm0.old1 hm14 hge_g6
  replace hbR := Blk.far hbR hm14 (by first | exact hne_gR_g6 | exact (hne_g6_gR).symm)
  replace hlR := hlR.mod hm14 (by simp)
  clear hm14
  replace hb6 := hb6'; clear hb6'
  refine L.v (R1.assign rfl) rfl <| L.nil <| X.seq <| W.ret <| X.thenRet <| X.result2 rfl (.cell rfl (loadVar_blk hb6 tyG27) (.tmp rfl .nil)) ?_
  have hno := (fixT_no (v := v) (z0 := z0) (rs := rs) (ok := ok) (by first | exact .inl hgd18 | exact .inr (.inl hgd22) | exact .inr (.inr (.inl hc27)) | exact .inr (.inr (.inr (by rw [Int.toNat_natCast, ← hdd]; omega)))))
  exact ⟨rs, ok, _, hP, by rw [hno]; rfl, by rw [hno]; exact RV.zero, hm0⟩

end Go.Proofs.Ytkjllbpfcokalaa
