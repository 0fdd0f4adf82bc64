/- Walks: what the functions compute. -/
import Derived.Test.YtpnhihljgkohcaaAffA
namespace Go.Proofs.Ytpnhihljgkohcaa
open Go.RowKit
set_option linter.unusedVariables false
set_option linter.unusedSimpArgs false
set_option maxRecDepth 10000

def valOf (val : List QR) (v : Int) : Rat := if v < 0 then 0 else match val[v.toNat]? with
  | some q => q.val
  | none => 0
theorem valOf_some {val : List QR} {v : Int} {q : QR} (h0 : 0 ≤ v) (h : val[v.toNat]? = some q) : valOf val v = q.val := by
  unfold valOf; rw [if_neg (by omega), h]
theorem valOf_none {val : List QR} {v : Int} (h : v < 0 ∨ (val.length : Int) ≤ v) : valOf val v = 0 := by
  unfold valOf
  split
  · rfl
  · rw [List.getElem?_eq_none (by omega)]
def atG (val : List QR) : List TR → Rat → Rat
  | [], x => x
  | t :: r, x => atG val r (x + t.c.val * valOf val t.v)
theorem atG_app (val : List QR) : ∀ (l r : List TR) (x : Rat), atG val (l ++ r) x = atG val r (atG val l x)
  | [], _, _ => rfl
  | t :: l, r, x => by simp only [List.cons_append, atG]; rw [atG_app val l r]
theorem atG_snoc {val : List QR} {l : List TR} {i : Nat} {z : TR} (hz : l[i]? = some z) (x : Rat) : atG val (l.take (i + 1)) x = atG val (l.take i) x + z.c.val * valOf val z.v := by
  obtain ⟨hi, rfl⟩ := List.getElem?_eq_some_iff.1 hz
  rw [List.take_succ_eq_append_getElem hi, atG_app]; rfl
theorem fit_sm {M : List Nat} {w : World} {vn vd : Value} {q : QR} {L : Nat} (h : U32 M w vn q.n) (k : U32 M w vd q.d) (hs : SmQ L q) : Fit q.val (L + 1) := Fit.rv rfl h.2 k.2 hs.1 hs.2
theorem valOf_fit {N : List Nat} {w : World} {vv : Value} {val : List QR} {L : Nat} (hv : Lay rdQ N w vv val) (hs : ∀ q ∈ val, SmQ L q) (v : Int) : Fit (valOf val v) (L + 1) := by
  unfold valOf
  split
  · exact Fit.zero (by omega)
  · split
    · rename_i q hq
      obtain ⟨hi, rfl⟩ := List.getElem?_eq_some_iff.1 hq
      obtain ⟨cs, _, vn, vd, _, h1, h2⟩ := hv.elem hi
      exact fit_sm h1 h2 (hs _ (List.getElem_mem hi))
    · exact Fit.zero (by omega)
theorem rat_add0 (x y : Rat) : x + y * 0 = x := by grind

theorem c_aff_value {M N8 : List Nat} {w : World} {vv : Value} {val : List QR} {v : Int} (hv : Lay rdQ N8 w vv val) (hbd : Bd M w) (hsv : ∀ q ∈ val, SmQ 10000 q) :
    Ret Try.prog 66 #[vv, .int .i64 v] w (fun r w' => RN M w' r (valOf val v) ∧ Mod [] w w') := by
 refine Ret.of (vs := [vv, .int .i64 v]) (n := 19) Try.func66 rfl rfl rfl rfl ?_
 have hm0 : Mod [] w w := Mod.refl _ _
 refine W.seq <| W.region <| L.alloc tyZ31 rfl ?_
 intro g4 w1 hN4
 replace hv := hv.new hN4
 replace hbd := hbd.new hN4
 have hge_g4 := New.ge hN4 hm0.size
 replace hm0 := hm0.trans (hN4.mod.mono (by simp))
 have hb4 := hN4.blk
 clear hN4
 refine L.nil <| X.seq <| W.seq <| W.seq <| W.region <| L.v (R1.move rfl) rfl <| L.v ((R1.lt rfl rfl).asB (c := decide (v < 0)) (rfl)) rfl <| L.v (R1.move rfl) rfl ?_
 cases hgd7 : decide (v < 0)
 ·
  simp only [bq] at hgd7
  refine L.on rfl rfl rfl (R1.move rfl) rfl <| L.on rfl rfl rfl (R1.move rfl) rfl <| L.on rfl rfl rfl (R1.lenLay rfl hv tyS23) rfl <| L.on rfl rfl rfl ((R1.ge rfl rfl).asB (c := decide ((val.length : Int) ≤ v)) (rfl)) rfl <| L.v (R1.pickF rfl rfl) rfl <| L.nil <| X.seq <| W.cond rfl ?_ ?_
  ·
   intro hc12
   simp only [bq] at hc12
   refine W.seq <| W.region <| L.call rfl (c_rat_Int (n := 0) (by decide) (by decide) hbd) rfl ?_
   rintro _ w2 ⟨⟨A13, c13, B13, e13, rfl, hn13, hd13⟩, hm2⟩
   replace hm0 := hm0.trans hm2
   replace hb4 := Blk.gr hb4 hm2
   clear hm2
   have F13 := Fit.int (n := 0) (by decide) (by decide)
   refine L.storeBox rfl rfl hb4 rfl rfl tyG31 ?_
   intro w3 hb4' hm3
   replace hm0 := hm0.old1 hm3 hge_g4
   replace hn13 := hn13.mod hm3 (by simp)
   replace hd13 := hd13.mod hm3 (by simp)
   clear hm3
   replace hb4 := hb4'; clear hb4'
   refine L.nil <| X.seq <| W.ret <| X.thenRet <| X.result1 rfl (.cell rfl (loadVar_blk hb4 tyG31) .nil) ?_
   exact ⟨by rw [valOf_none (by first | exact .inl hgd7 | exact .inr hc12)]; exact RN.mk (q := ((0 : Int) : Rat)) rfl (hn13.sub (by intro b hb; first | exact hb | (simp only [mq] at hb ⊢; grind))) (hd13.sub (by intro b hb; first | exact hb | (simp only [mq] at hb ⊢; grind))), hm0⟩
  ·
   intro hc12
   simp only [bq] at hc12
   refine W.skip <| X.seq <| W.seq <| W.region <| L.v (R1.move rfl) rfl <| L.v (R1.move rfl) rfl <| L.v (R1.atLay (j := v.toNat) rfl rfl hv tyS23 (by omega) (by omega)) rfl ?_
   obtain ⟨z17, cs17, hz17, hE17, vn17, vd17, rfl, hn17, hd17⟩ := Lay.elemQ hv (j := v.toNat) (by omega)
   obtain ⟨A17, c17, rfl⟩ := hn17.form
   obtain ⟨B17, e17, rfl⟩ := hd17.form
   refine L.v (R1.loadE rfl hE17 tyG31) rfl ?_
   have F17 := fit_sm hn17 hd17 (hsv _ (List.mem_of_getElem? hz17))
   refine L.call rfl (c_rat_Norm (q := (QR.val z17)) rfl hn17 hd17 hbd (Nat.le_trans (hsv _ (List.mem_of_getElem? hz17)).1 (by decide)) (Nat.le_trans (hsv _ (List.mem_of_getElem? hz17)).2 (by decide))) rfl ?_
   rintro _ w4 ⟨⟨A18, c18, B18, e18, rfl, hn18, hd18⟩, hm4⟩
   replace hm0 := hm0.trans hm4
   replace hb4 := Blk.gr hb4 hm4
   clear hm4
   have F18 := F17
   refine L.storeBox rfl rfl hb4 rfl rfl tyG31 ?_
   intro w5 hb4' hm5
   replace hm0 := hm0.old1 hm5 hge_g4
   replace hn18 := hn18.mod hm5 (by simp)
   replace hd18 := hd18.mod hm5 (by simp)
   clear hm5
   replace hb4 := hb4'; clear hb4'
   refine L.nil <| X.seq <| W.ret <| X.result1 rfl (.cell rfl (loadVar_blk hb4 tyG31) .nil) ?_
   exact ⟨by rw [valOf_some (by omega) hz17]; exact RN.mk rfl (hn18.sub (by intro b hb; first | exact hb | (simp only [mq] at hb ⊢; grind))) (hd18.sub (by intro b hb; first | exact hb | (simp only [mq] at hb ⊢; grind))), hm0⟩
 ·
  simp only [bq] at hgd7
  refine L.off rfl rfl rfl rfl rfl <| L.off rfl rfl rfl rfl rfl <| L.off rfl rfl rfl rfl rfl <| L.off rfl rfl rfl rfl rfl <| L.v (R1.pickT rfl rfl) rfl <| L.nil <| X.seq <| W.condT rfl <| W.seq <| W.region <| L.call rfl (c_rat_Int (n := 0) (by decide) (by decide) hbd) rfl ?_
  rintro _ w6 ⟨⟨A13, c13, B13, e13, rfl, hn13, hd13⟩, hm6⟩
  replace hm0 := hm0.trans hm6
  replace hb4 := Blk.gr hb4 hm6
  clear hm6
  have F13 := Fit.int (n := 0) (by decide) (by decide)
  refine L.storeBox rfl rfl hb4 rfl rfl tyG31 ?_
  intro w7 hb4' hm7
  replace hm0 := hm0.old1 hm7 hge_g4
  replace hn13 := hn13.mod hm7 (by simp)
  replace hd13 := hd13.mod hm7 (by simp)
  clear hm7
  replace hb4 := hb4'; clear hb4'
  refine L.nil <| X.seq <| W.ret <| X.thenRet <| X.result1 rfl (.cell rfl (loadVar_blk hb4 tyG31) .nil) ?_
  exact ⟨by rw [valOf_none (by first | exact .inl hgd7 | exact .inr hc12)]; exact RN.mk (q := ((0 : Int) : Rat)) rfl (hn13.sub (by intro b hb; first | exact hb | (simp only [mq] at hb ⊢; grind))) (hd13.sub (by intro b hb; first | exact hb | (simp only [mq] at hb ⊢; grind))), hm0⟩

theorem c_aff_At {M N9 : List Nat} {w : World} {c : CR} {vt vn vd : Value} (ht : Lay rdT N9 w vt c.ts) (h : U32 N9 w vn c.k.n) (k : U32 N9 w vd c.k.d) {N8 : List Nat} {vv : Value} {val : List QR} (hv : Lay rdQ N8 w vv val) (hbd : Bd M w) (hsm : SmC 10000 c) (hsv : ∀ q ∈ val, SmQ 10000 q) :
    Ret Try.prog 44 #[.agg #[.int .i64 c.st, vt, .bool c.k.s, vn, vd], vv] w (fun r w' => RN M w' r (atG val c.ts (QR.val c.k)) ∧ Mod [] w w') := by
 obtain ⟨T9, t9, rfl⟩ := ht.form
 obtain ⟨A9, c9, rfl⟩ := h.form
 obtain ⟨B9, e9, rfl⟩ := k.form
 have hlt := hsm.1
 have FK := fit_sm h k hsm.2.1
 refine Ret.of (vs := [.agg #[.int .i64 c.st, .slice T9 c.ts.length t9, .bool c.k.s, .slice A9 c.k.n.length c9, .slice B9 c.k.d.length e9], vv]) (n := 29) Try.func44 rfl rfl rfl rfl ?_
 have hm0 : Mod [] w w := Mod.refl _ _
 refine W.seq <| W.region <| L.box rfl rfl ?_
 intro g2 w1 hN2
 replace ht := ht.new hN2
 replace h := h.new hN2
 replace k := k.new hN2
 replace hv := hv.new hN2
 replace hbd := hbd.new hN2
 replace hm0 := hm0.trans (hN2.mod.mono (by simp))
 have hb2 := hN2.blk
 clear hN2
 refine L.alloc tyZ31 rfl ?_
 intro g4 w2 hN4
 replace ht := ht.new hN4
 replace h := h.new hN4
 replace k := k.new hN4
 replace hv := hv.new hN4
 replace hbd := hbd.new hN4
 have hge_g4 := New.ge hN4 hm0.size
 replace hm0 := hm0.trans (hN4.mod.mono (by simp))
 replace hb2 := Blk.gr hb2 hN4.mod
 have hb4 := hN4.blk
 clear hN4
 refine L.nil <| X.seq <| W.seq <| W.region <| L.v (R1.fieldAt rfl tyF33_2) rfl <| L.v (R1.loadBoxAt (ds := [.bool c.k.s, .slice A9 c.k.n.length c9, .slice B9 c.k.d.length e9]) rfl hb2 rfl tyG31) rfl <| L.call rfl (c_rat_Norm (q := (QR.val c.k)) rfl h k hbd (Nat.le_trans hsm.2.1.1 (by decide)) (Nat.le_trans hsm.2.1.2 (by decide))) rfl ?_
 rintro _ w3 ⟨⟨A10, c10, B10, e10, rfl, hn10, hd10⟩, hm3⟩
 replace ht := ht.gr hm3
 replace k := k.gr hm3
 replace hv := hv.gr hm3
 replace hbd := hbd.gr hm3
 replace hm0 := hm0.trans hm3
 replace hb2 := Blk.gr hb2 hm3
 replace hb4 := Blk.gr hb4 hm3
 clear hm3
 have F10 := FK
 refine L.alloc tyZ31 rfl ?_
 intro g5 w4 hN5
 replace ht := ht.new hN5
 replace k := k.new hN5
 replace hv := hv.new hN5
 replace hbd := hbd.new hN5
 have hge_g5 := New.ge hN5 hm0.size
 replace hm0 := hm0.trans (hN5.mod.mono (by simp))
 have hne_g2_g5 := hb2.ne_ hN5
 replace hb2 := Blk.gr hb2 hN5.mod
 have hne_g4_g5 := hb4.ne_ hN5
 replace hb4 := Blk.gr hb4 hN5.mod
 replace hn10 := hn10.new hN5
 replace hd10 := hd10.new hN5
 have hb5 := hN5.blk
 clear hN5
 refine L.storeBox rfl rfl hb5 rfl rfl tyG31 ?_
 intro w5 hb5' hm5
 replace ht := ht.mod hm5 (by simp)
 replace k := k.mod hm5 (by simp)
 replace hv := hv.mod hm5 (by simp)
 replace hbd := hbd.gr hm5
 replace hm0 := hm0.old1 hm5 hge_g5
 replace hb2 := Blk.far hb2 hm5 (by first | exact hne_g2_g5 | exact (hne_g5_g2).symm)
 replace hb4 := Blk.far hb4 hm5 (by first | exact hne_g4_g5 | exact (hne_g5_g4).symm)
 replace hn10 := hn10.mod hm5 (by simp)
 replace hd10 := hd10.mod hm5 (by simp)
 clear hm5
 replace hb5 := hb5'; clear hb5'
 refine L.nil <| X.seq <| W.seq <| W.seq <| W.region <| L.v (R1.fieldAt rfl tyF33_1) rfl <| L.v (R1.loadFld rfl hb2 rfl tyP28) rfl <| L.v (R1.lenLay rfl ht tyS28) rfl <| L.v (R1.move rfl) rfl <| L.nil <| X.seq ?_
 refine W.block <| W.loop (ι := Nat × Rat × Option Addr × Nat × Option Addr × Nat) (fun (i, x, A5, c5, B5, e5) => [(1, vv), (4, .pointer (some ⟨g4, 0, none⟩)), (5, .pointer (some ⟨g5, 0, none⟩)), (12, .slice T9 c.ts.length t9), (13, .int .i64 (c.ts.length : Int)), (14, .int .i64 (i : Int))]) (fun (i, x, A5, c5, B5, e5) w_ => Lay rdT (g5 :: g4 :: N9) w_ (.slice T9 c.ts.length t9) c.ts ∧ Lay rdQ (g5 :: g4 :: N8) w_ vv val ∧ U32 (g5 :: g4 :: M) w_ (.slice A5 (toL x.num.natAbs).length c5) (toL x.num.natAbs) ∧ U32 (g5 :: g4 :: M) w_ (.slice B5 (toL x.den).length e5) (toL x.den) ∧ Blk w_ g5 31 #[.bool (decide (x.num < 0)), .slice A5 (toL x.num.natAbs).length c5, .slice B5 (toL x.den).length e5] ∧ Blk w_ g4 31 #[.bool false, .slice none 0 0, .slice none 0 0] ∧ w.heap.size ≤ g5 ∧ w.heap.size ≤ g4 ∧ g4 ≠ g5 ∧ i ≤ c.ts.length ∧ Fit x (10001 + i * 30000) ∧ x = atG val (c.ts.take i) (QR.val c.k) ∧ Bd (g5 :: g4 :: M) w_ ∧ Mod [] w w_) (fun (i, x, A5, c5, B5, e5) => c.ts.length - i) (0, QR.val c.k, A10, c10, B10, e10) ?_ ?_ ?_
 · exact ⟨rfl, rfl, rfl, rfl, rfl, rfl, trivial⟩
 ·
  exact ⟨ht.sub (by intro b hb; first | exact hb | (simp only [mq] at hb ⊢; grind)), hv.sub (by intro b hb; first | exact hb | (simp only [mq] at hb ⊢; grind)), hn10.sub (by intro b hb; first | exact hb | (simp only [mq] at hb ⊢; grind)), hd10.sub (by intro b hb; first | exact hb | (simp only [mq] at hb ⊢; grind)), hb5, hb4, hge_g5, hge_g4, hne_g4_g5, Nat.zero_le _, Fit.mono F10 (by decide), rfl, hbd.sub (by intro b hb; first | exact hb | (simp only [mq] at hb ⊢; grind)), hm0⟩
 ·
  rintro ⟨i, x, A5, c5, B5, e5⟩ w6 ⟨ht, hv, hn5, hd5, hb5, hb4, hge_g5, hge_g4, hne_g4_g5, hi, Fx, hx, hbd, hm0⟩
  refine W.seq <| W.region <| L.v (R1.lt rfl rfl) rfl <| L.nil <| X.seq <| W.seq <| W.cond rfl ?_ ?_
  ·
   intro hc15
   try simp only [bq, ne_eq] at hc15
   refine W.skip <| X.seq <| W.seq <| W.block <| W.seq <| W.region <| L.v (R1.atLay (j := i) rfl rfl ht tyS28 rfl (by omega)) rfl ?_
   obtain ⟨z17, cs17, hz17, hE17, ds17, rfl, vn17, vd17, rfl, hn17, hd17⟩ := Lay.elemQ ht (j := i) (by omega)
   obtain ⟨A17, c17, rfl⟩ := hn17.form
   obtain ⟨B17, e17, rfl⟩ := hd17.form
   refine L.v (R1.loadE rfl hE17 tyG46) rfl ?_
   have F17 := fit_sm hn17 hd17 (hsm.2.2 _ (List.mem_of_getElem? hz17))
   refine L.alloc tyZ46 rfl ?_
   intro g7 w7 hN7
   replace ht := ht.new hN7
   replace hv := hv.new hN7
   replace hn5 := hn5.new hN7
   replace hd5 := hd5.new hN7
   have hne_g5_g7 := hb5.ne_ hN7
   replace hb5 := Blk.gr hb5 hN7.mod
   have hne_g4_g7 := hb4.ne_ hN7
   replace hb4 := Blk.gr hb4 hN7.mod
   replace hbd := hbd.new hN7
   have hge_g7 := New.ge hN7 hm0.size
   replace hm0 := hm0.trans (hN7.mod.mono (by simp))
   replace hn17 := hn17.new hN7
   replace hd17 := hd17.new hN7
   have hb7 := hN7.blk
   clear hN7
   refine L.storeBox rfl rfl hb7 rfl rfl tyG46 ?_
   intro w8 hb7' hm8
   replace ht := ht.mod hm8 (by simp)
   replace hv := hv.mod hm8 (by simp)
   replace hn5 := hn5.mod hm8 (by simp)
   replace hd5 := hd5.mod hm8 (by simp)
   replace hb5 := Blk.far hb5 hm8 (by first | exact hne_g5_g7 | exact (hne_g7_g5).symm)
   replace hb4 := Blk.far hb4 hm8 (by first | exact hne_g4_g7 | exact (hne_g7_g4).symm)
   replace hbd := hbd.gr hm8
   replace hm0 := hm0.old1 hm8 hge_g7
   replace hn17 := hn17.mod hm8 (by simp)
   replace hd17 := hd17.mod hm8 (by simp)
   clear hm8
   replace hb7 := hb7'; clear hb7'
   refine L.nil <| X.seq <| W.drawW (T := [9]) rfl (by decide +kernel) (NoHang.block (NoHang.then (NoHang.next (NoHang.block (NoHang.then NoHang.post))))) (fun w9 hm9 => ?_)
   replace ht := ht.gr hm9
   replace hv := hv.gr hm9
   replace hn5 := hn5.gr hm9
   replace hd5 := hd5.gr hm9
   replace hb5 := Blk.gr hb5 hm9
   replace hb4 := Blk.gr hb4 hm9
   replace hbd := hbd.gr hm9
   replace hm0 := hm0.trans hm9
   replace hn17 := hn17.gr hm9
   replace hd17 := hd17.gr hm9
   replace hb7 := Blk.gr hb7 hm9
   have hS1 : Mod [] w9 w9 := Mod.refl _ _
   clear hm9
   have hb5_s := hb5
   have hb7_s := hb7
   refine D.take 0 rfl (by decide +kernel) (fun w_ hS => (R1.loadBox rfl (Blk.gr hb5_s hS) tyG31)) hS1 rfl <| D.take 1 rfl (by decide +kernel) (fun w_ hS => (R1.fieldAt rfl tyF46_1)) hS1 rfl <| D.take 2 rfl (by decide +kernel) (fun w_ hS => (R1.loadBoxAt (ds := [.bool z17.c.s, .slice A17 z17.c.n.length c17, .slice B17 z17.c.d.length e17]) rfl (Blk.gr hb7_s hS) rfl tyG31)) hS1 rfl <| D.take 3 rfl (by decide +kernel) (fun w_ hS => (R1.move rfl)) hS1 rfl <| D.take 4 rfl (by decide +kernel) (fun w_ hS => (R1.fieldAt rfl tyF46_0)) hS1 rfl <| D.take 5 rfl (by decide +kernel) (fun w_ hS => (R1.loadFld rfl (Blk.gr hb7_s hS) rfl tyP3)) hS1 rfl <| D.one 6 rfl (by decide +kernel) (fun hX => ?_)
   refine L.call rfl (c_aff_value hv hbd hsv) rfl ?_
   rintro _ w10 ⟨⟨A24, c24, B24, e24, rfl, hn24, hd24⟩, hm10⟩
   replace ht := ht.gr hm10
   replace hv := hv.gr hm10
   replace hn5 := hn5.gr hm10
   replace hd5 := hd5.gr hm10
   replace hb5 := Blk.gr hb5 hm10
   replace hb4 := Blk.gr hb4 hm10
   replace hbd := hbd.gr hm10
   replace hm0 := hm0.trans hm10
   replace hn17 := hn17.gr hm10
   replace hd17 := hd17.gr hm10
   replace hS1 := hS1.trans hm10
   clear hm10
   have F24 : Fit (valOf val z17.v) 10001 := valOf_fit hv hsv _
   refine L.nil (hX _ _ ⟨.inr hS1, ?_⟩)
   refine D.one 7 rfl (by decide +kernel) (fun hX => ?_)
   refine L.call rfl (c_rat_Mul (qa := (QR.val z17.c)) (qb := (valOf val z17.v)) rfl (rv_toL _) hn17 hd17 hn24 hd24 hbd (Nat.le_trans (hsm.2.2 _ (List.mem_of_getElem? hz17)).1 (by decide)) (Nat.le_trans (hsm.2.2 _ (List.mem_of_getElem? hz17)).2 (by decide)) (Nat.le_trans F24.1 (by decide)) (Nat.le_trans F24.2 (by decide))) rfl ?_
   rintro _ w11 ⟨⟨A25, c25, B25, e25, rfl, hn25, hd25⟩, hm11⟩
   replace ht := ht.gr hm11
   replace hv := hv.gr hm11
   replace hn5 := hn5.gr hm11
   replace hd5 := hd5.gr hm11
   replace hb5 := Blk.gr hb5 hm11
   replace hb4 := Blk.gr hb4 hm11
   replace hbd := hbd.gr hm11
   replace hm0 := hm0.trans hm11
   replace hS1 := hS1.trans hm11
   clear hm11
   have F25 := Fit.mul F17 F24
   refine L.nil (hX _ _ ⟨.inr hS1, ?_⟩)
   refine D.one 8 rfl (by decide +kernel) (fun hX => ?_)
   refine L.call rfl (c_rat_Add (qa := x) (qb := ((QR.val z17.c) * (valOf val z17.v))) (rv_toL _) (rv_toL _) hn5 hd5 hn25 hd25 hbd (Nat.le_trans Fx.1 (by omega)) (Nat.le_trans Fx.2 (by omega)) (Nat.le_trans F25.1 (by decide)) (Nat.le_trans F25.2 (by decide))) rfl ?_
   rintro _ w12 ⟨⟨A26, c26, B26, e26, rfl, hn26, hd26⟩, hm12⟩
   replace ht := ht.gr hm12
   replace hv := hv.gr hm12
   replace hb5 := Blk.gr hb5 hm12
   replace hb4 := Blk.gr hb4 hm12
   replace hbd := hbd.gr hm12
   replace hm0 := hm0.trans hm12
   replace hS1 := hS1.trans hm12
   clear hm12
   have F26 := Fit.add Fx F25
   refine L.nil (hX _ _ ⟨.inr hS1, ?_⟩)
   refine D.one 9 rfl (by decide +kernel) (fun hX => ?_)
   refine L.storeBox rfl rfl hb5 rfl rfl tyG31 ?_
   intro w13 hb5' hm13
   replace ht := ht.mod hm13 (by simp)
   replace hv := hv.mod hm13 (by simp)
   replace hb4 := Blk.far hb4 hm13 (by first | exact hne_g4_g5 | exact (hne_g5_g4).symm)
   replace hbd := hbd.gr hm13
   replace hm0 := hm0.old1 hm13 hge_g5
   replace hn26 := hn26.mod hm13 (by simp)
   replace hd26 := hd26.mod hm13 (by simp)
   clear hm13
   replace hb5 := hb5'; clear hb5'
   refine L.nil (hX _ _ ⟨.inl rfl, ?_⟩)
   refine D.done (by decide +kernel) ?_ _
   refine X.blockEnd <| X.seq <| W.region <| L.v (R1.addI (b := 1) rfl rfl (by omega)) rfl <| L.v (R1.move rfl) rfl <| L.nil <| X.next (i + 1, x + QR.val z17.c * valOf val z17.v, A26, c26, B26, e26) ?_ ?_ ?_
   · exact ⟨rfl, rfl, rfl, rfl, rfl, rfl, trivial⟩
   ·
    exact ⟨ht.sub (by intro b hb; first | exact hb | (simp only [mq] at hb ⊢; grind)), hv.sub (by intro b hb; first | exact hb | (simp only [mq] at hb ⊢; grind)), hn26.sub (by intro b hb; first | exact hb | (simp only [mq] at hb ⊢; grind)), hd26.sub (by intro b hb; first | exact hb | (simp only [mq] at hb ⊢; grind)), hb5, hb4, hge_g5, hge_g4, hne_g4_g5, by omega, Fit.mono F26 (by omega), by rw [atG_snoc hz17, ← hx], hbd.sub (by intro b hb; first | exact hb | (simp only [mq] at hb ⊢; grind)), hm0⟩
   · first | omega | (dsimp only; omega)
  ·
   intro hc15
   try simp only [bq, ne_eq] at hc15
   obtain rfl : i = c.ts.length := by omega
   rw [List.take_length] at hx
   refine W.exit <| X.thenExit <| X.nextExit <| X.here <| X.seq <| W.seq <| W.region <| L.v (R1.loadBox rfl hb5 tyG31) rfl <| L.storeBox rfl rfl hb4 rfl rfl tyG31 ?_
   intro w14 hb4' hm14
   replace hn5 := hn5.mod hm14 (by simp)
   replace hd5 := hd5.mod hm14 (by simp)
   replace hm0 := hm0.old1 hm14 hge_g4
   clear hm14
   replace hb4 := hb4'; clear hb4'
   refine L.nil <| X.seq <| W.ret <| X.result1 rfl (.cell rfl (loadVar_blk hb4 tyG31) .nil) ?_
   exact ⟨by rw [← hx]; exact RN.mk rfl (hn5.sub (by intro b hb; first | exact hb | (simp only [mq] at hb ⊢; grind))) (hd5.sub (by intro b hb; first | exact hb | (simp only [mq] at hb ⊢; grind))), hm0⟩

theorem c_ref8_At {M N9 : List Nat} {w : World} {c : CR} {vt vn vd : Value} (ht : Lay rdT N9 w vt c.ts) (h : U32 N9 w vn c.k.n) (k : U32 N9 w vd c.k.d) {N8 : List Nat} {vv : Value} {val : List QR} (hv : Lay rdQ N8 w vv val) (hbd : Bd M w) (hsm : SmC 10000 c) (hsv : ∀ q ∈ val, SmQ 10000 q) :
    Ret Try.prog 29 #[.agg #[.int .i64 c.st, vt, .bool c.k.s, vn, vd], vv] w (fun r w' => RN M w' r (atG val c.ts (QR.val c.k)) ∧ Mod [] w w') := by
 obtain ⟨T9, t9, rfl⟩ := ht.form
 obtain ⟨A9, c9, rfl⟩ := h.form
 obtain ⟨B9, e9, rfl⟩ := k.form
 have hlt := hsm.1
 have FK := fit_sm h k hsm.2.1
 refine Ret.of (vs := [.agg #[.int .i64 c.st, .slice T9 c.ts.length t9, .bool c.k.s, .slice A9 c.k.n.length c9, .slice B9 c.k.d.length e9], vv]) (n := 46) Try.func29 rfl rfl rfl rfl ?_
 have hm0 : Mod [] w w := Mod.refl _ _
 refine W.seq <| W.region <| L.box rfl rfl ?_
 intro g2 w1 hN2
 replace ht := ht.new hN2
 replace h := h.new hN2
 replace k := k.new hN2
 replace hv := hv.new hN2
 replace hbd := hbd.new hN2
 replace hm0 := hm0.trans (hN2.mod.mono (by simp))
 have hb2 := hN2.blk
 clear hN2
 refine L.alloc tyZ31 rfl ?_
 intro g4 w2 hN4
 replace ht := ht.new hN4
 replace h := h.new hN4
 replace k := k.new hN4
 replace hv := hv.new hN4
 replace hbd := hbd.new hN4
 have hge_g4 := New.ge hN4 hm0.size
 replace hm0 := hm0.trans (hN4.mod.mono (by simp))
 have hne_g2_g4 := hb2.ne_ hN4
 replace hb2 := Blk.gr hb2 hN4.mod
 have hb4 := hN4.blk
 clear hN4
 refine L.nil <| X.seq <| W.seq <| W.region <| L.v (R1.fieldAt rfl tyF33_2) rfl <| L.v (R1.loadBoxAt (ds := [.bool c.k.s, .slice A9 c.k.n.length c9, .slice B9 c.k.d.length e9]) rfl hb2 rfl tyG31) rfl <| L.call rfl (c_ref2_Norm (q := (QR.val c.k)) rfl h k hbd (Nat.le_trans hsm.2.1.1 (by decide)) (Nat.le_trans hsm.2.1.2 (by decide))) rfl ?_
 rintro _ w3 ⟨⟨A10, c10, B10, e10, rfl, hn10, hd10⟩, hm3⟩
 replace ht := ht.gr hm3
 replace k := k.gr hm3
 replace hv := hv.gr hm3
 replace hbd := hbd.gr hm3
 replace hm0 := hm0.trans hm3
 replace hb2 := Blk.gr hb2 hm3
 replace hb4 := Blk.gr hb4 hm3
 clear hm3
 have F10 := FK
 refine L.alloc tyZ31 rfl ?_
 intro g5 w4 hN5
 replace ht := ht.new hN5
 replace k := k.new hN5
 replace hv := hv.new hN5
 replace hbd := hbd.new hN5
 have hge_g5 := New.ge hN5 hm0.size
 replace hm0 := hm0.trans (hN5.mod.mono (by simp))
 have hne_g2_g5 := hb2.ne_ hN5
 replace hb2 := Blk.gr hb2 hN5.mod
 have hne_g4_g5 := hb4.ne_ hN5
 replace hb4 := Blk.gr hb4 hN5.mod
 replace hn10 := hn10.new hN5
 replace hd10 := hd10.new hN5
 have hb5 := hN5.blk
 clear hN5
 refine L.storeBox rfl rfl hb5 rfl rfl tyG31 ?_
 intro w5 hb5' hm5
 replace ht := ht.mod hm5 (by simp)
 replace k := k.mod hm5 (by simp)
 replace hv := hv.mod hm5 (by simp)
 replace hbd := hbd.gr hm5
 replace hm0 := hm0.old1 hm5 hge_g5
 replace hb2 := Blk.far hb2 hm5 (by first | exact hne_g2_g5 | exact (hne_g5_g2).symm)
 replace hb4 := Blk.far hb4 hm5 (by first | exact hne_g4_g5 | exact (hne_g5_g4).symm)
 replace hn10 := hn10.mod hm5 (by simp)
 replace hd10 := hd10.mod hm5 (by simp)
 clear hm5
 replace hb5 := hb5'; clear hb5'
 refine L.nil <| X.seq <| W.seq <| W.seq <| W.region <| L.v (R1.assign rfl) rfl <| L.nil <| X.seq <| W.block <| W.loop (ι := Nat × Rat × Option Addr × Nat × Option Addr × Nat) (fun (i, x, A5, c5, B5, e5) => [(1, vv), (2, .pointer (some ⟨g2, 0, none⟩)), (4, .pointer (some ⟨g4, 0, none⟩)), (5, .pointer (some ⟨g5, 0, none⟩)), (6, .int .i64 (i : Int))]) (fun (i, x, A5, c5, B5, e5) w_ => Lay rdT (g5 :: g4 :: N9) w_ (.slice T9 c.ts.length t9) c.ts ∧ Lay rdQ (g5 :: g4 :: N8) w_ vv val ∧ U32 (g5 :: g4 :: M) w_ (.slice A5 (toL x.num.natAbs).length c5) (toL x.num.natAbs) ∧ U32 (g5 :: g4 :: M) w_ (.slice B5 (toL x.den).length e5) (toL x.den) ∧ Blk w_ g5 31 #[.bool (decide (x.num < 0)), .slice A5 (toL x.num.natAbs).length c5, .slice B5 (toL x.den).length e5] ∧ Blk w_ g4 31 #[.bool false, .slice none 0 0, .slice none 0 0] ∧ w.heap.size ≤ g5 ∧ w.heap.size ≤ g4 ∧ g4 ≠ g5 ∧ i ≤ c.ts.length ∧ Fit x (10001 + i * 30000) ∧ x = atG val (c.ts.take i) (QR.val c.k) ∧ Bd (g5 :: g4 :: M) w_ ∧ Mod [] w w_ ∧ Blk w_ g2 33 #[.int .i64 c.st, .slice T9 c.ts.length t9, .bool c.k.s, .slice A9 c.k.n.length c9, .slice B9 c.k.d.length e9] ∧ g2 ≠ g4 ∧ g2 ≠ g5) (fun (i, x, A5, c5, B5, e5) => c.ts.length - i) (0, QR.val c.k, A10, c10, B10, e10) ?_ ?_ ?_
 · exact ⟨rfl, rfl, rfl, rfl, rfl, trivial⟩
 ·
  exact ⟨ht.sub (by intro b hb; first | exact hb | (simp only [mq] at hb ⊢; grind)), hv.sub (by intro b hb; first | exact hb | (simp only [mq] at hb ⊢; grind)), hn10.sub (by intro b hb; first | exact hb | (simp only [mq] at hb ⊢; grind)), hd10.sub (by intro b hb; first | exact hb | (simp only [mq] at hb ⊢; grind)), hb5, hb4, hge_g5, hge_g4, hne_g4_g5, Nat.zero_le _, Fit.mono F10 (by decide), rfl, hbd.sub (by intro b hb; first | exact hb | (simp only [mq] at hb ⊢; grind)), hm0, hb2, hne_g2_g4, hne_g2_g5⟩
 ·
  rintro ⟨i, x, A5, c5, B5, e5⟩ w6 ⟨ht, hv, hn5, hd5, hb5, hb4, hge_g5, hge_g4, hne_g4_g5, hi, Fx, hx, hbd, hm0, hb2, hne_g2_g4, hne_g2_g5⟩
  refine W.seq <| W.seq <| W.region <| L.v (R1.move rfl) rfl <| L.v (R1.fieldAt rfl tyF33_1) rfl <| L.v (R1.loadFld rfl hb2 rfl tyP28) rfl <| L.v (R1.lenLay rfl ht tyS28) rfl <| L.v (R1.lt rfl rfl) rfl <| L.nil <| X.seq <| W.cond rfl ?_ ?_
  ·
   intro hc15
   try simp only [bq, ne_eq] at hc15
   refine W.skip <| X.seq <| W.seq <| W.block <| W.seq <| W.region <| L.v (R1.fieldAt rfl tyF33_1) rfl <| L.v (R1.loadFld rfl hb2 rfl tyP28) rfl <| L.v (R1.move rfl) rfl <| L.v (R1.atLay (j := i) rfl rfl ht tyS28 rfl (by omega)) rfl <| L.v (R1.fieldAddr rfl tyF46_0) rfl ?_
   obtain ⟨z23, cs23, hz23, hE23, ds23, rfl, vn23, vd23, rfl, hn23, hd23⟩ := Lay.elemQ ht (j := i) (by omega)
   obtain ⟨A23, c23, rfl⟩ := hn23.form
   obtain ⟨B23, e23, rfl⟩ := hd23.form
   refine L.v (R1.loadEF rfl hE23 rfl tyP3) rfl <| L.v (R1.assign rfl) rfl <| L.nil <| X.seq <| W.seq <| W.region <| L.v (R1.move rfl) rfl <| L.v ((R1.ge rfl rfl).asB (c := decide (0 ≤ z23.v)) (rfl)) rfl <| L.v (R1.move rfl) rfl ?_
   cases hgd26 : decide (0 ≤ z23.v)
   ·
    simp only [bq] at hgd26
    refine L.off rfl rfl rfl rfl rfl <| L.off rfl rfl rfl rfl rfl <| L.off rfl rfl rfl rfl rfl <| L.off rfl rfl rfl rfl rfl <| L.v (R1.pickF rfl rfl) rfl <| L.nil <| X.seq <| W.condF rfl <| W.skip <| X.blockEnd <| X.seq ?_
    refine W.region <| L.v (R1.move rfl) rfl <| L.v (R1.addI (b := 1) rfl rfl (by omega)) rfl <| L.v (R1.assign rfl) rfl <| L.nil <| X.next (i + 1, x, A5, c5, B5, e5) ?_ ?_ ?_
    · exact ⟨rfl, rfl, rfl, rfl, rfl, trivial⟩
    ·
     exact ⟨ht.sub (by intro b hb; first | exact hb | (simp only [mq] at hb ⊢; grind)), hv.sub (by intro b hb; first | exact hb | (simp only [mq] at hb ⊢; grind)), hn5.sub (by intro b hb; first | exact hb | (simp only [mq] at hb ⊢; grind)), hd5.sub (by intro b hb; first | exact hb | (simp only [mq] at hb ⊢; grind)), hb5, hb4, hge_g5, hge_g4, hne_g4_g5, by omega, Fit.mono Fx (by omega), by rw [atG_snoc hz23, ← hx, valOf_none (by omega), rat_add0], hbd.sub (by intro b hb; first | exact hb | (simp only [mq] at hb ⊢; grind)), hm0, hb2, hne_g2_g4, hne_g2_g5⟩
    · first | omega | (dsimp only; omega)
   ·
    simp only [bq] at hgd26
    refine L.on rfl rfl rfl (R1.move rfl) rfl <| L.on rfl rfl rfl (R1.move rfl) rfl <| L.on rfl rfl rfl (R1.lenLay rfl hv tyS23) rfl <| L.on rfl rfl rfl ((R1.lt rfl rfl).asB (c := decide (z23.v < (val.length : Int))) (rfl)) rfl <| L.v (R1.pickT rfl rfl) rfl <| L.nil <| X.seq <| W.cond rfl ?_ ?_
    ·
     intro hc31
     simp only [bq] at hc31
     refine W.drawW (T := [13]) rfl (by decide +kernel) (NoHang.block (NoHang.then (NoHang.next (NoHang.block (NoHang.then NoHang.post))))) (fun w7 hm7 => ?_)
     replace ht := ht.gr hm7
     replace hv := hv.gr hm7
     replace hn5 := hn5.gr hm7
     replace hd5 := hd5.gr hm7
     replace hb5 := Blk.gr hb5 hm7
     replace hb4 := Blk.gr hb4 hm7
     replace hbd := hbd.gr hm7
     replace hm0 := hm0.trans hm7
     replace hb2 := Blk.gr hb2 hm7
     have hS1 : Mod [] w7 w7 := Mod.refl _ _
     clear hm7
     have hb5_s := hb5
     have hb2_s := hb2
     refine D.take 0 rfl (by decide +kernel) (fun w_ hS => (R1.loadBox rfl (Blk.gr hb5_s hS) tyG31)) hS1 rfl <| D.take 1 rfl (by decide +kernel) (fun w_ hS => (R1.fieldAt rfl tyF33_1)) hS1 rfl <| D.take 2 rfl (by decide +kernel) (fun w_ hS => (R1.loadFld rfl (Blk.gr hb2_s hS) rfl tyP28)) hS1 rfl <| D.take 3 rfl (by decide +kernel) (fun w_ hS => (R1.move rfl)) hS1 rfl <| D.take 4 rfl (by decide +kernel) (fun w_ hS => (R1.atLay (j := i) rfl rfl (Lay.gr ht hS) tyS28 rfl (by omega))) hS1 rfl <| D.take 5 rfl (by decide +kernel) (fun w_ hS => (R1.fieldAddr rfl tyF46_1)) hS1 rfl ?_
     obtain ⟨z38, cs38, hz38, hE38, ds38, rfl, vn38, vd38, rfl, hn38, hd38⟩ := Lay.elemQ ht (j := i) (by omega)
     obtain ⟨A38, c38, rfl⟩ := hn38.form
     obtain ⟨B38, e38, rfl⟩ := hd38.form
     obtain rfl : z23 = z38 := by have h9 := hz38; rw [hz23] at h9; injection h9
     refine D.take 6 rfl (by decide +kernel) (fun w_ hS => (R1.loadEA (ds := [.bool z23.c.s, .slice A38 z23.c.n.length c38, .slice B38 z23.c.d.length e38]) rfl (SlE.gr hE38 hS) rfl tyG31)) hS1 rfl ?_
     have F38 := fit_sm hn38 hd38 (hsm.2.2 _ (List.mem_of_getElem? hz38))
     refine D.take 7 rfl (by decide +kernel) (fun w_ hS => (R1.move rfl)) hS1 rfl <| D.take 8 rfl (by decide +kernel) (fun w_ hS => (R1.move rfl)) hS1 rfl <| D.take 9 rfl (by decide +kernel) (fun w_ hS => (R1.atLay (j := z23.v.toNat) rfl rfl (Lay.gr hv hS) tyS23 (by omega) (by omega))) hS1 rfl ?_
     obtain ⟨z42, cs42, hz42, hE42, vn42, vd42, rfl, hn42, hd42⟩ := Lay.elemQ hv (j := z23.v.toNat) (by omega)
     obtain ⟨A42, c42, rfl⟩ := hn42.form
     obtain ⟨B42, e42, rfl⟩ := hd42.form
     refine D.take 10 rfl (by decide +kernel) (fun w_ hS => (R1.loadE rfl (SlE.gr hE42 hS) tyG31)) hS1 rfl ?_
     have F42 := fit_sm hn42 hd42 (hsv _ (List.mem_of_getElem? hz42))
     refine D.one 11 rfl (by decide +kernel) (fun hX => ?_)
     refine L.call rfl (c_ref2_Mul (qa := (QR.val z23.c)) (qb := (QR.val z42)) rfl rfl hn38 hd38 hn42 hd42 hbd (Nat.le_trans (hsm.2.2 _ (List.mem_of_getElem? hz38)).1 (by decide)) (Nat.le_trans (hsm.2.2 _ (List.mem_of_getElem? hz38)).2 (by decide)) (Nat.le_trans (hsv _ (List.mem_of_getElem? hz42)).1 (by decide)) (Nat.le_trans (hsv _ (List.mem_of_getElem? hz42)).2 (by decide))) rfl ?_
     rintro _ w8 ⟨⟨A43, c43, B43, e43, rfl, hn43, hd43⟩, hm8⟩
     replace ht := ht.gr hm8
     replace hv := hv.gr hm8
     replace hn5 := hn5.gr hm8
     replace hd5 := hd5.gr hm8
     replace hb5 := Blk.gr hb5 hm8
     replace hb4 := Blk.gr hb4 hm8
     replace hbd := hbd.gr hm8
     replace hm0 := hm0.trans hm8
     replace hb2 := Blk.gr hb2 hm8
     replace hS1 := hS1.trans hm8
     clear hm8
     have F43 := Fit.mul F38 F42
     refine L.nil (hX _ _ ⟨.inr hS1, ?_⟩)
     refine D.one 12 rfl (by decide +kernel) (fun hX => ?_)
     refine L.call rfl (c_ref2_Add (qa := x) (qb := ((QR.val z23.c) * (QR.val z42))) (rv_toL _) (rv_toL _) hn5 hd5 hn43 hd43 hbd (Nat.le_trans Fx.1 (by omega)) (Nat.le_trans Fx.2 (by omega)) (Nat.le_trans F43.1 (by decide)) (Nat.le_trans F43.2 (by decide))) rfl ?_
     rintro _ w9 ⟨⟨A44, c44, B44, e44, rfl, hn44, hd44⟩, hm9⟩
     replace ht := ht.gr hm9
     replace hv := hv.gr hm9
     replace hb5 := Blk.gr hb5 hm9
     replace hb4 := Blk.gr hb4 hm9
     replace hbd := hbd.gr hm9
     replace hm0 := hm0.trans hm9
     replace hb2 := Blk.gr hb2 hm9
     replace hS1 := hS1.trans hm9
     clear hm9
     have F44 := Fit.add Fx F43
     refine L.nil (hX _ _ ⟨.inr hS1, ?_⟩)
     refine D.one 13 rfl (by decide +kernel) (fun hX => ?_)
     refine L.storeBox rfl rfl hb5 rfl rfl tyG31 ?_
     intro w10 hb5' hm10
     replace ht := ht.mod hm10 (by simp)
     replace hv := hv.mod hm10 (by simp)
     replace hb4 := Blk.far hb4 hm10 (by first | exact hne_g4_g5 | exact (hne_g5_g4).symm)
     replace hbd := hbd.gr hm10
     replace hm0 := hm0.old1 hm10 hge_g5
     replace hb2 := Blk.far hb2 hm10 (by first | exact hne_g2_g5 | exact (hne_g5_g2).symm)
     replace hn44 := hn44.mod hm10 (by simp)
     replace hd44 := hd44.mod hm10 (by simp)
     clear hm10
     replace hb5 := hb5'; clear hb5'
     refine L.nil (hX _ _ ⟨.inl rfl, ?_⟩)
     refine D.done (by decide +kernel) ?_ _
     refine X.blockEnd <| X.seq <| W.region <| L.v (R1.move rfl) rfl <| L.v (R1.addI (b := 1) rfl rfl (by omega)) rfl <| L.v (R1.assign rfl) rfl <| L.nil <| X.next (i + 1, x + QR.val z23.c * QR.val z42, A44, c44, B44, e44) ?_ ?_ ?_
     · exact ⟨rfl, rfl, rfl, rfl, rfl, trivial⟩
     ·
      exact ⟨ht.sub (by intro b hb; first | exact hb | (simp only [mq] at hb ⊢; grind)), hv.sub (by intro b hb; first | exact hb | (simp only [mq] at hb ⊢; grind)), hn44.sub (by intro b hb; first | exact hb | (simp only [mq] at hb ⊢; grind)), hd44.sub (by intro b hb; first | exact hb | (simp only [mq] at hb ⊢; grind)), hb5, hb4, hge_g5, hge_g4, hne_g4_g5, by omega, Fit.mono F44 (by omega), by rw [atG_snoc hz23, ← hx, valOf_some (by omega) hz42], hbd.sub (by intro b hb; first | exact hb | (simp only [mq] at hb ⊢; grind)), hm0, hb2, hne_g2_g4, hne_g2_g5⟩
     · first | omega | (dsimp only; omega)
    ·
     intro hc31
     simp only [bq] at hc31
     refine W.skip <| X.blockEnd <| X.seq <| W.region <| L.v (R1.move rfl) rfl <| L.v (R1.addI (b := 1) rfl rfl (by omega)) rfl <| L.v (R1.assign rfl) rfl <| L.nil <| X.next (i + 1, x, A5, c5, B5, e5) ?_ ?_ ?_
     · exact ⟨rfl, rfl, rfl, rfl, rfl, trivial⟩
     ·
      exact ⟨ht.sub (by intro b hb; first | exact hb | (simp only [mq] at hb ⊢; grind)), hv.sub (by intro b hb; first | exact hb | (simp only [mq] at hb ⊢; grind)), hn5.sub (by intro b hb; first | exact hb | (simp only [mq] at hb ⊢; grind)), hd5.sub (by intro b hb; first | exact hb | (simp only [mq] at hb ⊢; grind)), hb5, hb4, hge_g5, hge_g4, hne_g4_g5, by omega, Fit.mono Fx (by omega), by rw [atG_snoc hz23, ← hx, valOf_none (by omega), rat_add0], hbd.sub (by intro b hb; first | exact hb | (simp only [mq] at hb ⊢; grind)), hm0, hb2, hne_g2_g4, hne_g2_g5⟩
     · first | omega | (dsimp only; omega)
  ·
   intro hc15
   try simp only [bq, ne_eq] at hc15
   obtain rfl : i = c.ts.length := by omega
   rw [List.take_length] at hx
   refine W.exit <| X.thenExit <| X.nextExit <| X.here <| X.seq <| W.seq <| W.region <| L.v (R1.loadBox rfl hb5 tyG31) rfl <| L.storeBox rfl rfl hb4 rfl rfl tyG31 ?_
   intro w11 hb4' hm11
   replace hn5 := hn5.mod hm11 (by simp)
   replace hd5 := hd5.mod hm11 (by simp)
   replace hm0 := hm0.old1 hm11 hge_g4
   clear hm11
   replace hb4 := hb4'; clear hb4'
   refine L.nil <| X.seq <| W.ret <| X.result1 rfl (.cell rfl (loadVar_blk hb4 tyG31) .nil) ?_
   exact ⟨by rw [← hx]; exact RN.mk rfl (hn5.sub (by intro b hb; first | exact hb | (simp only [mq] at hb ⊢; grind))) (hd5.sub (by intro b hb; first | exact hb | (simp only [mq] at hb ⊢; grind))), hm0⟩

end Go.Proofs.Ytpnhihljgkohcaa
