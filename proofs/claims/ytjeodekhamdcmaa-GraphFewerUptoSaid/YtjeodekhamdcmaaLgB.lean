/- Walks: what the functions compute. -/
import Derived.Test.YtjeodekhamdcmaaLgA
import Derived.Test.YtjeodekhamdcmaaGrD
namespace Go.Proofs.Ytjeodekhamdcmaa
open Go.RowKit
set_option linter.unusedVariables false
set_option linter.unusedSimpArgs false
set_option maxRecDepth 10000

def pairC (a b : Int) : CR := ⟨0, [⟨min a b, QR.nf ((1 : Int) : Rat)⟩, ⟨max a b, QR.nf ((1 : Int) : Rat)⟩], QR.nf ((0 : Int) : Rat)⟩
theorem is_nf (q : Rat) : (QR.nf q).is = true := by
  unfold QR.is isN QR.nf
  simp only [rv_toL]
  simp
theorem nf1_len : (QR.nf ((1 : Int) : Rat)).n.length = 1 := by
  show (toL ((1 : Int) : Rat).num.natAbs).length = 1
  rw [Rat.num_intCast]; exact toL_1
theorem nf_sm {z : Int} (h : z.natAbs < 4294967296) : SmQ 150 (QR.nf ((z : Int) : Rat)) := by
  constructor
  · show (toL ((z : Int) : Rat).num.natAbs).length ≤ 150
    rw [Rat.num_intCast]
    by_cases h0 : z.natAbs = 0
    · rw [h0, toL_zero]; decide
    · rw [toL_small h0 h]; simp
  · show (toL ((z : Int) : Rat).den).length ≤ 150
    rw [Rat.den_intCast, toL_1]; decide
theorem sm_pair (a b : Int) : SmC 150 (pairC a b) := ⟨by show 2 ≤ 150; decide, nf_sm (by decide), fun t ht => by
  rcases List.mem_cons.1 ht with rfl | ht
  · exact nf_sm (by decide)
  · rcases List.mem_cons.1 ht with rfl | ht
    · exact nf_sm (by decide)
    · cases ht⟩
theorem isC_pair {a b n : Int} (ha : 0 ≤ a) (hab : a < b) (hb : b < n) : isC (pairC a b) n = true := by
  unfold isC pairC
  simp only [isT, is_nf, nf1_len]
  rw [show min a b = a by omega, show max a b = b by omega]
  simp
  omega
theorem vs_pair {a b : Nat} (hab : a < b) : vsOf (pairC a b) = [a, b] := by
  unfold vsOf pairC
  simp only [List.map_cons, List.map_nil]
  rw [show (min (a : Int) (b : Int)).toNat = a by omega, show (max (a : Int) (b : Int)).toNat = b by omega]
theorem w_pair {a b n : Nat} (hab : a < b) (hb : b < n) : wOf n (pairC a b) = [a, b] := by
  unfold wOf
  rw [if_pos (isC_pair (by omega) (by omega) (by omega)), vs_pair hab]
theorem known_ws : wsOf 3 [pairC 0 1, pairC 1 2, pairC 0 2] = [[0, 1], [1, 2], [0, 2]] := by
  have h1 := w_pair (a := 0) (b := 1) (n := 3) (by decide) (by decide)
  have h2 := w_pair (a := 1) (b := 2) (n := 3) (by decide) (by decide)
  have h3 := w_pair (a := 0) (b := 2) (n := 3) (by decide) (by decide)
  show [wOf 3 (pairC 0 1), wOf 3 (pairC 1 2), wOf 3 (pairC 0 2)] = _
  exact congr (congrArg List.cons h1) (congr (congrArg List.cons h2) (congrArg (fun x => [x]) h3))
theorem known_first : firstW (List.range (held 3)) (wsOf (held 3) [pairC 0 1, pairC 1 2, pairC 0 2]) 0 = some 2 := by
  rw [show held 3 = 3 from rfl, known_ws]; decide
/-- A sum, as it lies in memory. -/
def RCv (M : List Nat) (w : World) (v : Value) (c : CR) : Prop := ∃ vt vn vd, v = .agg #[.int .i64 c.st, vt, .bool c.k.s, vn, vd] ∧ Lay rdT M w vt c.ts ∧ U32 M w vn c.k.n ∧ U32 M w vd c.k.d


theorem built_T01 (v : Int) (s1 : Bool) (A1 : Option Addr) (n1 c1 : Nat) (B1 : Option Addr) (m1 d1 : Nat) : Try.prog.built 56 [(0, .int .i64 v), (1, .agg #[.bool s1, .slice A1 n1 c1, .slice B1 m1 d1])] = some #[.int .i64 v, .bool s1, .slice A1 n1 c1, .slice B1 m1 d1] := by kernel_rfl
theorem built_C12 (A : Option Addr) (n c : Nat) (s1 : Bool) (A1 : Option Addr) (n1 c1 : Nat) (B1 : Option Addr) (m1 d1 : Nat) : Try.prog.built 29 [(1, .slice A n c), (2, .agg #[.bool s1, .slice A1 n1 c1, .slice B1 m1 d1])] = some #[.int .i64 0, .slice A n c, .bool s1, .slice A1 n1 c1, .slice B1 m1 d1] := by kernel_rfl

theorem fillC1 (v1 : Int) (T1 : Option Addr) (l1 t1 : Nat) (s1 : Bool) (A1 : Option Addr) (n1 c1 : Nat) (B1 : Option Addr) (m1 d1 : Nat) : Instr.fill (fun i => some (i * 5, 5)) ((Array.range (1 * 5)).map ((Value.agg #[.int .i64 0, .slice none 0 0, .bool false, .slice none 0 0, .slice none 0 0]).cells[· % (Value.agg #[.int .i64 0, .slice none 0 0, .bool false, .slice none 0 0, .slice none 0 0]).cells.size]!)) [(0, .agg #[.int .i64 v1, .slice T1 l1 t1, .bool s1, .slice A1 n1 c1, .slice B1 m1 d1])] = some #[.int .i64 v1, .slice T1 l1 t1, .bool s1, .slice A1 n1 c1, .slice B1 m1 d1] := by kernel_rfl
theorem fillC3 (v1 : Int) (T1 : Option Addr) (l1 t1 : Nat) (s1 : Bool) (A1 : Option Addr) (n1 c1 : Nat) (B1 : Option Addr) (m1 d1 : Nat) (v2 : Int) (T2 : Option Addr) (l2 t2 : Nat) (s2 : Bool) (A2 : Option Addr) (n2 c2 : Nat) (B2 : Option Addr) (m2 d2 : Nat) (v3 : Int) (T3 : Option Addr) (l3 t3 : Nat) (s3 : Bool) (A3 : Option Addr) (n3 c3 : Nat) (B3 : Option Addr) (m3 d3 : Nat) : Instr.fill (fun i => some (i * 5, 5)) ((Array.range (3 * 5)).map ((Value.agg #[.int .i64 0, .slice none 0 0, .bool false, .slice none 0 0, .slice none 0 0]).cells[· % (Value.agg #[.int .i64 0, .slice none 0 0, .bool false, .slice none 0 0, .slice none 0 0]).cells.size]!)) [(0, .agg #[.int .i64 v1, .slice T1 l1 t1, .bool s1, .slice A1 n1 c1, .slice B1 m1 d1]), (1, .agg #[.int .i64 v2, .slice T2 l2 t2, .bool s2, .slice A2 n2 c2, .slice B2 m2 d2]), (2, .agg #[.int .i64 v3, .slice T3 l3 t3, .bool s3, .slice A3 n3 c3, .slice B3 m3 d3])] = some #[.int .i64 v1, .slice T1 l1 t1, .bool s1, .slice A1 n1 c1, .slice B1 m1 d1, .int .i64 v2, .slice T2 l2 t2, .bool s2, .slice A2 n2 c2, .slice B2 m2 d2, .int .i64 v3, .slice T3 l3 t3, .bool s3, .slice A3 n3 c3, .slice B3 m3 d3] := by kernel_rfl
theorem c_pair {M : List Nat} {w : World} {a b : Int} (hbd : Bd M w) :
    Ret Try.prog 18 #[.int .i64 a, .int .i64 b] w (fun r w' => RCv M w' r (pairC a b) ∧ Mod [] w w') := by
  have hbd0 := hbd
  refine Ret.of (vs := [.int .i64 a, .int .i64 b]) (n := 20) Try.func18 rfl rfl rfl rfl ?_
  have hm0 : Mod [] w w := Mod.refl _ _
  refine W.seq ?_
  refine W.region ?_
  refine L.alloc tyZ29 rfl ?_
  intro g4 w1 hN4
  replace hbd := hbd.new hN4
  have hge_g4 := New.ge hN4 hm0.size
  replace hm0 := hm0.trans (hN4.mod.mono (by simp))
  have hb4 := hN4.blk
  clear hN4
  refine L.nil ?_
  refine X.seq ?_
  refine W.seq ?_
  refine W.region ?_
  refine L.call rfl (c_ref2_Int (n := 1) (by decide) (by decide) hbd) rfl ?_
  rintro _ w2 ⟨⟨A6, c6, B6, e6, rfl, hn6, hd6⟩, hm2⟩
  replace hbd := hbd.gr hm2
  replace hm0 := hm0.trans hm2
  replace hb4 := Blk.gr hb4 hm2
  clear hm2
  have F6 := Fit.int (n := 1) (by decide) (by decide)
  refine L.alloc tyZ27 rfl ?_
  intro g5 w3 hN5
  replace hbd := hbd.new hN5
  have hge_g5 := New.ge hN5 hm0.size
  replace hm0 := hm0.trans (hN5.mod.mono (by simp))
  have hne_g4_g5 := hb4.ne_ hN5
  replace hb4 := Blk.gr hb4 hN5.mod
  replace hn6 := hn6.new hN5
  replace hd6 := hd6.new hN5
  have hb5 := hN5.blk
  clear hN5
  refine L.storeBox rfl rfl hb5 rfl rfl tyG27 ?_
  intro w4 hb5' hm4
  replace hbd := hbd.gr hm4
  replace hm0 := hm0.old1 hm4 hge_g5
  replace hb4 := Blk.far hb4 hm4 (by first | exact hne_g4_g5 | exact (hne_g5_g4).symm)
  replace hn6 := hn6.mod hm4 (by simp)
  replace hd6 := hd6.mod hm4 (by simp)
  clear hm4
  replace hb5 := hb5'; clear hb5'
  refine L.nil ?_
  refine X.seq ?_
  refine W.seq ?_
  refine W.drawW (T := [13]) rfl (by decide +kernel) (NoHang.then NoHang.post) (fun w5 hm5 => ?_)
  replace hbd := hbd.gr hm5
  replace hm0 := hm0.trans hm5
  replace hb4 := Blk.gr hb4 hm5
  replace hn6 := hn6.gr hm5
  replace hd6 := hd6.gr hm5
  replace hb5 := Blk.gr hb5 hm5
  have hS1 : Mod [] w5 w5 := Mod.refl _ _
  clear hm5
  have hb4_s := hb4
  have hb5_s := hb5
  refine D.take 0 rfl (by decide +kernel) (fun w_ hS => (R1.move rfl)) hS1 rfl ?_
  refine D.take 1 rfl (by decide +kernel) (fun w_ hS => (R1.move rfl)) hS1 rfl ?_
  refine D.take 2 rfl (by decide +kernel) (fun w_ hS => (R1.minI rfl rfl)) hS1 rfl ?_
  refine D.take 3 rfl (by decide +kernel) (fun w_ hS => (R1.loadBox rfl (Blk.gr hb5_s hS) tyG27)) hS1 rfl ?_
  refine D.take 4 rfl (by decide +kernel) (fun w_ hS => (R1.build (vs := [.int .i64 (min a b), .agg #[.bool (decide ((((1 : Int)) : Rat).num < 0)), .slice A6 (toL (((1 : Int)) : Rat).num.natAbs).length c6, .slice B6 (toL (((1 : Int)) : Rat).den).length e6]]) rfl (built_T01 _ _ _ _ _ _ _ _))) hS1 rfl ?_
  refine D.take 5 rfl (by decide +kernel) (fun w_ hS => (R1.move rfl)) hS1 rfl ?_
  refine D.take 6 rfl (by decide +kernel) (fun w_ hS => (R1.move rfl)) hS1 rfl ?_
  refine D.take 7 rfl (by decide +kernel) (fun w_ hS => (R1.maxI rfl rfl)) hS1 rfl ?_
  refine D.take 8 rfl (by decide +kernel) (fun w_ hS => (R1.loadBox rfl (Blk.gr hb5_s hS) tyG27)) hS1 rfl ?_
  refine D.take 9 rfl (by decide +kernel) (fun w_ hS => (R1.build (vs := [.int .i64 (max a b), .agg #[.bool (decide ((((1 : Int)) : Rat).num < 0)), .slice A6 (toL (((1 : Int)) : Rat).num.natAbs).length c6, .slice B6 (toL (((1 : Int)) : Rat).den).length e6]]) rfl (built_T01 _ _ _ _ _ _ _ _))) hS1 rfl ?_
  refine D.many (rs := [10, 11]) (by decide +kernel) rfl ?_
  intro i_ hi_
  simp only [List.mem_cons, List.not_mem_nil, or_false] at hi_
  rcases hi_ with rfl | rfl
  ·
    refine ⟨_, rfl, fun hX => ?_⟩
    refine L.buildSlice (cells := [.int .i64 (min a b), .bool (decide ((((1 : Int)) : Rat).num < 0)), .slice A6 (toL (((1 : Int)) : Rat).num.natAbs).length c6, .slice B6 (toL (((1 : Int)) : Rat).den).length e6, .int .i64 (max a b), .bool (decide ((((1 : Int)) : Rat).num < 0)), .slice A6 (toL (((1 : Int)) : Rat).num.natAbs).length c6, .slice B6 (toL (((1 : Int)) : Rat).den).length e6]) rfl tyS24 tyZ56 (fillT2 _ _ _ _ _ _ _ _ _ _ _ _ _ _ _ _) (by decide) (by decide) rfl ?_
    intro g17 w6 hN17
    have hgs_g17 := New.ge hN17 hS1.size
    replace hS1 := hS1.trans hN17.mod
    replace hbd := hbd.new hN17
    have hge_g17 := New.ge hN17 hm0.size
    replace hm0 := hm0.trans (hN17.mod.mono (by simp))
    have hne_g4_g17 := hb4.ne_ hN17
    replace hb4 := Blk.gr hb4 hN17.mod
    replace hn6 := hn6.new hN17
    replace hd6 := hd6.new hN17
    have hne_g5_g17 := hb5.ne_ hN17
    replace hb5 := Blk.gr hb5 hN17.mod
    have hb17 := hN17.blk
    clear hN17
    refine L.nil (hX _ _ ⟨.inr hS1, ?_⟩)
    have hT17 : Lay rdT (g5 :: g4 :: M) w6 (.slice (some ⟨g17, 0, none⟩) 2 2) (pairC a b).ts := Lay.of_blk (css := [[.int .i64 (min a b), .bool (decide ((((1 : Int)) : Rat).num < 0)), .slice A6 (toL (((1 : Int)) : Rat).num.natAbs).length c6, .slice B6 (toL (((1 : Int)) : Rat).den).length e6], [.int .i64 (max a b), .bool (decide ((((1 : Int)) : Rat).num < 0)), .slice A6 (toL (((1 : Int)) : Rat).num.natAbs).length c6, .slice B6 (toL (((1 : Int)) : Rat).den).length e6]]) hb17 ((LayL.one _ ⟨min a b, QR.nf ((1 : Int) : Rat)⟩ (rdT_mk (hn6.sub (by intro b hb; simp at hb; rcases hb with hb | hb | hb <;> simp [hb])) (hd6.sub (by intro b hb; simp at hb; rcases hb with hb | hb | hb <;> simp [hb])))).append (LayL.one _ ⟨max a b, QR.nf ((1 : Int) : Rat)⟩ (rdT_mk (hn6.sub (by intro b hb; simp at hb; rcases hb with hb | hb | hb <;> simp [hb])) (hd6.sub (by intro b hb; simp at hb; rcases hb with hb | hb | hb <;> simp [hb]))))) rfl rfl (by decide) (fun h9 => by
      rcases List.mem_cons.1 h9 with h9 | h9
      · exact hne_g5_g17 h9.symm
      · rcases List.mem_cons.1 h9 with h9 | h9
        · exact hne_g4_g17 h9.symm
        · exact hbd0.not hge_g17 h9)
    refine D.one 11 rfl (by decide +kernel) (fun hX => ?_)
    refine L.call rfl (c_ref2_Int (n := 0) (by decide) (by decide) hbd) rfl ?_
    rintro _ w7 ⟨⟨A18, c18, B18, e18, rfl, hn18, hd18⟩, hm7⟩
    replace hbd := hbd.gr hm7
    replace hm0 := hm0.trans hm7
    replace hb4 := Blk.gr hb4 hm7
    replace hn6 := hn6.gr hm7
    replace hd6 := hd6.gr hm7
    replace hb5 := Blk.gr hb5 hm7
    replace hb17 := Blk.gr hb17 hm7
    replace hT17 := hT17.gr hm7
    replace hS1 := hS1.trans hm7
    clear hm7
    have F18 := Fit.int (n := 0) (by decide) (by decide)
    refine L.nil (hX _ _ ⟨.inr hS1, ?_⟩)
    refine D.take 12 rfl (by decide +kernel) (fun w_ hS => (R1.build (vs := [.slice (some ⟨g17, 0, none⟩) 2 2, .agg #[.bool (decide ((((0 : Int)) : Rat).num < 0)), .slice A18 (toL (((0 : Int)) : Rat).num.natAbs).length c18, .slice B18 (toL (((0 : Int)) : Rat).den).length e18]]) rfl (built_C12 _ _ _ _ _ _ _ _ _ _))) hS1 rfl ?_
    refine D.one 13 rfl (by decide +kernel) (fun hX => ?_)
    refine L.storeBox rfl rfl hb4 rfl rfl tyG29 ?_
    intro w8 hb4' hm8
    replace hbd := hbd.gr hm8
    replace hm0 := hm0.old1 hm8 hge_g4
    replace hn6 := hn6.mod hm8 (by simp)
    replace hd6 := hd6.mod hm8 (by simp)
    replace hb5 := Blk.far hb5 hm8 (by first | exact hne_g5_g4 | exact (hne_g4_g5).symm)
    replace hb17 := Blk.far hb17 hm8 (by first | exact hne_g17_g4 | exact (hne_g4_g17).symm)
    replace hT17 := hT17.mod hm8 (by simp)
    replace hn18 := hn18.mod hm8 (by simp)
    replace hd18 := hd18.mod hm8 (by simp)
    clear hm8
    replace hb4 := hb4'; clear hb4'
    refine L.nil (hX _ _ ⟨.inl rfl, ?_⟩)
    refine D.done (by decide +kernel) ?_ _
    refine X.seq ?_
    refine W.ret ?_
    refine X.result1 rfl (.cell rfl (loadVar_blk hb4 tyG29) .nil) ?_
    exact ⟨⟨_, _, _, rfl, hT17.sub (by intro b hb; simp [hb]), hn18.sub (by intro b hb; simp [hb]), hd18.sub (by intro b hb; simp [hb])⟩, hm0⟩
  ·
    refine ⟨_, rfl, fun hX => ?_⟩
    refine L.call rfl (c_ref2_Int (n := 0) (by decide) (by decide) hbd) rfl ?_
    rintro _ w9 ⟨⟨A18, c18, B18, e18, rfl, hn18, hd18⟩, hm9⟩
    replace hbd := hbd.gr hm9
    replace hm0 := hm0.trans hm9
    replace hb4 := Blk.gr hb4 hm9
    replace hn6 := hn6.gr hm9
    replace hd6 := hd6.gr hm9
    replace hb5 := Blk.gr hb5 hm9
    replace hS1 := hS1.trans hm9
    clear hm9
    have F18 := Fit.int (n := 0) (by decide) (by decide)
    refine L.nil (hX _ _ ⟨.inr hS1, ?_⟩)
    refine D.one 10 rfl (by decide +kernel) (fun hX => ?_)
    refine L.buildSlice (cells := [.int .i64 (min a b), .bool (decide ((((1 : Int)) : Rat).num < 0)), .slice A6 (toL (((1 : Int)) : Rat).num.natAbs).length c6, .slice B6 (toL (((1 : Int)) : Rat).den).length e6, .int .i64 (max a b), .bool (decide ((((1 : Int)) : Rat).num < 0)), .slice A6 (toL (((1 : Int)) : Rat).num.natAbs).length c6, .slice B6 (toL (((1 : Int)) : Rat).den).length e6]) rfl tyS24 tyZ56 (fillT2 _ _ _ _ _ _ _ _ _ _ _ _ _ _ _ _) (by decide) (by decide) rfl ?_
    intro g17 w10 hN17
    have hgs_g17 := New.ge hN17 hS1.size
    replace hS1 := hS1.trans hN17.mod
    replace hbd := hbd.new hN17
    have hge_g17 := New.ge hN17 hm0.size
    replace hm0 := hm0.trans (hN17.mod.mono (by simp))
    have hne_g4_g17 := hb4.ne_ hN17
    replace hb4 := Blk.gr hb4 hN17.mod
    replace hn6 := hn6.new hN17
    replace hd6 := hd6.new hN17
    have hne_g5_g17 := hb5.ne_ hN17
    replace hb5 := Blk.gr hb5 hN17.mod
    replace hn18 := hn18.new hN17
    replace hd18 := hd18.new hN17
    have hb17 := hN17.blk
    clear hN17
    refine L.nil (hX _ _ ⟨.inr hS1, ?_⟩)
    have hT17 : Lay rdT (g5 :: g4 :: M) w10 (.slice (some ⟨g17, 0, none⟩) 2 2) (pairC a b).ts := Lay.of_blk (css := [[.int .i64 (min a b), .bool (decide ((((1 : Int)) : Rat).num < 0)), .slice A6 (toL (((1 : Int)) : Rat).num.natAbs).length c6, .slice B6 (toL (((1 : Int)) : Rat).den).length e6], [.int .i64 (max a b), .bool (decide ((((1 : Int)) : Rat).num < 0)), .slice A6 (toL (((1 : Int)) : Rat).num.natAbs).length c6, .slice B6 (toL (((1 : Int)) : Rat).den).length e6]]) hb17 ((LayL.one _ ⟨min a b, QR.nf ((1 : Int) : Rat)⟩ (rdT_mk (hn6.sub (by intro b hb; simp at hb; rcases hb with hb | hb | hb <;> simp [hb])) (hd6.sub (by intro b hb; simp at hb; rcases hb with hb | hb | hb <;> simp [hb])))).append (LayL.one _ ⟨max a b, QR.nf ((1 : Int) : Rat)⟩ (rdT_mk (hn6.sub (by intro b hb; simp at hb; rcases hb with hb | hb | hb <;> simp [hb])) (hd6.sub (by intro b hb; simp at hb; rcases hb with hb | hb | hb <;> simp [hb]))))) rfl rfl (by decide) (fun h9 => by
      rcases List.mem_cons.1 h9 with h9 | h9
      · exact hne_g5_g17 h9.symm
      · rcases List.mem_cons.1 h9 with h9 | h9
        · exact hne_g4_g17 h9.symm
        · exact hbd0.not hge_g17 h9)
    refine D.take 12 rfl (by decide +kernel) (fun w_ hS => (R1.build (vs := [.slice (some ⟨g17, 0, none⟩) 2 2, .agg #[.bool (decide ((((0 : Int)) : Rat).num < 0)), .slice A18 (toL (((0 : Int)) : Rat).num.natAbs).length c18, .slice B18 (toL (((0 : Int)) : Rat).den).length e18]]) rfl (built_C12 _ _ _ _ _ _ _ _ _ _))) hS1 rfl ?_
    refine D.one 13 rfl (by decide +kernel) (fun hX => ?_)
    refine L.storeBox rfl rfl hb4 rfl rfl tyG29 ?_
    intro w11 hb4' hm11
    replace hbd := hbd.gr hm11
    replace hm0 := hm0.old1 hm11 hge_g4
    replace hn6 := hn6.mod hm11 (by simp)
    replace hd6 := hd6.mod hm11 (by simp)
    replace hb5 := Blk.far hb5 hm11 (by first | exact hne_g5_g4 | exact (hne_g4_g5).symm)
    replace hn18 := hn18.mod hm11 (by simp)
    replace hd18 := hd18.mod hm11 (by simp)
    replace hb17 := Blk.far hb17 hm11 (by first | exact hne_g17_g4 | exact (hne_g4_g17).symm)
    replace hT17 := hT17.mod hm11 (by simp)
    clear hm11
    replace hb4 := hb4'; clear hb4'
    refine L.nil (hX _ _ ⟨.inl rfl, ?_⟩)
    refine D.done (by decide +kernel) ?_ _
    refine X.seq ?_
    refine W.ret ?_
    refine X.result1 rfl (.cell rfl (loadVar_blk hb4 tyG29) .nil) ?_
    exact ⟨⟨_, _, _, rfl, hT17.sub (by intro b hb; simp [hb]), hn18.sub (by intro b hb; simp [hb]), hd18.sub (by intro b hb; simp [hb])⟩, hm0⟩

theorem c_known11 {w : World} :
    Ret Try.prog 17 #[] w (fun r w' => r = .bool true ∧ Mod [] w w') := by
  have sub0 : ∀ {M8 : List Nat} (b : Nat), b ∈ ([] : List Nat) → b ∈ M8 := fun b h9 => by cases h9
  refine Ret.of (vs := []) (n := 7) Try.func17 rfl rfl rfl rfl ?_
  have hm0 : Mod [] w w := Mod.refl _ _
  refine W.seq ?_
  refine W.region ?_
  refine L.v (R1.assign rfl) rfl ?_
  refine L.nil ?_
  refine X.seq ?_
  refine W.seq ?_
  refine W.region ?_
  refine L.call rfl (c_pair (M := []) (a := 0) (b := 1) (fun m hm => by cases hm)) rfl ?_
  rintro _ w1 ⟨⟨vt1, vn1, vd1, rfl, ht1, hn1, hd1⟩, hm1⟩
  replace hm0 := hm0.trans hm1
  clear hm1
  obtain ⟨T1, t1, rfl⟩ := ht1.form
  obtain ⟨A1, c1, rfl⟩ := hn1.form
  obtain ⟨B1, e1, rfl⟩ := hd1.form
  refine L.call rfl (c_pair (M := []) (a := 1) (b := 2) (fun m hm => by cases hm)) rfl ?_
  rintro _ w2 ⟨⟨vt2, vn2, vd2, rfl, ht2, hn2, hd2⟩, hm2⟩
  replace hm0 := hm0.trans hm2
  replace ht1 := ht1.gr hm2
  replace hn1 := hn1.gr hm2
  replace hd1 := hd1.gr hm2
  clear hm2
  obtain ⟨T2, t2, rfl⟩ := ht2.form
  obtain ⟨A2, c2, rfl⟩ := hn2.form
  obtain ⟨B2, e2, rfl⟩ := hd2.form
  refine L.call rfl (c_pair (M := []) (a := 0) (b := 2) (fun m hm => by cases hm)) rfl ?_
  rintro _ w3 ⟨⟨vt3, vn3, vd3, rfl, ht3, hn3, hd3⟩, hm3⟩
  replace hm0 := hm0.trans hm3
  replace ht1 := ht1.gr hm3
  replace hn1 := hn1.gr hm3
  replace hd1 := hd1.gr hm3
  replace ht2 := ht2.gr hm3
  replace hn2 := hn2.gr hm3
  replace hd2 := hd2.gr hm3
  clear hm3
  obtain ⟨T3, t3, rfl⟩ := ht3.form
  obtain ⟨A3, c3, rfl⟩ := hn3.form
  obtain ⟨B3, e3, rfl⟩ := hd3.form
  refine L.buildSlice (cells := [.int .i64 (pairC 0 1).st, .slice T1 (pairC 0 1).ts.length t1, .bool (pairC 0 1).k.s, .slice A1 (pairC 0 1).k.n.length c1, .slice B1 (pairC 0 1).k.d.length e1, .int .i64 (pairC 1 2).st, .slice T2 (pairC 1 2).ts.length t2, .bool (pairC 1 2).k.s, .slice A2 (pairC 1 2).k.n.length c2, .slice B2 (pairC 1 2).k.d.length e2, .int .i64 (pairC 0 2).st, .slice T3 (pairC 0 2).ts.length t3, .bool (pairC 0 2).k.s, .slice A3 (pairC 0 2).k.n.length c3, .slice B3 (pairC 0 2).k.d.length e3]) rfl tyS23 tyZ29 (fillC3 _ _ _ _ _ _ _ _ _ _ _ _ _ _ _ _ _ _ _ _ _ _ _ _ _ _ _ _ _ _ _ _ _) (by decide) (by decide) rfl ?_
  intro g4 w4 hN4
  have hge_g4 := New.ge hN4 hm0.size
  replace hm0 := hm0.trans (hN4.mod.mono (by simp))
  replace ht1 := ht1.new hN4
  replace hn1 := hn1.new hN4
  replace hd1 := hd1.new hN4
  replace ht2 := ht2.new hN4
  replace hn2 := hn2.new hN4
  replace hd2 := hd2.new hN4
  replace ht3 := ht3.new hN4
  replace hn3 := hn3.new hN4
  replace hd3 := hd3.new hN4
  have hb4 := hN4.blk
  clear hN4
  have hL4 : Lay rdC [] w4 (.slice (some ⟨g4, 0, none⟩) 3 3) [pairC 0 1, pairC 1 2, pairC 0 2] := Lay.of_blk (css := [[.int .i64 (pairC 0 1).st, .slice T1 (pairC 0 1).ts.length t1, .bool (pairC 0 1).k.s, .slice A1 (pairC 0 1).k.n.length c1, .slice B1 (pairC 0 1).k.d.length e1], [.int .i64 (pairC 1 2).st, .slice T2 (pairC 1 2).ts.length t2, .bool (pairC 1 2).k.s, .slice A2 (pairC 1 2).k.n.length c2, .slice B2 (pairC 1 2).k.d.length e2], [.int .i64 (pairC 0 2).st, .slice T3 (pairC 0 2).ts.length t3, .bool (pairC 0 2).k.s, .slice A3 (pairC 0 2).k.n.length c3, .slice B3 (pairC 0 2).k.d.length e3]]) hb4 (((LayL.one _ _ (rdC_mk (ht1.sub sub0) (hn1.sub sub0) (hd1.sub sub0))).append (LayL.one _ _ (rdC_mk (ht2.sub sub0) (hn2.sub sub0) (hd2.sub sub0)))).append (LayL.one _ _ (rdC_mk (ht3.sub sub0) (hn3.sub sub0) (hd3.sub sub0)))) rfl rfl (by decide) (by simp)
  refine L.call rfl (c_First (M := []) (cs := [pairC 0 1, pairC 1 2, pairC 0 2]) (z0 := 3) hL4 (fun m hm => by cases hm) (fun c h9 => by
      have h8 : SmC 150 c := by
        rcases List.mem_cons.1 h9 with rfl | h9
        · exact sm_pair _ _
        · rcases List.mem_cons.1 h9 with rfl | h9
          · exact sm_pair _ _
          · rcases List.mem_cons.1 h9 with rfl | h9
            · exact sm_pair _ _
            · cases h9
      exact h8.mono (by decide))) rfl ?_
  rintro _ w5 ⟨rfl, hm5⟩
  replace hm0 := hm0.trans hm5
  replace ht1 := ht1.gr hm5
  replace hn1 := hn1.gr hm5
  replace hd1 := hd1.gr hm5
  replace ht2 := ht2.gr hm5
  replace hn2 := hn2.gr hm5
  replace hd2 := hd2.gr hm5
  replace ht3 := ht3.gr hm5
  replace hn3 := hn3.gr hm5
  replace hd3 := hd3.gr hm5
  replace hb4 := Blk.gr hb4 hm5
  replace hL4 := hL4.gr hm5
  clear hm5
  refine L.v ((R1.eq rfl rfl).asB (c := true) (by rw [known_first]; rfl)) rfl ?_
  refine L.v (R1.assign rfl) rfl ?_
  refine L.nil ?_
  refine X.seq ?_
  refine W.ret ?_
  refine X.result1 rfl (.tmp rfl .nil) ?_
  exact ⟨rfl, hm0⟩

end Go.Proofs.Ytjeodekhamdcmaa
