/- Walks: what the functions compute. -/
import Derived.Test.YtjeodekhamdcmaaGrC
namespace Go.Proofs.Ytjeodekhamdcmaa
open Go.RowKit
set_option linter.unusedVariables false
set_option linter.unusedSimpArgs false
set_option maxRecDepth 10000

theorem built_C1 (A : Option Addr) (n c : Nat) : Try.prog.built 29 [(1, .slice A n c)] = some #[.int .i64 0, .slice A n c, .bool false, .slice none 0 0, .slice none 0 0] := by kernel_rfl
theorem fillT2 (v1 : Int) (s1 : Bool) (A1 : Option Addr) (n1 c1 : Nat) (B1 : Option Addr) (m1 d1 : Nat) (v2 : Int) (s2 : Bool) (A2 : Option Addr) (n2 c2 : Nat) (B2 : Option Addr) (m2 d2 : Nat) : Instr.fill (fun i => some (i * 4, 4)) ((Array.range (2 * 4)).map ((Value.agg #[.int .i64 0, .bool false, .slice none 0 0, .slice none 0 0]).cells[· % (Value.agg #[.int .i64 0, .bool false, .slice none 0 0, .slice none 0 0]).cells.size]!)) [(0, .agg #[.int .i64 v1, .bool s1, .slice A1 n1 c1, .slice B1 m1 d1]), (1, .agg #[.int .i64 v2, .bool s2, .slice A2 n2 c2, .slice B2 m2 d2])] = some #[.int .i64 v1, .bool s1, .slice A1 n1 c1, .slice B1 m1 d1, .int .i64 v2, .bool s2, .slice A2 n2 c2, .slice B2 m2 d2] := by kernel_rfl
theorem two_join (l : List Nat) (a b : Nat) : (if okW l [a, b] = true then apW l [a, b] else l) = jn l a b := by
  have e : okW l [a, b] = decide (lab l a ≠ lab l b) := by show (decide (lab l a ≠ lab l b) && true) = _; rw [Bool.and_true]
  rw [e]
  by_cases h : lab l a = lab l b
  · rw [if_neg (by simp [h]), jn_same h]
  · rw [if_pos (by simp [h])]; rfl

theorem c_r11_First {M N9 : List Nat} {w : World} {vl : Value} {cs : List CR} {z0 : Int} (hL : Lay rdC N9 w vl cs) (hbd : Bd M w) (hsm : ∀ c ∈ cs, SmC 1099511627776 c) :
    Ret Try.prog 22 #[vl, .int .i64 z0] w (fun x w' => x = .int .i64 (fi (firstW (List.range (held z0)) (wsOf (held z0) cs) 0)) ∧ Mod [] w w') := by
  obtain ⟨TL, tL, rfl⟩ := hL.form
  have hN0 := held_le z0
  obtain ⟨N, hN⟩ : ∃ N, N = held z0 := ⟨_, rfl⟩
  rw [← hN] at hN0 ⊢
  have hmax := hL.max; unfold maxLen at hmax
  refine Ret.of (vs := [.slice TL cs.length tL, .int .i64 z0]) (n := 34) Try.func22 rfl rfl rfl rfl ?_
  have hm0 : Mod [] w w := Mod.refl _ _
  refine W.seq ?_
  refine W.region ?_
  refine L.v (R1.assign rfl) rfl ?_
  refine L.nil ?_
  refine X.seq ?_
  refine W.seq ?_
  refine W.region ?_
  refine L.v (R1.move rfl) rfl ?_
  refine L.v (R1.maxI rfl rfl) rfl ?_
  refine L.v ((R1.minI rfl rfl).as (j := ((N : Nat) : Int)) (by rw [hN]; unfold held; omega)) rfl ?_
  refine L.v (R1.assign rfl) rfl ?_
  refine L.nil ?_
  refine X.seq ?_
  refine W.seq ?_
  refine W.region ?_
  refine L.v (R1.move rfl) rfl ?_
  refine L.call rfl (c_start hN0) rfl ?_
  rintro v11 w1 ⟨ho, hm1⟩
  replace hL := hL.ownd ho hm1
  replace hbd := hbd.ownd ho hm1
  replace ho := own_less ho hm0.size
  replace hm0 := hm0.trans hm1
  clear hm1
  refine L.v (R1.assign rfl) rfl ?_
  refine L.nil ?_
  refine X.seq ?_
  refine W.seq ?_
  refine W.seq ?_
  refine W.region ?_
  refine L.v (R1.assign rfl) rfl ?_
  refine L.nil ?_
  refine X.seq ?_
  refine W.block ?_
  refine W.loop (ι := Nat) (fun i => [(0, .slice TL cs.length tL), (1, .int .i64 (N : Int)), (5, v11), (6, .int .i64 (i : Int))]) (fun i w_ => i ≤ cs.length ∧ firstW (List.range N) ((wsOf N cs).take i) 0 = none ∧ Lab N (apAll (List.range N) ((wsOf N cs).take i)) ∧ World.ownsRow w_ w.heap.size 3 1 v11 N (ints (apAll (List.range N) ((wsOf N cs).take i))) ∧ Lay rdC (ownL v11 ++ N9) w_ (.slice TL cs.length tL) cs ∧ Bd (ownL v11 ++ M) w_ ∧ Mod [] w w_) (fun i => cs.length - i) 0 ?_ ?_ ?_
  · exact ⟨rfl, rfl, rfl, rfl, trivial⟩
  ·
    exact ⟨Nat.zero_le _, rfl, Lab.start N, ho, hL, hbd, hm0⟩
  ·
    rintro i w2 ⟨hi, hnone, hlab, ho, hL, hbd, hm0⟩
    refine W.seq ?_
    refine W.seq ?_
    refine W.region ?_
    refine L.v (R1.move rfl) rfl ?_
    refine L.v (R1.move rfl) rfl ?_
    refine L.v (R1.lenLay rfl hL tyS23) rfl ?_
    refine L.v (R1.lt rfl rfl) rfl ?_
    refine L.nil ?_
    refine X.seq ?_
    refine W.cond rfl ?_ ?_
    ·
      intro hc15
      try simp only [decide_eq_true_eq, decide_eq_false_iff_not, Bool.not_eq_true', Bool.not_eq_false', Int.not_lt, Int.not_le, ne_eq, Decidable.not_not] at hc15
      refine W.skip ?_
      refine X.seq ?_
      refine W.seq ?_
      refine W.block ?_
      refine W.seq ?_
      refine W.region ?_
      refine L.v (R1.move rfl) rfl ?_
      refine L.v (R1.move rfl) rfl ?_
      refine L.v (R1.atLay (j := i) rfl rfl hL tyS23 rfl (by omega)) rfl ?_
      obtain ⟨z21, cs21, hz21, hE21, vt21, ds21, rfl, ht21, vn21, vd21, rfl, hn21, hd21⟩ := Lay.elemQ hL (j := i) (by omega)
      obtain ⟨T21, t21, rfl⟩ := ht21.form
      obtain ⟨A21, c21, rfl⟩ := hn21.form
      obtain ⟨B21, e21, rfl⟩ := hd21.form
      refine L.v (R1.loadE rfl hE21 tyG29) rfl ?_
      refine L.v (R1.move rfl) rfl ?_
      refine L.call rfl (c_ref8_Is ht21 hn21 hd21 (n := (N : Int)) (by omega) hbd (hsm _ (List.mem_of_getElem? hz21))) rfl ?_
      rintro _ w3 ⟨rfl, hm3⟩
      replace hL := hL.gr hm3
      replace hbd := hbd.gr hm3
      replace hm0 := hm0.trans hm3
      replace ho := own_gr ho hm3 (by simp)
      replace ht21 := ht21.gr hm3
      replace hn21 := hn21.gr hm3
      replace hd21 := hd21.gr hm3
      clear hm3
      refine L.v (R1.move rfl) rfl ?_
      cases hgd24 : (isC z21 (N : Int))
      ·
        have hcc_ := hgd24
        refine L.off rfl rfl rfl rfl rfl ?_
        refine L.off rfl rfl rfl rfl rfl ?_
        refine L.off rfl rfl rfl rfl rfl ?_
        refine L.off rfl rfl rfl rfl rfl ?_
        refine L.off rfl rfl rfl rfl rfl ?_
        refine L.off rfl rfl rfl rfl rfl ?_
        refine L.off rfl rfl rfl rfl rfl ?_
        refine L.v (R1.pickF rfl rfl) rfl ?_
        refine L.nil ?_
        refine X.seq ?_
        refine W.condF rfl ?_
        refine W.skip ?_
        refine X.blockEnd ?_
        refine X.seq ?_
        refine W.region ?_
        refine L.v (R1.move rfl) rfl ?_
        refine L.v (R1.addI (b := 1) rfl rfl (by omega)) rfl ?_
        refine L.v (R1.assign rfl) rfl ?_
        refine L.nil ?_
        refine X.next (i + 1) ?_ ?_ ?_
        · exact ⟨rfl, rfl, rfl, rfl, trivial⟩
        ·
          have hok : okW (apAll (List.range N) ((wsOf N cs).take i)) (wOf N z21) = true := by
            first | (rw [wOf, if_pos hgd24]; exact hc32) | (rw [wOf, if_neg (by rw [hgd24]; decide)]; rfl)
          refine ⟨by omega, first_on hz21 hnone hok, ?_, ?_, hL, hbd, hm0⟩
          · rw [ws_take hz21, apAll_snoc]; exact hlab.apW wOf_lt
          · rw [ws_take hz21, apAll_snoc]
            first | (rw [wOf, if_pos hgd24]; rw [if_pos hc32] at ho; exact ho) | (rw [wOf, if_neg (by rw [hgd24]; decide)]; exact ho)
        · first | omega | (dsimp only; omega)
      ·
        have hcc_ := hgd24
        refine L.on rfl rfl rfl (R1.move rfl) rfl ?_
        refine L.on rfl rfl rfl (R1.move rfl) rfl ?_
        refine L.on rfl rfl rfl (R1.move rfl) rfl ?_
        refine L.on rfl rfl rfl (R1.atLay (j := i) rfl rfl hL tyS23 rfl (by omega)) rfl ?_
        obtain ⟨z29, cs29, hz29, hE29, vt29, ds29, rfl, ht29, vn29, vd29, rfl, hn29, hd29⟩ := Lay.elemQ hL (j := i) (by omega)
        obtain ⟨T29, t29, rfl⟩ := ht29.form
        obtain ⟨A29, c29, rfl⟩ := hn29.form
        obtain ⟨B29, e29, rfl⟩ := hd29.form
        obtain rfl : z21 = z29 := by have h9 := hz29; rw [hz21] at h9; injection h9
        refine L.on rfl rfl rfl (R1.loadE rfl hE29 tyG29) rfl ?_
        refine L.callOn rfl rfl rfl rfl (c_join (c := z21) ho hlab (isC_all hgd24) hN0 ht29) rfl ?_
        rintro _ w4 ⟨rfl, ho30, hm4⟩
        replace hL := hL.mod hm4 (by first | exact mem_own | (intro b hb; simp [hb]))
        replace hbd := hbd.gr hm4
        replace hm0 := Mod.oldOwn hm0 hm4 ho
        replace ht21 := ht21.mod hm4 (by first | exact mem_own | (intro b hb; simp [hb]))
        replace hn21 := hn21.mod hm4 (by first | exact mem_own | (intro b hb; simp [hb]))
        replace hd21 := hd21.mod hm4 (by first | exact mem_own | (intro b hb; simp [hb]))
        replace ht29 := ht29.mod hm4 (by first | exact mem_own | (intro b hb; simp [hb]))
        replace hn29 := hn29.mod hm4 (by first | exact mem_own | (intro b hb; simp [hb]))
        replace hd29 := hd29.mod hm4 (by first | exact mem_own | (intro b hb; simp [hb]))
        clear hm4
        replace ho := ho30
        clear ho30
        refine L.on rfl rfl rfl (R1.not rfl) rfl ?_
        refine L.v (R1.pickT rfl rfl) rfl ?_
        refine L.nil ?_
        refine X.seq ?_
        refine W.cond rfl ?_ ?_
        ·
          intro hc32
          simp only [Bool.not_eq_true', Bool.not_eq_false'] at hc32
          refine W.seq ?_
          refine W.region ?_
          refine L.v (R1.move rfl) rfl ?_
          refine L.v (R1.assign rfl) rfl ?_
          refine L.nil ?_
          refine X.seq ?_
          refine W.ret ?_
          refine X.blockRet ?_
          refine X.thenRet ?_
          refine X.nextRet ?_
          refine X.blockRet ?_
          refine X.thenRet ?_
          refine X.result1 rfl (.tmp rfl .nil) ?_
          refine ⟨?_, hm0⟩
          rw [first_found hz21 hnone (by rw [wOf, if_pos hgd24]; exact hc32)]; rfl
        ·
          intro hc32
          simp only [Bool.not_eq_true', Bool.not_eq_false'] at hc32
          refine W.skip ?_
          refine X.blockEnd ?_
          refine X.seq ?_
          refine W.region ?_
          refine L.v (R1.move rfl) rfl ?_
          refine L.v (R1.addI (b := 1) rfl rfl (by omega)) rfl ?_
          refine L.v (R1.assign rfl) rfl ?_
          refine L.nil ?_
          refine X.next (i + 1) ?_ ?_ ?_
          · exact ⟨rfl, rfl, rfl, rfl, trivial⟩
          ·
            have hok : okW (apAll (List.range N) ((wsOf N cs).take i)) (wOf N z21) = true := by
              first | (rw [wOf, if_pos hgd24]; exact hc32) | (rw [wOf, if_neg (by rw [hgd24]; decide)]; rfl)
            refine ⟨by omega, first_on hz21 hnone hok, ?_, ?_, hL, hbd, hm0⟩
            · rw [ws_take hz21, apAll_snoc]; exact hlab.apW wOf_lt
            · rw [ws_take hz21, apAll_snoc]
              first | (rw [wOf, if_pos hgd24]; rw [if_pos hc32] at ho; exact ho) | (rw [wOf, if_neg (by rw [hgd24]; decide)]; exact ho)
          · first | omega | (dsimp only; omega)
    ·
      intro hc15
      try simp only [decide_eq_true_eq, decide_eq_false_iff_not, Bool.not_eq_true', Bool.not_eq_false', Int.not_lt, Int.not_le, ne_eq, Decidable.not_not] at hc15
      obtain rfl : i = cs.length := by omega
      refine W.exit ?_
      refine X.thenExit ?_
      refine X.nextExit ?_
      refine X.here ?_
      refine X.seq ?_
      refine W.seq ?_
      refine W.region ?_
      refine L.v (R1.assign rfl) rfl ?_
      refine L.nil ?_
      refine X.seq ?_
      refine W.ret ?_
      refine X.result1 rfl (.tmp rfl .nil) ?_
      refine ⟨?_, hm0⟩
      rw [List.take_of_length_le (by simp [wsOf])] at hnone
      rw [hnone]; rfl

theorem c_r11_Apart {M N9 : List Nat} {w : World} {vl : Value} {cs : List CR} {z0 : Int} (hL : Lay rdC N9 w vl cs) (hbd : Bd M w) (hsm : ∀ c ∈ cs, SmC 1099511627776 c) :
    Ret Try.prog 25 #[vl, .int .i64 z0] w (fun x w' => w'.ownsRow w.heap.size 3 1 x (held z0) (ints (apAll (List.range (held z0)) (wsOf (held z0) cs))) ∧ Mod [] w w') := by
  obtain ⟨TL, tL, rfl⟩ := hL.form
  have hN0 := held_le z0
  obtain ⟨N, hN⟩ : ∃ N, N = held z0 := ⟨_, rfl⟩
  rw [← hN] at hN0 ⊢
  have hmax := hL.max; unfold maxLen at hmax
  refine Ret.of (vs := [.slice TL cs.length tL, .int .i64 z0]) (n := 58) Try.func25 rfl rfl rfl rfl ?_
  have hm0 : Mod [] w w := Mod.refl _ _
  refine W.seq ?_
  refine W.region ?_
  refine L.v (R1.assign rfl) rfl ?_
  refine L.nil ?_
  refine X.seq ?_
  refine W.seq ?_
  refine W.region ?_
  refine L.v (R1.move rfl) rfl ?_
  refine L.v (R1.maxI rfl rfl) rfl ?_
  refine L.v ((R1.minI rfl rfl).as (j := ((N : Nat) : Int)) (by rw [hN]; unfold held; omega)) rfl ?_
  refine L.v (R1.assign rfl) rfl ?_
  refine L.nil ?_
  refine X.seq ?_
  refine W.seq ?_
  refine W.region ?_
  refine L.v (R1.move rfl) rfl ?_
  refine L.call rfl (c_start hN0) rfl ?_
  rintro v13 w1 ⟨ho, hm1⟩
  replace hL := hL.ownd ho hm1
  replace hbd := hbd.ownd ho hm1
  replace ho := own_less ho hm0.size
  replace hm0 := hm0.trans hm1
  clear hm1
  refine L.v (R1.assign rfl) rfl ?_
  refine L.nil ?_
  refine X.seq ?_
  refine W.seq ?_
  refine W.seq ?_
  refine W.region ?_
  refine L.v (R1.assign rfl) rfl ?_
  refine L.nil ?_
  refine X.seq ?_
  refine W.block ?_
  refine W.loop (ι := Nat) (fun i => [(0, .slice TL cs.length tL), (1, .int .i64 (N : Int)), (5, v13), (6, .int .i64 (i : Int))]) (fun i w_ => i ≤ cs.length ∧ Lab N (apAll (List.range N) ((wsOf N cs).take i)) ∧ World.ownsRow w_ w.heap.size 3 1 v13 N (ints (apAll (List.range N) ((wsOf N cs).take i))) ∧ Lay rdC (ownL v13 ++ N9) w_ (.slice TL cs.length tL) cs ∧ Bd (ownL v13 ++ M) w_ ∧ Mod [] w w_) (fun i => cs.length - i) 0 ?_ ?_ ?_
  · exact ⟨rfl, rfl, rfl, rfl, trivial⟩
  ·
    exact ⟨Nat.zero_le _, Lab.start N, ho, hL, hbd, hm0⟩
  ·
    rintro i w2 ⟨hi, hlab, ho, hL, hbd, hm0⟩
    refine W.seq ?_
    refine W.seq ?_
    refine W.region ?_
    refine L.v (R1.move rfl) rfl ?_
    refine L.v (R1.move rfl) rfl ?_
    refine L.v (R1.lenLay rfl hL tyS23) rfl ?_
    refine L.v (R1.lt rfl rfl) rfl ?_
    refine L.nil ?_
    refine X.seq ?_
    refine W.cond rfl ?_ ?_
    ·
      intro hc17
      try simp only [decide_eq_true_eq, decide_eq_false_iff_not, Bool.not_eq_true', Bool.not_eq_false', Int.not_lt, Int.not_le, ne_eq, Decidable.not_not] at hc17
      refine W.skip ?_
      refine X.seq ?_
      refine W.seq ?_
      refine W.block ?_
      refine W.seq ?_
      refine W.seq ?_
      refine W.region ?_
      refine L.v (R1.move rfl) rfl ?_
      refine L.v (R1.move rfl) rfl ?_
      refine L.v (R1.atLay (j := i) rfl rfl hL tyS23 rfl (by omega)) rfl ?_
      obtain ⟨z23, cs23, hz23, hE23, vt23, ds23, rfl, ht23, vn23, vd23, rfl, hn23, hd23⟩ := Lay.elemQ hL (j := i) (by omega)
      obtain ⟨T23, t23, rfl⟩ := ht23.form
      obtain ⟨A23, c23, rfl⟩ := hn23.form
      obtain ⟨B23, e23, rfl⟩ := hd23.form
      refine L.v (R1.loadE rfl hE23 tyG29) rfl ?_
      refine L.v (R1.move rfl) rfl ?_
      refine L.call rfl (c_ref8_Is ht23 hn23 hd23 (n := (N : Int)) (by omega) hbd (hsm _ (List.mem_of_getElem? hz23))) rfl ?_
      rintro _ w3 ⟨rfl, hm3⟩
      replace hL := hL.gr hm3
      replace hbd := hbd.gr hm3
      replace hm0 := hm0.trans hm3
      replace ho := own_gr ho hm3 (by simp)
      replace ht23 := ht23.gr hm3
      replace hn23 := hn23.gr hm3
      replace hd23 := hd23.gr hm3
      clear hm3
      refine L.v (R1.not rfl) rfl ?_
      refine L.nil ?_
      refine X.seq ?_
      refine W.cond rfl ?_ ?_
      ·
        intro hc26
        simp only [Bool.not_eq_true', Bool.not_eq_false'] at hc26
        refine W.exit ?_
        refine X.thenExit ?_
        refine X.here ?_
        refine X.seq ?_
        refine W.region ?_
        refine L.v (R1.move rfl) rfl ?_
        refine L.v (R1.addI (b := 1) rfl rfl (by omega)) rfl ?_
        refine L.v (R1.assign rfl) rfl ?_
        refine L.nil ?_
        refine X.next (i + 1) ?_ ?_ ?_
        · exact ⟨rfl, rfl, rfl, rfl, trivial⟩
        ·
          rw [ws_take hz23, apAll_snoc]
          refine ⟨by omega, hlab.apW wOf_lt, ?_, hL, hbd, hm0⟩
          rw [wOf]
          first | (rw [if_pos hc26]; rw [hfull] at ho; exact ho) | (rw [if_neg (by rw [hc26]; decide)]; exact ho)
        · first | omega | (dsimp only; omega)
      ·
        intro hc26
        simp only [Bool.not_eq_true', Bool.not_eq_false'] at hc26
        refine W.skip ?_
        refine X.seq ?_
        refine W.seq ?_
        refine W.region ?_
        refine L.v (R1.assign rfl) rfl ?_
        refine L.nil ?_
        refine X.seq ?_
        refine W.block ?_
        have hmxt := ht23.max; unfold maxLen at hmxt
        refine W.loop (ι := Nat) (fun k => [(0, .slice TL cs.length tL), (1, .int .i64 (N : Int)), (5, v13), (6, .int .i64 (i : Int)), (7, .int .i64 (k : Int))]) (fun k w_ => 1 ≤ k ∧ k ≤ max 1 z23.ts.length ∧ Lab N (apW (apAll (List.range N) ((wsOf N cs).take i)) ((vsOf z23).take k)) ∧ World.ownsRow w_ w.heap.size 3 1 v13 N (ints (apW (apAll (List.range N) ((wsOf N cs).take i)) ((vsOf z23).take k))) ∧ Lay rdC (ownL v13 ++ N9) w_ (.slice TL cs.length tL) cs ∧ Bd (ownL v13 ++ M) w_ ∧ Mod [] w w_) (fun k => z23.ts.length + 1 - k) 1 ?_ ?_ ?_
        · exact ⟨rfl, rfl, rfl, rfl, rfl, trivial⟩
        ·
          rw [(take_one_ap _ _).1]
          exact ⟨Nat.le_refl _, by omega, hlab, ho, hL, hbd, hm0⟩
        ·
          rintro k w4 ⟨hk1, hk2, hlk, ho, hL, hbd, hm0⟩
          refine W.seq ?_
          refine W.seq ?_
          refine W.region ?_
          refine L.v (R1.move rfl) rfl ?_
          refine L.v (R1.move rfl) rfl ?_
          refine L.v (R1.move rfl) rfl ?_
          refine L.v (R1.atLay (j := i) rfl rfl hL tyS23 rfl (by omega)) rfl ?_
          refine L.v (R1.fieldAddr rfl tyF29_1) rfl ?_
          obtain ⟨z32, cs32, hz32, hE32, vt32, ds32, rfl, ht32, vn32, vd32, rfl, hn32, hd32⟩ := Lay.elemQ hL (j := i) (by omega)
          obtain ⟨T32, t32, rfl⟩ := ht32.form
          obtain ⟨A32, c32, rfl⟩ := hn32.form
          obtain ⟨B32, e32, rfl⟩ := hd32.form
          obtain rfl : z23 = z32 := by have h9 := hz32; rw [hz23] at h9; injection h9
          refine L.v (R1.loadEF rfl hE32 rfl tyP24) rfl ?_
          refine L.v (R1.lenLay rfl ht32 tyS24) rfl ?_
          refine L.v (R1.lt rfl rfl) rfl ?_
          refine L.nil ?_
          refine X.seq ?_
          refine W.cond rfl ?_ ?_
          ·
            intro hc34
            try simp only [decide_eq_true_eq, decide_eq_false_iff_not, Bool.not_eq_true', Bool.not_eq_false', Int.not_lt, Int.not_le, ne_eq, Decidable.not_not] at hc34
            refine W.skip ?_
            refine X.seq ?_
            refine W.seq ?_
            refine W.block ?_
            refine W.seq ?_
            refine W.drawW (T := [18]) rfl (by decide +kernel) (NoHang.then (NoHang.block (NoHang.then (NoHang.next (NoHang.block (NoHang.block (NoHang.then (NoHang.next (NoHang.block (NoHang.then NoHang.post)))))))))) (fun w5 hm5 => ?_)
            replace hL := hL.gr hm5
            replace hbd := hbd.gr hm5
            replace hm0 := hm0.trans hm5
            replace ho := own_gr ho hm5 (by simp)
            replace ht32 := ht32.gr hm5
            replace hn32 := hn32.gr hm5
            replace hd32 := hd32.gr hm5
            have hS1 : Mod [] w5 w5 := Mod.refl _ _
            clear hm5
            refine D.take 0 rfl (by decide +kernel) (fun w_ hS => (R1.move rfl)) hS1 rfl ?_
            refine D.take 1 rfl (by decide +kernel) (fun w_ hS => (R1.move rfl)) hS1 rfl ?_
            refine D.take 2 rfl (by decide +kernel) (fun w_ hS => (R1.atLay (j := i) rfl rfl (Lay.gr hL hS) tyS23 rfl (by omega))) hS1 rfl ?_
            refine D.take 3 rfl (by decide +kernel) (fun w_ hS => (R1.fieldAddr rfl tyF29_1)) hS1 rfl ?_
            obtain ⟨z41, cs41, hz41, hE41, vt41, ds41, rfl, ht41, vn41, vd41, rfl, hn41, hd41⟩ := Lay.elemQ hL (j := i) (by omega)
            obtain ⟨T41, t41, rfl⟩ := ht41.form
            obtain ⟨A41, c41, rfl⟩ := hn41.form
            obtain ⟨B41, e41, rfl⟩ := hd41.form
            obtain rfl : z23 = z41 := by have h9 := hz41; rw [hz23] at h9; injection h9
            refine D.take 4 rfl (by decide +kernel) (fun w_ hS => (R1.loadEF rfl (SlE.gr hE41 hS) rfl tyP24)) hS1 rfl ?_
            refine D.take 5 rfl (by decide +kernel) (fun w_ hS => (R1.atLay (j := 0) rfl rfl (Lay.gr ht41 hS) tyS24 rfl (by omega))) hS1 rfl ?_
            obtain ⟨z43, cs43, hz43, hE43, ds43, rfl, vn43, vd43, rfl, hn43, hd43⟩ := Lay.elemQ ht41 (j := 0) (by omega)
            obtain ⟨A43, c43, rfl⟩ := hn43.form
            obtain ⟨B43, e43, rfl⟩ := hd43.form
            refine D.take 6 rfl (by decide +kernel) (fun w_ hS => (R1.loadE rfl (SlE.gr hE43 hS) tyG56)) hS1 rfl ?_
            refine D.take 7 rfl (by decide +kernel) (fun w_ hS => (R1.move rfl)) hS1 rfl ?_
            refine D.take 8 rfl (by decide +kernel) (fun w_ hS => (R1.move rfl)) hS1 rfl ?_
            refine D.take 9 rfl (by decide +kernel) (fun w_ hS => (R1.atLay (j := i) rfl rfl (Lay.gr hL hS) tyS23 rfl (by omega))) hS1 rfl ?_
            refine D.take 10 rfl (by decide +kernel) (fun w_ hS => (R1.fieldAddr rfl tyF29_1)) hS1 rfl ?_
            obtain ⟨z48, cs48, hz48, hE48, vt48, ds48, rfl, ht48, vn48, vd48, rfl, hn48, hd48⟩ := Lay.elemQ hL (j := i) (by omega)
            obtain ⟨T48, t48, rfl⟩ := ht48.form
            obtain ⟨A48, c48, rfl⟩ := hn48.form
            obtain ⟨B48, e48, rfl⟩ := hd48.form
            obtain rfl : z23 = z48 := by have h9 := hz48; rw [hz23] at h9; injection h9
            refine D.take 11 rfl (by decide +kernel) (fun w_ hS => (R1.loadEF rfl (SlE.gr hE48 hS) rfl tyP24)) hS1 rfl ?_
            refine D.take 12 rfl (by decide +kernel) (fun w_ hS => (R1.move rfl)) hS1 rfl ?_
            refine D.take 13 rfl (by decide +kernel) (fun w_ hS => (R1.atLay (j := k) rfl rfl (Lay.gr ht48 hS) tyS24 rfl (by omega))) hS1 rfl ?_
            obtain ⟨z51, cs51, hz51, hE51, ds51, rfl, vn51, vd51, rfl, hn51, hd51⟩ := Lay.elemQ ht48 (j := k) (by omega)
            obtain ⟨A51, c51, rfl⟩ := hn51.form
            obtain ⟨B51, e51, rfl⟩ := hd51.form
            refine D.take 14 rfl (by decide +kernel) (fun w_ hS => (R1.loadE rfl (SlE.gr hE51 hS) tyG56)) hS1 rfl ?_
            refine D.many (rs := [15, 17]) (by decide +kernel) rfl ?_
            intro i_ hi_
            simp only [List.mem_cons, List.not_mem_nil, or_false] at hi_
            rcases hi_ with rfl | rfl
            ·
              refine ⟨_, rfl, fun hX => ?_⟩
              refine L.buildSlice (cells := [.int .i64 z43.v, .bool z43.c.s, .slice A43 z43.c.n.length c43, .slice B43 z43.c.d.length e43, .int .i64 z51.v, .bool z51.c.s, .slice A51 z51.c.n.length c51, .slice B51 z51.c.d.length e51]) rfl tyS24 tyZ56 (fillT2 _ _ _ _ _ _ _ _ _ _ _ _ _ _ _ _) (by decide) (by decide) rfl ?_
              intro g52 w6 hN52
              have hgs_g52 := New.ge hN52 hS1.size
              replace hS1 := hS1.trans hN52.mod
              replace hL := hL.new hN52
              replace hbd := hbd.new hN52
              have hge_g52 := New.ge hN52 hm0.size
              replace hm0 := hm0.trans (hN52.mod.mono (by simp))
              have hno_ho_g52 := own_ne_new ho hN52
              replace ho := own_gr ho hN52.mod (by simp)
              replace ht32 := ht32.new hN52
              replace hn32 := hn32.new hN52
              replace hd32 := hd32.new hN52
              replace ht41 := ht41.new hN52
              replace hn41 := hn41.new hN52
              replace hd41 := hd41.new hN52
              replace hn43 := hn43.new hN52
              replace hd43 := hd43.new hN52
              replace ht48 := ht48.new hN52
              replace hn48 := hn48.new hN52
              replace hd48 := hd48.new hN52
              replace hn51 := hn51.new hN52
              replace hd51 := hd51.new hN52
              have hb52 := hN52.blk
              clear hN52
              refine L.nil (hX _ _ ⟨.inr hS1, ?_⟩)
              first
                | (have hT52_ : Lay rdT (g8 :: (ownL v13 ++ [])) w6 (.slice (some ⟨g52, 0, none⟩) 2 2) [z43, z51] := Lay.of_blk (css := [[.int .i64 z43.v, .bool z43.c.s, .slice A43 z43.c.n.length c43, .slice B43 z43.c.d.length e43], [.int .i64 z51.v, .bool z51.c.s, .slice A51 z51.c.n.length c51, .slice B51 z51.c.d.length e51]]) hb52 ((LayL.one _ z43 (rdT_mk (hn43.sub (by intro b hb; simp at hb; rcases hb with hb | hb <;> simp [hb])) (hd43.sub (by intro b hb; simp at hb; rcases hb with hb | hb <;> simp [hb])))).append (LayL.one _ z51 (rdT_mk (hn51.sub (by intro b hb; simp at hb; rcases hb with hb | hb <;> simp [hb])) (hd51.sub (by intro b hb; simp at hb; rcases hb with hb | hb <;> simp [hb]))))) rfl rfl (by decide) (fun h9 => by rcases List.mem_cons.1 h9 with h9 | h9; exact hne_g8_g52 h9.symm; unfold ownL at h9; exact hno_ho_g52 (by simpa using h9)); have hT52 := hT52_; clear hT52_)
                | (have hT52_ : Lay rdT (ownL v13 ++ []) w6 (.slice (some ⟨g52, 0, none⟩) 2 2) [z43, z51] := Lay.of_blk (css := [[.int .i64 z43.v, .bool z43.c.s, .slice A43 z43.c.n.length c43, .slice B43 z43.c.d.length e43], [.int .i64 z51.v, .bool z51.c.s, .slice A51 z51.c.n.length c51, .slice B51 z51.c.d.length e51]]) hb52 ((LayL.one _ z43 (rdT_mk (hn43.sub (by intro b hb; simp at hb; simp [hb])) (hd43.sub (by intro b hb; simp at hb; simp [hb])))).append (LayL.one _ z51 (rdT_mk (hn51.sub (by intro b hb; simp at hb; simp [hb])) (hd51.sub (by intro b hb; simp at hb; simp [hb]))))) rfl rfl (by decide) (fun h9 => hno_ho_g52 (by unfold ownL at h9; simpa using h9)); have hT52 := hT52_; clear hT52_)
              refine D.take 16 rfl (by decide +kernel) (fun w_ hS => (R1.build (vs := [.slice (some ⟨g52, 0, none⟩) 2 2]) rfl (built_C1 _ _ _))) hS1 rfl ?_
              refine D.one 17 rfl (by decide +kernel) (fun hX => ?_)
              refine L.alloc tyZ29 rfl ?_
              intro g8 w7 hN8
              replace hS1 := hS1.trans hN8.mod
              replace hL := hL.new hN8
              replace hbd := hbd.new hN8
              have hge_g8 := New.ge hN8 hm0.size
              replace hm0 := hm0.trans (hN8.mod.mono (by simp))
              have hno_ho_g8 := own_ne_new ho hN8
              replace ho := own_gr ho hN8.mod (by simp)
              replace ht32 := ht32.new hN8
              replace hn32 := hn32.new hN8
              replace hd32 := hd32.new hN8
              replace ht41 := ht41.new hN8
              replace hn41 := hn41.new hN8
              replace hd41 := hd41.new hN8
              replace hn43 := hn43.new hN8
              replace hd43 := hd43.new hN8
              replace ht48 := ht48.new hN8
              replace hn48 := hn48.new hN8
              replace hd48 := hd48.new hN8
              replace hn51 := hn51.new hN8
              replace hd51 := hd51.new hN8
              have hne_g52_g8 := hb52.ne_ hN8
              replace hb52 := Blk.gr hb52 hN8.mod
              replace hT52 := hT52.new hN8
              have hb8 := hN8.blk
              clear hN8
              refine L.nil (hX _ _ ⟨.inr hS1, ?_⟩)
              refine D.one 18 rfl (by decide +kernel) (fun hX => ?_)
              refine L.storeBox rfl rfl hb8 rfl rfl tyG29 ?_
              intro w8 hb8' hm8
              replace hL := hL.mod hm8 (by simp)
              replace hbd := hbd.gr hm8
              replace hm0 := hm0.old1 hm8 hge_g8
              replace ho := own_far ho hm8 hno_ho_g8
              replace ht32 := ht32.mod hm8 (by simp)
              replace hn32 := hn32.mod hm8 (by simp)
              replace hd32 := hd32.mod hm8 (by simp)
              replace ht41 := ht41.mod hm8 (by simp)
              replace hn41 := hn41.mod hm8 (by simp)
              replace hd41 := hd41.mod hm8 (by simp)
              replace hn43 := hn43.mod hm8 (by simp)
              replace hd43 := hd43.mod hm8 (by simp)
              replace ht48 := ht48.mod hm8 (by simp)
              replace hn48 := hn48.mod hm8 (by simp)
              replace hd48 := hd48.mod hm8 (by simp)
              replace hn51 := hn51.mod hm8 (by simp)
              replace hd51 := hd51.mod hm8 (by simp)
              replace hb52 := Blk.far hb52 hm8 (by first | exact hne_g52_g8 | exact (hne_g8_g52).symm)
              replace hT52 := hT52.mod hm8 (by simp)
              clear hm8
              replace hb8 := hb8'; clear hb8'
              refine L.nil (hX _ _ ⟨.inl rfl, ?_⟩)
              refine D.done (by decide +kernel) ?_ _
              refine X.seq ?_
              refine W.region ?_
              refine L.v (R1.move rfl) rfl ?_
              refine L.v (R1.loadBox rfl hb8 tyG29) rfl ?_
              have htwo : ∀ t ∈ [z43, z51], 0 ≤ t.v ∧ t.v < (N : Int) := fun t h9 => by
                rcases List.mem_cons.1 h9 with rfl | h9
                · exact isC_all hc26 _ (List.mem_of_getElem? hz43)
                · rcases List.mem_cons.1 h9 with rfl | h9
                  · exact isC_all hc26 _ (List.mem_of_getElem? hz51)
                  · cases h9
              refine L.call rfl (c_join (N9 := []) (c := ⟨0, [z43, z51], ⟨false, [], []⟩⟩) ho hlk htwo hN0 (hT52.sub (by intro b hb; simp at hb; simp [hb]))) rfl ?_
              rintro _ w9 ⟨_, ho56, hm9⟩
              replace hL := hL.mod hm9 (by first | exact mem_own | (intro b hb; simp [hb]))
              replace hbd := hbd.gr hm9
              replace hm0 := Mod.oldOwn hm0 hm9 ho
              replace ht32 := ht32.mod hm9 (by first | exact mem_own | (intro b hb; simp [hb]))
              replace hn32 := hn32.mod hm9 (by first | exact mem_own | (intro b hb; simp [hb]))
              replace hd32 := hd32.mod hm9 (by first | exact mem_own | (intro b hb; simp [hb]))
              replace ht41 := ht41.mod hm9 (by first | exact mem_own | (intro b hb; simp [hb]))
              replace hn41 := hn41.mod hm9 (by first | exact mem_own | (intro b hb; simp [hb]))
              replace hd41 := hd41.mod hm9 (by first | exact mem_own | (intro b hb; simp [hb]))
              replace hn43 := hn43.mod hm9 (by first | exact mem_own | (intro b hb; simp [hb]))
              replace hd43 := hd43.mod hm9 (by first | exact mem_own | (intro b hb; simp [hb]))
              replace ht48 := ht48.mod hm9 (by first | exact mem_own | (intro b hb; simp [hb]))
              replace hn48 := hn48.mod hm9 (by first | exact mem_own | (intro b hb; simp [hb]))
              replace hd48 := hd48.mod hm9 (by first | exact mem_own | (intro b hb; simp [hb]))
              replace hn51 := hn51.mod hm9 (by first | exact mem_own | (intro b hb; simp [hb]))
              replace hd51 := hd51.mod hm9 (by first | exact mem_own | (intro b hb; simp [hb]))
              replace hb52 := Blk.ownfar hb52 hm9 hno_ho_g52
              replace hT52 := hT52.mod hm9 (by first | exact mem_own | (intro b hb; simp [hb]))
              replace hb8 := Blk.ownfar hb8 hm9 hno_ho_g8
              clear hm9
              replace ho := ho56
              clear ho56
              refine L.nil ?_
              refine X.blockEnd ?_
              refine X.seq ?_
              refine W.region ?_
              refine L.v (R1.move rfl) rfl ?_
              refine L.v (R1.addI (b := 1) rfl rfl (by omega)) rfl ?_
              refine L.v (R1.assign rfl) rfl ?_
              refine L.nil ?_
              refine X.next (k + 1) ?_ ?_ ?_
              · exact ⟨rfl, rfl, rfl, rfl, rfl, trivial⟩
              ·
                have hst := take_step (l := (apAll (List.range N) ((wsOf N cs).take i))) hk1 (vs_get hz43) (vs_get hz51)
                rw [hst.1]
                refine ⟨by omega, by omega, hlk.jn (by have h9 := htwo z43 (by simp); omega) (by have h9 := htwo z51 (by simp); omega), own_congr ho rfl (congrArg ints (two_join _ _ _)), (hL.sub (fun b hb => by simp only [List.mem_append, List.mem_cons] at hb ⊢; rcases hb with hb | hb <;> simp [hb])), (fun m hm => hbd m (by simp only [List.mem_append, List.mem_cons] at hm ⊢; rcases hm with hm | hm <;> simp [hm])), hm0⟩
              · first | omega | (dsimp only; omega)
            ·
              refine ⟨_, rfl, fun hX => ?_⟩
              refine L.alloc tyZ29 rfl ?_
              intro g8 w10 hN8
              replace hS1 := hS1.trans hN8.mod
              replace hL := hL.new hN8
              replace hbd := hbd.new hN8
              have hge_g8 := New.ge hN8 hm0.size
              replace hm0 := hm0.trans (hN8.mod.mono (by simp))
              have hno_ho_g8 := own_ne_new ho hN8
              replace ho := own_gr ho hN8.mod (by simp)
              replace ht32 := ht32.new hN8
              replace hn32 := hn32.new hN8
              replace hd32 := hd32.new hN8
              replace ht41 := ht41.new hN8
              replace hn41 := hn41.new hN8
              replace hd41 := hd41.new hN8
              replace hn43 := hn43.new hN8
              replace hd43 := hd43.new hN8
              replace ht48 := ht48.new hN8
              replace hn48 := hn48.new hN8
              replace hd48 := hd48.new hN8
              replace hn51 := hn51.new hN8
              replace hd51 := hd51.new hN8
              have hb8 := hN8.blk
              clear hN8
              refine L.nil (hX _ _ ⟨.inr hS1, ?_⟩)
              refine D.one 15 rfl (by decide +kernel) (fun hX => ?_)
              refine L.buildSlice (cells := [.int .i64 z43.v, .bool z43.c.s, .slice A43 z43.c.n.length c43, .slice B43 z43.c.d.length e43, .int .i64 z51.v, .bool z51.c.s, .slice A51 z51.c.n.length c51, .slice B51 z51.c.d.length e51]) rfl tyS24 tyZ56 (fillT2 _ _ _ _ _ _ _ _ _ _ _ _ _ _ _ _) (by decide) (by decide) rfl ?_
              intro g52 w11 hN52
              have hgs_g52 := New.ge hN52 hS1.size
              replace hS1 := hS1.trans hN52.mod
              replace hL := hL.new hN52
              replace hbd := hbd.new hN52
              have hge_g52 := New.ge hN52 hm0.size
              replace hm0 := hm0.trans (hN52.mod.mono (by simp))
              have hno_ho_g52 := own_ne_new ho hN52
              replace ho := own_gr ho hN52.mod (by simp)
              replace ht32 := ht32.new hN52
              replace hn32 := hn32.new hN52
              replace hd32 := hd32.new hN52
              replace ht41 := ht41.new hN52
              replace hn41 := hn41.new hN52
              replace hd41 := hd41.new hN52
              replace hn43 := hn43.new hN52
              replace hd43 := hd43.new hN52
              replace ht48 := ht48.new hN52
              replace hn48 := hn48.new hN52
              replace hd48 := hd48.new hN52
              replace hn51 := hn51.new hN52
              replace hd51 := hd51.new hN52
              have hne_g8_g52 := hb8.ne_ hN52
              replace hb8 := Blk.gr hb8 hN52.mod
              have hb52 := hN52.blk
              clear hN52
              refine L.nil (hX _ _ ⟨.inr hS1, ?_⟩)
              first
                | (have hT52_ : Lay rdT (g8 :: (ownL v13 ++ [])) w11 (.slice (some ⟨g52, 0, none⟩) 2 2) [z43, z51] := Lay.of_blk (css := [[.int .i64 z43.v, .bool z43.c.s, .slice A43 z43.c.n.length c43, .slice B43 z43.c.d.length e43], [.int .i64 z51.v, .bool z51.c.s, .slice A51 z51.c.n.length c51, .slice B51 z51.c.d.length e51]]) hb52 ((LayL.one _ z43 (rdT_mk (hn43.sub (by intro b hb; simp at hb; rcases hb with hb | hb <;> simp [hb])) (hd43.sub (by intro b hb; simp at hb; rcases hb with hb | hb <;> simp [hb])))).append (LayL.one _ z51 (rdT_mk (hn51.sub (by intro b hb; simp at hb; rcases hb with hb | hb <;> simp [hb])) (hd51.sub (by intro b hb; simp at hb; rcases hb with hb | hb <;> simp [hb]))))) rfl rfl (by decide) (fun h9 => by rcases List.mem_cons.1 h9 with h9 | h9; exact hne_g8_g52 h9.symm; unfold ownL at h9; exact hno_ho_g52 (by simpa using h9)); have hT52 := hT52_; clear hT52_)
                | (have hT52_ : Lay rdT (ownL v13 ++ []) w11 (.slice (some ⟨g52, 0, none⟩) 2 2) [z43, z51] := Lay.of_blk (css := [[.int .i64 z43.v, .bool z43.c.s, .slice A43 z43.c.n.length c43, .slice B43 z43.c.d.length e43], [.int .i64 z51.v, .bool z51.c.s, .slice A51 z51.c.n.length c51, .slice B51 z51.c.d.length e51]]) hb52 ((LayL.one _ z43 (rdT_mk (hn43.sub (by intro b hb; simp at hb; simp [hb])) (hd43.sub (by intro b hb; simp at hb; simp [hb])))).append (LayL.one _ z51 (rdT_mk (hn51.sub (by intro b hb; simp at hb; simp [hb])) (hd51.sub (by intro b hb; simp at hb; simp [hb]))))) rfl rfl (by decide) (fun h9 => hno_ho_g52 (by unfold ownL at h9; simpa using h9)); have hT52 := hT52_; clear hT52_)
              refine D.take 16 rfl (by decide +kernel) (fun w_ hS => (R1.build (vs := [.slice (some ⟨g52, 0, none⟩) 2 2]) rfl (built_C1 _ _ _))) hS1 rfl ?_
              refine D.one 18 rfl (by decide +kernel) (fun hX => ?_)
              refine L.storeBox rfl rfl hb8 rfl rfl tyG29 ?_
              intro w12 hb8' hm12
              replace hL := hL.mod hm12 (by simp)
              replace hbd := hbd.gr hm12
              replace hm0 := hm0.old1 hm12 hge_g8
              replace ho := own_far ho hm12 hno_ho_g8
              replace ht32 := ht32.mod hm12 (by simp)
              replace hn32 := hn32.mod hm12 (by simp)
              replace hd32 := hd32.mod hm12 (by simp)
              replace ht41 := ht41.mod hm12 (by simp)
              replace hn41 := hn41.mod hm12 (by simp)
              replace hd41 := hd41.mod hm12 (by simp)
              replace hn43 := hn43.mod hm12 (by simp)
              replace hd43 := hd43.mod hm12 (by simp)
              replace ht48 := ht48.mod hm12 (by simp)
              replace hn48 := hn48.mod hm12 (by simp)
              replace hd48 := hd48.mod hm12 (by simp)
              replace hn51 := hn51.mod hm12 (by simp)
              replace hd51 := hd51.mod hm12 (by simp)
              replace hb52 := Blk.far hb52 hm12 (by first | exact hne_g52_g8 | exact (hne_g8_g52).symm)
              replace hT52 := hT52.mod hm12 (by simp)
              clear hm12
              replace hb8 := hb8'; clear hb8'
              refine L.nil (hX _ _ ⟨.inl rfl, ?_⟩)
              refine D.done (by decide +kernel) ?_ _
              refine X.seq ?_
              refine W.region ?_
              refine L.v (R1.move rfl) rfl ?_
              refine L.v (R1.loadBox rfl hb8 tyG29) rfl ?_
              have htwo : ∀ t ∈ [z43, z51], 0 ≤ t.v ∧ t.v < (N : Int) := fun t h9 => by
                rcases List.mem_cons.1 h9 with rfl | h9
                · exact isC_all hc26 _ (List.mem_of_getElem? hz43)
                · rcases List.mem_cons.1 h9 with rfl | h9
                  · exact isC_all hc26 _ (List.mem_of_getElem? hz51)
                  · cases h9
              refine L.call rfl (c_join (N9 := []) (c := ⟨0, [z43, z51], ⟨false, [], []⟩⟩) ho hlk htwo hN0 (hT52.sub (by intro b hb; simp at hb; simp [hb]))) rfl ?_
              rintro _ w13 ⟨_, ho56, hm13⟩
              replace hL := hL.mod hm13 (by first | exact mem_own | (intro b hb; simp [hb]))
              replace hbd := hbd.gr hm13
              replace hm0 := Mod.oldOwn hm0 hm13 ho
              replace ht32 := ht32.mod hm13 (by first | exact mem_own | (intro b hb; simp [hb]))
              replace hn32 := hn32.mod hm13 (by first | exact mem_own | (intro b hb; simp [hb]))
              replace hd32 := hd32.mod hm13 (by first | exact mem_own | (intro b hb; simp [hb]))
              replace ht41 := ht41.mod hm13 (by first | exact mem_own | (intro b hb; simp [hb]))
              replace hn41 := hn41.mod hm13 (by first | exact mem_own | (intro b hb; simp [hb]))
              replace hd41 := hd41.mod hm13 (by first | exact mem_own | (intro b hb; simp [hb]))
              replace hn43 := hn43.mod hm13 (by first | exact mem_own | (intro b hb; simp [hb]))
              replace hd43 := hd43.mod hm13 (by first | exact mem_own | (intro b hb; simp [hb]))
              replace ht48 := ht48.mod hm13 (by first | exact mem_own | (intro b hb; simp [hb]))
              replace hn48 := hn48.mod hm13 (by first | exact mem_own | (intro b hb; simp [hb]))
              replace hd48 := hd48.mod hm13 (by first | exact mem_own | (intro b hb; simp [hb]))
              replace hn51 := hn51.mod hm13 (by first | exact mem_own | (intro b hb; simp [hb]))
              replace hd51 := hd51.mod hm13 (by first | exact mem_own | (intro b hb; simp [hb]))
              replace hb52 := Blk.ownfar hb52 hm13 hno_ho_g52
              replace hT52 := hT52.mod hm13 (by first | exact mem_own | (intro b hb; simp [hb]))
              replace hb8 := Blk.ownfar hb8 hm13 hno_ho_g8
              clear hm13
              replace ho := ho56
              clear ho56
              refine L.nil ?_
              refine X.blockEnd ?_
              refine X.seq ?_
              refine W.region ?_
              refine L.v (R1.move rfl) rfl ?_
              refine L.v (R1.addI (b := 1) rfl rfl (by omega)) rfl ?_
              refine L.v (R1.assign rfl) rfl ?_
              refine L.nil ?_
              refine X.next (k + 1) ?_ ?_ ?_
              · exact ⟨rfl, rfl, rfl, rfl, rfl, trivial⟩
              ·
                have hst := take_step (l := (apAll (List.range N) ((wsOf N cs).take i))) hk1 (vs_get hz43) (vs_get hz51)
                rw [hst.1]
                refine ⟨by omega, by omega, hlk.jn (by have h9 := htwo z43 (by simp); omega) (by have h9 := htwo z51 (by simp); omega), own_congr ho rfl (congrArg ints (two_join _ _ _)), (hL.sub (fun b hb => by simp only [List.mem_append, List.mem_cons] at hb ⊢; rcases hb with hb | hb <;> simp [hb])), (fun m hm => hbd m (by simp only [List.mem_append, List.mem_cons] at hm ⊢; rcases hm with hm | hm <;> simp [hm])), hm0⟩
              · first | omega | (dsimp only; omega)
          ·
            intro hc34
            try simp only [decide_eq_true_eq, decide_eq_false_iff_not, Bool.not_eq_true', Bool.not_eq_false', Int.not_lt, Int.not_le, ne_eq, Decidable.not_not] at hc34
            have hfull : ((vsOf z23).take k) = vsOf z23 := List.take_of_length_le (by simp [vsOf]; omega)
            refine W.exit ?_
            refine X.thenExit ?_
            refine X.nextExit ?_
            refine X.here ?_
            refine X.blockEnd ?_
            refine X.seq ?_
            refine W.region ?_
            refine L.v (R1.move rfl) rfl ?_
            refine L.v (R1.addI (b := 1) rfl rfl (by omega)) rfl ?_
            refine L.v (R1.assign rfl) rfl ?_
            refine L.nil ?_
            refine X.next (i + 1) ?_ ?_ ?_
            · exact ⟨rfl, rfl, rfl, rfl, trivial⟩
            ·
              rw [ws_take hz23, apAll_snoc]
              refine ⟨by omega, hlab.apW wOf_lt, ?_, hL, hbd, hm0⟩
              rw [wOf]
              first | (rw [if_pos hc26]; rw [hfull] at ho; exact ho) | (rw [if_neg (by rw [hc26]; decide)]; exact ho)
            · first | omega | (dsimp only; omega)
    ·
      intro hc17
      try simp only [decide_eq_true_eq, decide_eq_false_iff_not, Bool.not_eq_true', Bool.not_eq_false', Int.not_lt, Int.not_le, ne_eq, Decidable.not_not] at hc17
      obtain rfl : i = cs.length := by omega
      refine W.exit ?_
      refine X.thenExit ?_
      refine X.nextExit ?_
      refine X.here ?_
      refine X.seq ?_
      refine W.seq ?_
      refine W.region ?_
      refine L.v (R1.move rfl) rfl ?_
      refine L.v (R1.assign rfl) rfl ?_
      refine L.nil ?_
      refine X.seq ?_
      refine W.ret ?_
      refine X.result1 rfl (.tmp rfl .nil) ?_
      rw [List.take_of_length_le (by simp [wsOf])] at ho
      exact ⟨ho, hm0⟩

end Go.Proofs.Ytjeodekhamdcmaa
