/- Walks: what the functions compute. -/
import Derived.Test.YtjeodekhamdcmaaLgB
namespace Go.Proofs.Ytjeodekhamdcmaa
open Go.RowKit
set_option linter.unusedVariables false
set_option linter.unusedSimpArgs false
set_option maxRecDepth 10000

theorem ws_reverse (n : Nat) (cs : List CR) : wsOf n cs.reverse = (wsOf n cs).reverse := by unfold wsOf; rw [List.map_reverse]
theorem first_rev (n : Nat) (cs : List CR) : (firstW (List.range n) (wsOf n cs.reverse) 0 = none) = (firstW (List.range n) (wsOf n cs) 0 = none) := by
  rw [ws_reverse]
  exact propext (firstW_perm (List.reverse_perm _) (fun w hw => wsOf_in n cs w (by simpa using hw)) 0 0)
theorem apart_rev (n : Nat) (cs : List CR) : apAll (List.range n) (wsOf n cs) = apAll (List.range n) (wsOf n cs.reverse) := by
  rw [ws_reverse]
  exact apAll_same (wsOf_in n cs) (fun w hw => wsOf_in n cs w (by simpa using hw)) (fun w hw => by simpa using hw) (fun w hw => by simpa using hw)
theorem joins_app (a b : List (List Nat)) : joins (a ++ b) = joins a + joins b := by unfold joins; rw [List.map_append, List.sum_append_nat]
theorem joins_take {n : Nat} {cs : List CR} {i : Nat} {z : CR} (hz : cs[i]? = some z) : joins ((wsOf n cs).take (i + 1)) = joins ((wsOf n cs).take i) + ((wOf n z).length - 1) := by
  rw [ws_take hz, joins_app]; simp [joins]
theorem joins_le (n : Nat) : ∀ cs : List CR, joins (wsOf n cs) ≤ szCs cs
  | [] => by simp [joins, wsOf, szCs]
  | c :: r => by
    have h := joins_le n r
    have h2 := ts_len c.ts
    have h3 : (wOf n c).length ≤ c.ts.length := by unfold wOf; split <;> simp [vsOf]
    have e1 : joins (wsOf n (c :: r)) = ((wOf n c).length - 1) + joins (wsOf n r) := by simp [joins, wsOf]
    have e2 : szCs (c :: r) = szC c + szCs r := by simp [szCs]
    rw [e1, e2]; unfold szC; omega
theorem joins_take_le (n : Nat) (cs : List CR) (i : Nat) : joins ((wsOf n cs).take i) ≤ joins (wsOf n cs) := by
  conv => rhs; rw [← List.take_append_drop i (wsOf n cs), joins_app]
  exact Nat.le_add_right _ _
theorem lessN_range (n : Nat) : lessN n (List.range n) = 0 := by
  unfold lessN
  rw [List.countP_eq_zero]
  intro v hv
  have : v < n := by simpa using hv
  unfold lessP; rw [lab_range this]; simp
theorem lessN_succ (i : Nat) (l : List Nat) : lessN (i + 1) l = lessN i l + if lab l i = i then 0 else 1 := by
  unfold lessN
  rw [List.range_succ, List.countP_append, List.countP_singleton]
  unfold lessP
  by_cases h : lab l i = i <;> simp [h]
theorem lessN_le (i : Nat) (l : List Nat) : lessN i l ≤ i := by unfold lessN; exact Nat.le_trans List.countP_le_length (by simp)

theorem c_GraphTurns {w : World} {vl : Value} {cs : List CR} {z0 : Int} (hL : Lay rdC [] w vl cs) (hb : szCs cs ≤ 4194304) :
    Ret Try.prog 6 #[vl, .int .i64 z0] w (fun r w' => r = .bool true ∧ Mod [] w w') := by
  have hbd : Bd [] w := fun m hm => by cases hm
  obtain ⟨TL, tL, rfl⟩ := hL.form
  have hcl := cs_len cs
  refine Ret.of (vs := [.slice TL cs.length tL, .int .i64 z0]) (n := 42) Try.func6 rfl rfl rfl rfl ?_
  have hm0 : Mod [] w w := Mod.refl _ _
  refine W.seq ?_
  refine W.region ?_
  refine L.v (R1.assign rfl) rfl ?_
  refine L.nil ?_
  refine X.seq ?_
  refine W.seq ?_
  refine W.seq ?_
  refine W.region ?_
  refine L.v (R1.move rfl) rfl ?_
  refine L.call rfl (c_heavy_pantographlaw11 hL hb) rfl ?_
  rintro _ w1 ⟨rfl, hm1⟩
  replace hL := hL.gr hm1
  replace hbd := hbd.gr hm1
  replace hm0 := hm0.trans hm1
  clear hm1
  refine L.nil ?_
  refine X.seq ?_
  refine W.cond rfl ?_ ?_
  ·
    intro hc8
    have hh := hc8
    refine W.seq ?_
    refine W.region ?_
    refine L.v (R1.assign rfl) rfl ?_
    refine L.nil ?_
    refine X.seq ?_
    refine W.ret ?_
    refine X.thenRet ?_
    refine X.result1 rfl (.tmp rfl .nil) ?_
    exact ⟨rfl, hm0⟩
  ·
    intro hc8
    have hh := hc8
    have hsm : ∀ c ∈ cs, SmC 1099511627776 c := fun c hc => (sm_of_all (L := 150) (by simpa using hh) c hc).mono (by decide)
    have hsm2 : ∀ c ∈ cs.reverse, SmC 1099511627776 c := fun c hc => hsm c (by simpa using hc)
    refine W.skip ?_
    refine X.seq ?_
    refine W.seq ?_
    refine W.region ?_
    refine L.v (R1.assign rfl) rfl ?_
    refine L.nil ?_
    refine X.seq ?_
    refine W.seq ?_
    refine W.seq ?_
    refine W.region ?_
    refine L.v (R1.move rfl) rfl ?_
    refine L.v (R1.lenLay rfl hL tyS23) rfl ?_
    refine L.v ((R1.sub rfl rfl).as (wrap_i64 (by omega) (by omega))) rfl ?_
    refine L.v (R1.assign rfl) rfl ?_
    refine L.nil ?_
    refine X.seq ?_
    refine W.block ?_
    refine W.loop (ι := Nat × Value × List (List Value)) (fun (k, u, css) => [(0, .slice TL cs.length tL), (1, .int .i64 z0), (5, u), (6, .int .i64 ((k : Int) - 1))]) (fun (k, u, css) w_ => k ≤ cs.length ∧ World.ownsRow w_ w.heap.size 29 5 u (cs.length - k) (css).flatten ∧ LayL rdC (ownL u ++ []) w_ css (cs.drop k).reverse ∧ Lay rdC (ownL u ++ []) w_ (.slice TL cs.length tL) cs ∧ Bd [] w_ ∧ Mod [] w w_) (fun (k, u, css) => k) (cs.length, .slice none 0 0, []) ?_ ?_ ?_
    · exact ⟨rfl, rfl, rfl, rfl, trivial⟩
    ·
      refine ⟨Nat.le_refl _, own_congr (own_nil _ _ _ _) (by simp) rfl, ?_, hL.sub (fun b h9 => by simp [ownL, Value.ownBlock] at h9), hbd, hm0⟩
      rw [List.drop_length]; exact LayL.nil
    ·
      rintro ⟨k, u, css⟩ w2 ⟨hk, ho, hlU, hL, hbd, hm0⟩
      refine W.seq ?_
      refine W.seq ?_
      refine W.region ?_
      refine L.v (R1.move rfl) rfl ?_
      refine L.v (R1.ge rfl rfl) rfl ?_
      refine L.nil ?_
      refine X.seq ?_
      refine W.cond rfl ?_ ?_
      ·
        intro hc13
        try simp only [decide_eq_true_eq, decide_eq_false_iff_not, Bool.not_eq_true', Bool.not_eq_false', Int.not_lt, Int.not_le, ne_eq, Decidable.not_not] at hc13
        refine W.skip ?_
        refine X.seq ?_
        refine W.seq ?_
        refine W.block ?_
        refine W.region ?_
        refine L.v (R1.move rfl) rfl ?_
        refine L.v (R1.move rfl) rfl ?_
        refine L.v (R1.move rfl) rfl ?_
        refine L.v (R1.atLay (j := (k - 1)) rfl rfl hL tyS23 (by omega) (by omega)) rfl ?_
        obtain ⟨z20, cs20, hz20, hE20, vt20, ds20, rfl, ht20, vn20, vd20, rfl, hn20, hd20⟩ := Lay.elemQ hL (j := (k - 1)) (by omega)
        obtain ⟨T20, t20, rfl⟩ := ht20.form
        obtain ⟨A20, c20, rfl⟩ := hn20.form
        obtain ⟨B20, e20, rfl⟩ := hd20.form
        refine L.v (R1.loadE rfl hE20 tyG29) rfl ?_
        refine L.buildSlice (cells := [.int .i64 z20.st, .slice T20 z20.ts.length t20, .bool z20.k.s, .slice A20 z20.k.n.length c20, .slice B20 z20.k.d.length e20]) rfl tyS23 tyZ29 (fillC1 _ _ _ _ _ _ _ _ _ _ _) (by decide) (by decide) rfl ?_
        intro g21 w3 hN21
        replace hL := hL.gr hN21.mod
        replace hlU := hlU.gr hN21.mod
        replace hm0 := hm0.trans hN21.mod
        replace ho := own_gr ho hN21.mod (by simp)
        replace ht20 := ht20.gr hN21.mod
        replace hn20 := hn20.gr hN21.mod
        replace hd20 := hd20.gr hN21.mod
        have hrow : Sl [] w3 5 (.slice (some ⟨g21, 0, none⟩) 1 1) 1 [.int .i64 z20.st, .slice T20 z20.ts.length t20, .bool z20.k.s, .slice A20 z20.k.n.length c20, .slice B20 z20.k.d.length e20] := Sl.of_blk hN21.blk 0 (Nat.le_refl _) (by decide) rfl (by simp) (fun j hj => by simp)
        clear hN21
        refine L.append rfl rfl ho hrow (by intro c hc; simp only [List.mem_cons, List.not_mem_nil, or_false] at hc; rcases hc with rfl | rfl | rfl | rfl | rfl <;> rfl) tyS23 tyZ29 (by omega) (by unfold maxLen; omega) hm0.size rfl ?_
        intro v22 w4 ho22' hG22
        replace hL := hL.grew2 hG22 (by first | exact mem_own | (intro b hb; simp [hb]))
        replace hlU := hlU.grew2 hG22 (by first | exact mem_own | (intro b hb; simp [hb]))
        replace hm0 := Mod.oldOwn hm0 hG22.mod ho
        replace ht20 := ht20.grew2 hG22 (by first | exact mem_own | (intro b hb; simp [hb]))
        replace hn20 := hn20.grew2 hG22 (by first | exact mem_own | (intro b hb; simp [hb]))
        replace hd20 := hd20.grew2 hG22 (by first | exact mem_own | (intro b hb; simp [hb]))
        replace ho := ho22'; clear ho22'
        clear hG22
        refine L.v (R1.assign rfl) rfl ?_
        refine L.nil ?_
        refine X.blockEnd ?_
        refine X.seq ?_
        refine W.region ?_
        refine L.v (R1.move rfl) rfl ?_
        refine L.v ((R1.sub rfl rfl).as (j := (((k - 1 : Nat) : Int) - 1)) (by rw [wrap_i64 (by omega) (by omega)]; omega)) rfl ?_
        refine L.v (R1.assign rfl) rfl ?_
        refine L.nil ?_
        refine X.next (k - 1, v22, css ++ [[.int .i64 z20.st, .slice T20 z20.ts.length t20, .bool z20.k.s, .slice A20 z20.k.n.length c20, .slice B20 z20.k.d.length e20]]) ?_ ?_ ?_
        · exact ⟨rfl, rfl, rfl, rfl, trivial⟩
        ·
          have hdr := drop_get hz20
          rw [show k - 1 + 1 = k by omega] at hdr
          refine ⟨by omega, own_congr ho (by omega) (by simp), ?_, hL.sub (by intro b hb; first | exact hb | (simp at hb; simp [hb]) | (simp only [List.mem_append, List.mem_cons, List.not_mem_nil, or_false] at hb ⊢; rcases hb with hb | hb <;> simp [hb])), (fun m h9 => by cases h9), hm0⟩
          rw [hdr, List.reverse_cons]
          exact (hlU.sub (by intro b hb; first | exact hb | (simp at hb; simp [hb]) | (simp only [List.mem_append, List.mem_cons, List.not_mem_nil, or_false] at hb ⊢; rcases hb with hb | hb <;> simp [hb]))).append (LayL.one _ z20 (rdC_mk (ht20.sub (by intro b hb; first | exact hb | (simp at hb; simp [hb]) | (simp only [List.mem_append, List.mem_cons, List.not_mem_nil, or_false] at hb ⊢; rcases hb with hb | hb <;> simp [hb]))) (hn20.sub (by intro b hb; first | exact hb | (simp at hb; simp [hb]) | (simp only [List.mem_append, List.mem_cons, List.not_mem_nil, or_false] at hb ⊢; rcases hb with hb | hb <;> simp [hb]))) (hd20.sub (by intro b hb; first | exact hb | (simp at hb; simp [hb]) | (simp only [List.mem_append, List.mem_cons, List.not_mem_nil, or_false] at hb ⊢; rcases hb with hb | hb <;> simp [hb])))))
        · first | omega | (dsimp only; omega)
      ·
        intro hc13
        try simp only [decide_eq_true_eq, decide_eq_false_iff_not, Bool.not_eq_true', Bool.not_eq_false', Int.not_lt, Int.not_le, ne_eq, Decidable.not_not] at hc13
        obtain rfl : k = 0 := by omega
        have hB : Lay rdC [] w2 u cs.reverse := Lay.of_own (own_congr ho (by simp) rfl) (LayL.sub (by simpa using hlU) (fun b h9 => by cases h9)) (by simp)
        have hL := hL.sub (M' := []) (fun b h9 => by cases h9)
        refine W.exit ?_
        refine X.thenExit ?_
        refine X.nextExit ?_
        refine X.here ?_
        refine X.seq ?_
        refine W.seq ?_
        refine W.region ?_
        refine L.v (R1.move rfl) rfl ?_
        refine L.v (R1.move rfl) rfl ?_
        refine L.call rfl (c_Forest (M := []) hL (fun m h9 => by cases h9) hsm) rfl ?_
        rintro _ w5 ⟨rfl, hm5⟩
        replace hL := hL.gr hm5
        replace hm0 := hm0.trans hm5
        replace hB := hB.gr hm5
        clear hm5
        refine L.v (R1.move rfl) rfl ?_
        refine L.v (R1.move rfl) rfl ?_
        refine L.call rfl (c_Forest (M := []) hB (fun m h9 => by cases h9) hsm2) rfl ?_
        rintro _ w6 ⟨rfl, hm6⟩
        replace hL := hL.gr hm6
        replace hm0 := hm0.trans hm6
        replace hB := hB.gr hm6
        clear hm6
        refine L.v ((R1.eqB rfl rfl tyB4).asB (c := true) (by simp [first_rev])) rfl ?_
        refine L.v (R1.move rfl) rfl ?_
        refine L.on rfl rfl rfl (R1.move rfl) rfl ?_
        refine L.on rfl rfl rfl (R1.move rfl) rfl ?_
        refine L.callOn rfl rfl rfl rfl (c_Apart (M := []) hL (fun m h9 => by cases h9) hsm) rfl ?_
        rintro v33 w7 ⟨ho33, hm7⟩
        replace hL := hL.ownd ho33 hm7
        replace hB := hB.ownd ho33 hm7
        replace ho33 := own_less ho33 hm0.size
        replace hm0 := hm0.trans hm7
        clear hm7
        refine L.on rfl rfl rfl (R1.move rfl) rfl ?_
        refine L.on rfl rfl rfl (R1.move rfl) rfl ?_
        refine L.callOn rfl rfl rfl rfl (c_Apart (M := []) hB (fun m h9 => by cases h9) hsm2) rfl ?_
        rintro v36 w8 ⟨ho36, hm8⟩
        replace hL := hL.ownd ho36 hm8
        replace hB := hB.ownd ho36 hm8
        replace ho36 := own_less ho36 hm0.size
        replace hm0 := hm0.trans hm8
        replace ho33 := own_gr ho33 hm8 (by simp)
        clear hm8
        refine L.callOn rfl rfl rfl rfl (c_numbersEq_pantographlaw11 (Lay.of_ints (M := []) ho33 (by simp)) (Lay.of_ints (M := []) ho36 (by simp)) (by rw [apart_rev])) rfl ?_
        rintro _ w9 ⟨rfl, hm9⟩
        replace hL := hL.gr hm9
        replace hm0 := hm0.trans hm9
        replace hB := hB.gr hm9
        replace ho33 := own_gr ho33 hm9 (by simp)
        replace ho36 := own_gr ho36 hm9 (by simp)
        clear hm9
        refine L.v (R1.pickT rfl rfl) rfl ?_
        refine L.v (R1.move rfl) rfl ?_
        refine L.callOn rfl rfl rfl rfl (c_known11) rfl ?_
        rintro _ w10 ⟨rfl, hm10⟩
        replace hL := hL.gr hm10
        replace hm0 := hm0.trans hm10
        replace hB := hB.gr hm10
        replace ho33 := own_gr ho33 hm10 (by simp)
        replace ho36 := own_gr ho36 hm10 (by simp)
        clear hm10
        refine L.v (R1.pickT rfl rfl) rfl ?_
        refine L.v (R1.assign rfl) rfl ?_
        refine L.nil ?_
        refine X.seq ?_
        refine W.ret ?_
        refine X.result1 rfl (.tmp rfl .nil) ?_
        exact ⟨rfl, hm0⟩

end Go.Proofs.Ytjeodekhamdcmaa
