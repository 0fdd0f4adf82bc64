/- Walks: what the functions compute. -/
import Derived.Test.YtjeodekhamdcmaaLgT
namespace Go.Proofs.Ytjeodekhamdcmaa
open Go.RowKit
set_option linter.unusedVariables false
set_option linter.unusedSimpArgs false
set_option maxRecDepth 10000

def chainC (k : Nat) : List CR := (List.range k).map fun (i : Nat) => pairC (i : Int) ((i + 1 : Nat) : Int)
theorem chainC_succ (k : Nat) : chainC (k + 1) = chainC k ++ [pairC (k : Int) ((k + 1 : Nat) : Int)] := by simp [chainC, List.range_succ]
theorem chainC_ws {n : Nat} : ∀ k, k < n → wsOf n (chainC k) = chain k
  | 0, _ => rfl
  | k + 1, hk => by
    have h := chainC_ws (n := n) k (by omega)
    rw [chainC_succ, chain_succ, ← h]
    unfold wsOf
    rw [List.map_append]
    have := w_pair (a := k) (b := k + 1) (n := n) (by omega) hk
    simp only [List.map_cons, List.map_nil]
    rw [this]
theorem chainC_sm (k : Nat) : ∀ c ∈ chainC k, SmC 1099511627776 c := fun c hc => by
  obtain ⟨i, _, rfl⟩ := List.mem_map.1 hc
  exact (sm_pair _ _).mono (by decide)
theorem ringC_sm (k : Nat) (z : Int) : ∀ c ∈ chainC k ++ [pairC 0 z], SmC 1099511627776 c := fun c hc => by
  rcases List.mem_append.1 hc with h | h
  · exact chainC_sm k c h
  · rw [List.mem_singleton.1 h]; exact (sm_pair _ _).mono (by decide)
theorem ringC_ws {n : Nat} (hn : 2 ≤ n) : wsOf n (chainC (n - 1) ++ [pairC 0 ((n : Int) - 1)]) = chain (n - 1) ++ [[0, n - 1]] := by
  have h := chainC_ws (n := n) (n - 1) (by omega)
  have h2 := w_pair (a := 0) (b := n - 1) (n := n) (by omega) (by omega)
  rw [← h]
  unfold wsOf
  rw [List.map_append]
  simp only [List.map_cons, List.map_nil]
  rw [show ((n : Int) - 1) = ((n - 1 : Nat) : Int) by omega]
  rw [show (0 : Int) = ((0 : Nat) : Int) from rfl, h2]

theorem c_GraphRings {w : World} {z0 : Int} :
    Ret Try.prog 3 #[.int .i64 z0] w (fun r w' => r = .bool true ∧ Mod [] w w') := by
  refine Ret.of (vs := [.int .i64 z0]) (n := 49) Try.func3 rfl rfl rfl rfl ?_
  have hm0 : Mod [] w w := Mod.refl _ _
  refine W.seq ?_
  refine W.region ?_
  refine L.v (R1.assign rfl) rfl ?_
  refine L.nil ?_
  refine X.seq ?_
  refine W.seq ?_
  refine W.seq ?_
  refine W.region ?_
  refine L.v (R1.move rfl) rfl ?_
  refine L.v ((R1.lt rfl rfl).asB (c := decide (z0 < 3)) (rfl)) rfl ?_
  refine L.v (R1.move rfl) rfl ?_
  cases hgd7 : decide (z0 < 3)
  ·
    simp only [Bool.not_eq_true', Bool.not_eq_false', decide_eq_true_eq, decide_eq_false_iff_not, Int.not_lt, Int.not_le] at hgd7
    refine L.on rfl rfl rfl (R1.move rfl) rfl ?_
    refine L.on rfl rfl rfl ((R1.gt rfl rfl).asB (c := decide (40 < z0)) (rfl)) rfl ?_
    refine L.v (R1.pickF rfl rfl) rfl ?_
    refine L.nil ?_
    refine X.seq ?_
    refine W.cond rfl ?_ ?_
    ·
      intro hc10
      simp only [Bool.not_eq_true', Bool.not_eq_false', decide_eq_true_eq, decide_eq_false_iff_not, Int.not_lt, Int.not_le] at hc10
      refine W.seq ?_
      refine W.region ?_
      refine L.call rfl (c_known11) rfl ?_
      rintro _ w1 ⟨rfl, hm1⟩
      replace hm0 := hm0.trans hm1
      clear hm1
      refine L.v (R1.assign rfl) rfl ?_
      refine L.nil ?_
      refine X.seq ?_
      refine W.ret ?_
      refine X.thenRet ?_
      refine X.result1 rfl (.tmp rfl .nil) ?_
      exact ⟨rfl, hm0⟩
    ·
      intro hc10
      simp only [Bool.not_eq_true', Bool.not_eq_false', decide_eq_true_eq, decide_eq_false_iff_not, Int.not_lt, Int.not_le] at hc10
      have hz1 : 3 ≤ z0 := hgd7
      obtain ⟨N, rfl⟩ : ∃ N : Nat, z0 = (N : Int) := ⟨z0.toNat, by omega⟩
      have hN : held (N : Int) = N := by unfold held; omega
      have hbd : Bd (ownL (.slice none 0 0) ++ []) w := fun m h9 => by cases h9
      refine W.skip ?_
      refine X.seq ?_
      refine W.seq ?_
      refine W.region ?_
      refine L.v (R1.assign rfl) rfl ?_
      refine L.nil ?_
      refine X.seq ?_
      refine W.seq ?_
      refine W.seq ?_
      refine W.region ?_
      refine L.v (R1.assign rfl) rfl ?_
      refine L.nil ?_
      refine X.seq ?_
      refine W.block ?_
      refine W.loop (ι := Nat × Value × List (List Value)) (fun (k, u, css) => [(0, .int .i64 (N : Int)), (3, u), (4, .int .i64 ((k + 1 : Nat) : Int))]) (fun (k, u, css) w_ => k + 1 ≤ N ∧ World.ownsRow w_ w.heap.size 29 5 u k (css).flatten ∧ LayL rdC (ownL u ++ []) w_ css (chainC k) ∧ Bd (ownL u ++ []) w_ ∧ Mod [] w w_) (fun (k, u, css) => N - k) (0, .slice none 0 0, []) ?_ ?_ ?_
      · exact ⟨rfl, rfl, rfl, trivial⟩
      ·
        exact ⟨by omega, own_nil _ _ _ _, LayL.nil, hbd, hm0⟩
      ·
        rintro ⟨k, u, css⟩ w2 ⟨hk, ho, hlU, hbd, hm0⟩
        refine W.seq ?_
        refine W.seq ?_
        refine W.region ?_
        refine L.v (R1.move rfl) rfl ?_
        refine L.v (R1.move rfl) rfl ?_
        refine L.v (R1.lt rfl rfl) rfl ?_
        refine L.nil ?_
        refine X.seq ?_
        refine W.cond rfl ?_ ?_
        ·
          intro hc14
          try simp only [decide_eq_true_eq, decide_eq_false_iff_not, Bool.not_eq_true', Bool.not_eq_false', Int.not_lt, Int.not_le, ne_eq, Decidable.not_not] at hc14
          refine W.skip ?_
          refine X.seq ?_
          refine W.seq ?_
          refine W.block ?_
          refine W.region ?_
          refine L.v (R1.move rfl) rfl ?_
          refine L.v (R1.move rfl) rfl ?_
          refine L.v ((R1.sub rfl rfl).as (j := (k : Int)) (by rw [wrap_i64 (by omega) (by omega)]; omega)) rfl ?_
          refine L.v (R1.move rfl) rfl ?_
          refine L.call rfl (c_pair (M := ownL u ++ []) (a := (k : Int)) (b := ((k + 1 : Nat) : Int)) hbd) rfl ?_
          rintro _ w3 ⟨⟨vt21, vn21, vd21, rfl, ht21, hn21, hd21⟩, hm3⟩
          replace hlU := hlU.gr hm3
          replace hbd := hbd.gr hm3
          replace hm0 := hm0.trans hm3
          replace ho := own_gr ho hm3 (by simp)
          clear hm3
          obtain ⟨T21, t21, rfl⟩ := ht21.form
          obtain ⟨A21, c21, rfl⟩ := hn21.form
          obtain ⟨B21, e21, rfl⟩ := hd21.form
          refine L.buildSlice (cells := [.int .i64 (pairC (k : Int) ((k + 1 : Nat) : Int)).st, .slice T21 (pairC (k : Int) ((k + 1 : Nat) : Int)).ts.length t21, .bool (pairC (k : Int) ((k + 1 : Nat) : Int)).k.s, .slice A21 (pairC (k : Int) ((k + 1 : Nat) : Int)).k.n.length c21, .slice B21 (pairC (k : Int) ((k + 1 : Nat) : Int)).k.d.length e21]) rfl tyS23 tyZ29 (fillC1 _ _ _ _ _ _ _ _ _ _ _) (by decide) (by decide) rfl ?_
          intro g22 w4 hN22
          replace hlU := hlU.gr hN22.mod
          replace hbd := hbd.gr hN22.mod
          replace hm0 := hm0.trans hN22.mod
          replace ho := own_gr ho hN22.mod (by simp)
          replace ht21 := ht21.gr hN22.mod
          replace hn21 := hn21.gr hN22.mod
          replace hd21 := hd21.gr hN22.mod
          have hrow : Sl [] w4 5 (.slice (some ⟨g22, 0, none⟩) 1 1) 1 [.int .i64 (pairC (k : Int) ((k + 1 : Nat) : Int)).st, .slice T21 (pairC (k : Int) ((k + 1 : Nat) : Int)).ts.length t21, .bool (pairC (k : Int) ((k + 1 : Nat) : Int)).k.s, .slice A21 (pairC (k : Int) ((k + 1 : Nat) : Int)).k.n.length c21, .slice B21 (pairC (k : Int) ((k + 1 : Nat) : Int)).k.d.length e21] := Sl.of_blk hN22.blk 0 (Nat.le_refl _) (by decide) rfl (by simp) (fun j hj => by simp)
          clear hN22
          refine L.append rfl rfl ho hrow (by intro c hc; simp only [List.mem_cons, List.not_mem_nil, or_false] at hc; rcases hc with rfl | rfl | rfl | rfl | rfl <;> rfl) tyS23 tyZ29 (by omega) (by unfold maxLen; omega) hm0.size rfl ?_
          intro v23 w5 ho23' hG23
          replace hlU := hlU.grew2 hG23 (by first | exact mem_own | (intro b hb; simp [hb]))
          replace hbd := hbd.grew2 hG23 (by first | exact mem_own | (intro b hb; simp [hb]))
          replace hm0 := Mod.oldOwn hm0 hG23.mod ho
          replace ht21 := ht21.grew2 hG23 (by first | exact mem_own | (intro b hb; simp [hb]))
          replace hn21 := hn21.grew2 hG23 (by first | exact mem_own | (intro b hb; simp [hb]))
          replace hd21 := hd21.grew2 hG23 (by first | exact mem_own | (intro b hb; simp [hb]))
          replace ho := ho23'; clear ho23'
          clear hG23
          refine L.v (R1.assign rfl) rfl ?_
          refine L.nil ?_
          refine X.blockEnd ?_
          refine X.seq ?_
          refine W.region ?_
          refine L.v (R1.move rfl) rfl ?_
          refine L.v (R1.addI (b := 1) rfl rfl (by omega)) rfl ?_
          refine L.v (R1.assign rfl) rfl ?_
          refine L.nil ?_
          refine X.next (k + 1, v23, css ++ [[.int .i64 (pairC (k : Int) ((k + 1 : Nat) : Int)).st, .slice T21 (pairC (k : Int) ((k + 1 : Nat) : Int)).ts.length t21, .bool (pairC (k : Int) ((k + 1 : Nat) : Int)).k.s, .slice A21 (pairC (k : Int) ((k + 1 : Nat) : Int)).k.n.length c21, .slice B21 (pairC (k : Int) ((k + 1 : Nat) : Int)).k.d.length e21]]) ?_ ?_ ?_
          · exact ⟨rfl, rfl, rfl, trivial⟩
          ·
            refine ⟨by omega, own_congr ho rfl (by simp), ?_, hbd.sub (by intro b hb; first | exact hb | (simp at hb; simp [hb]) | (simp only [List.mem_append, List.mem_cons, List.not_mem_nil, or_false] at hb ⊢; rcases hb with hb | hb <;> simp [hb])), hm0⟩
            rw [chainC_succ]
            exact (hlU.sub (by intro b hb; first | exact hb | (simp at hb; simp [hb]) | (simp only [List.mem_append, List.mem_cons, List.not_mem_nil, or_false] at hb ⊢; rcases hb with hb | hb <;> simp [hb]))).append (LayL.one _ (pairC (k : Int) ((k + 1 : Nat) : Int)) (rdC_mk (ht21.sub (by intro b hb; first | exact hb | (simp at hb; simp [hb]) | (simp only [List.mem_append, List.mem_cons, List.not_mem_nil, or_false] at hb ⊢; rcases hb with hb | hb <;> simp [hb]))) (hn21.sub (by intro b hb; first | exact hb | (simp at hb; simp [hb]) | (simp only [List.mem_append, List.mem_cons, List.not_mem_nil, or_false] at hb ⊢; rcases hb with hb | hb <;> simp [hb]))) (hd21.sub (by intro b hb; first | exact hb | (simp at hb; simp [hb]) | (simp only [List.mem_append, List.mem_cons, List.not_mem_nil, or_false] at hb ⊢; rcases hb with hb | hb <;> simp [hb])))))
          · first | omega | (dsimp only; omega)
        ·
          intro hc14
          try simp only [decide_eq_true_eq, decide_eq_false_iff_not, Bool.not_eq_true', Bool.not_eq_false', Int.not_lt, Int.not_le, ne_eq, Decidable.not_not] at hc14
          obtain rfl : k = N - 1 := by omega
          have hA : Lay rdC (ownL u ++ []) w2 u (chainC (N - 1)) → True := fun _ => trivial
          clear hA
          have hA : Lay rdC [] w2 u (chainC (N - 1)) := Lay.of_own (own_congr ho (by simp [chainC]) rfl) (LayL.sub hlU (fun b h9 => by cases h9)) (by simp)
          refine W.exit ?_
          refine X.thenExit ?_
          refine X.nextExit ?_
          refine X.here ?_
          refine X.seq ?_
          refine W.seq ?_
          refine W.seq ?_
          refine W.region ?_
          refine L.v (R1.move rfl) rfl ?_
          refine L.v (R1.move rfl) rfl ?_
          refine L.call rfl (c_Forest (M := []) hA (fun m h9 => by cases h9) (chainC_sm _)) rfl ?_
          rintro _ w6 ⟨rfl, hm6⟩
          replace hlU := hlU.gr hm6
          replace hbd := hbd.gr hm6
          replace hm0 := hm0.trans hm6
          replace ho := own_gr ho hm6 (by simp)
          replace hA := hA.gr hm6
          clear hm6
          refine L.v ((R1.not rfl).asB (c := false) (by rw [hN, chainC_ws _ (by omega), (ring_chain (n := N) (N - 1) (by omega)).1]; rfl)) rfl ?_
          refine L.nil ?_
          refine X.seq ?_
          refine W.condF rfl ?_
          refine W.skip ?_
          refine X.seq ?_
          refine W.seq ?_
          refine W.region ?_
          refine L.v (R1.move rfl) rfl ?_
          refine L.v (R1.move rfl) rfl ?_
          refine L.v ((R1.sub rfl rfl).as (wrap_i64 (by omega) (by omega))) rfl ?_
          refine L.call rfl (c_pair (M := ownL u ++ []) (a := 0) (b := ((N : Int) - 1)) hbd) rfl ?_
          rintro _ w7 ⟨⟨vt31, vn31, vd31, rfl, ht31, hn31, hd31⟩, hm7⟩
          replace hlU := hlU.gr hm7
          replace hbd := hbd.gr hm7
          replace hm0 := hm0.trans hm7
          replace ho := own_gr ho hm7 (by simp)
          clear hm7
          obtain ⟨T31, t31, rfl⟩ := ht31.form
          obtain ⟨A31, c31, rfl⟩ := hn31.form
          obtain ⟨B31, e31, rfl⟩ := hd31.form
          refine L.buildSlice (cells := [.int .i64 (pairC 0 ((N : Int) - 1)).st, .slice T31 (pairC 0 ((N : Int) - 1)).ts.length t31, .bool (pairC 0 ((N : Int) - 1)).k.s, .slice A31 (pairC 0 ((N : Int) - 1)).k.n.length c31, .slice B31 (pairC 0 ((N : Int) - 1)).k.d.length e31]) rfl tyS23 tyZ29 (fillC1 _ _ _ _ _ _ _ _ _ _ _) (by decide) (by decide) rfl ?_
          intro g32 w8 hN32
          replace hlU := hlU.gr hN32.mod
          replace hbd := hbd.gr hN32.mod
          replace hm0 := hm0.trans hN32.mod
          replace ho := own_gr ho hN32.mod (by simp)
          replace ht31 := ht31.gr hN32.mod
          replace hn31 := hn31.gr hN32.mod
          replace hd31 := hd31.gr hN32.mod
          have hrow : Sl [] w8 5 (.slice (some ⟨g32, 0, none⟩) 1 1) 1 [.int .i64 (pairC 0 ((N : Int) - 1)).st, .slice T31 (pairC 0 ((N : Int) - 1)).ts.length t31, .bool (pairC 0 ((N : Int) - 1)).k.s, .slice A31 (pairC 0 ((N : Int) - 1)).k.n.length c31, .slice B31 (pairC 0 ((N : Int) - 1)).k.d.length e31] := Sl.of_blk hN32.blk 0 (Nat.le_refl _) (by decide) rfl (by simp) (fun j hj => by simp)
          clear hN32
          refine L.append rfl rfl ho hrow (by intro c hc; simp only [List.mem_cons, List.not_mem_nil, or_false] at hc; rcases hc with rfl | rfl | rfl | rfl | rfl <;> rfl) tyS23 tyZ29 (by omega) (by unfold maxLen; omega) hm0.size rfl ?_
          intro v33 w9 ho33' hG33
          replace hlU := hlU.grew2 hG33 (by first | exact mem_own | (intro b hb; simp [hb]))
          replace hbd := hbd.grew2 hG33 (by first | exact mem_own | (intro b hb; simp [hb]))
          replace hm0 := Mod.oldOwn hm0 hG33.mod ho
          replace ht31 := ht31.grew2 hG33 (by first | exact mem_own | (intro b hb; simp [hb]))
          replace hn31 := hn31.grew2 hG33 (by first | exact mem_own | (intro b hb; simp [hb]))
          replace hd31 := hd31.grew2 hG33 (by first | exact mem_own | (intro b hb; simp [hb]))
          replace ho := ho33'; clear ho33'
          clear hG33
          have hR : Lay rdC [] w9 v33 (chainC (N - 1) ++ [pairC 0 ((N : Int) - 1)]) := Lay.of_own (css := css ++ [[.int .i64 (pairC 0 ((N : Int) - 1)).st, .slice T31 (pairC 0 ((N : Int) - 1)).ts.length t31, .bool (pairC 0 ((N : Int) - 1)).k.s, .slice A31 (pairC 0 ((N : Int) - 1)).k.n.length c31, .slice B31 (pairC 0 ((N : Int) - 1)).k.d.length e31]]) (own_congr ho (by simp [chainC]) (by simp)) (LayL.sub ((hlU.sub (M' := ownL v33 ++ []) (by intro b hb; first | exact hb | (simp at hb; simp [hb]) | (simp only [List.mem_append, List.mem_cons, List.not_mem_nil, or_false] at hb ⊢; rcases hb with hb | hb <;> simp [hb]))).append (LayL.one _ (pairC 0 ((N : Int) - 1)) (rdC_mk (ht31.sub (by intro b hb; first | exact hb | (simp at hb; simp [hb]) | (simp only [List.mem_append, List.mem_cons, List.not_mem_nil, or_false] at hb ⊢; rcases hb with hb | hb <;> simp [hb]))) (hn31.sub (by intro b hb; first | exact hb | (simp at hb; simp [hb]) | (simp only [List.mem_append, List.mem_cons, List.not_mem_nil, or_false] at hb ⊢; rcases hb with hb | hb <;> simp [hb]))) (hd31.sub (by intro b hb; first | exact hb | (simp at hb; simp [hb]) | (simp only [List.mem_append, List.mem_cons, List.not_mem_nil, or_false] at hb ⊢; rcases hb with hb | hb <;> simp [hb])))))) (fun b h9 => by cases h9)) (by simp)
          refine L.v (R1.assign rfl) rfl ?_
          refine L.nil ?_
          refine X.seq ?_
          refine W.seq ?_
          refine W.region ?_
          refine L.v (R1.move rfl) rfl ?_
          refine L.v (R1.move rfl) rfl ?_
          refine L.call rfl (c_First (M := []) hR (fun m h9 => by cases h9) (ringC_sm _ _)) rfl ?_
          rintro _ w10 ⟨rfl, hm10⟩
          replace hm0 := hm0.trans hm10
          replace hR := hR.gr hm10
          clear hm10
          refine L.v (R1.move rfl) rfl ?_
          refine L.v ((R1.sub rfl rfl).as (wrap_i64 (by omega) (by omega))) rfl ?_
          refine L.v ((R1.eq rfl rfl).asB (c := true) (by rw [hN, ringC_ws (by omega), ring_closes (by omega)]; exact decide_eq_true (by show ((N - 1 : Nat) : Int) = _; omega))) rfl ?_
          refine L.v (R1.move rfl) rfl ?_
          refine L.on rfl rfl rfl (R1.move rfl) rfl ?_
          refine L.on rfl rfl rfl (R1.move rfl) rfl ?_
          refine L.callOn rfl rfl rfl rfl (c_Forest (M := []) hR (fun m h9 => by cases h9) (ringC_sm _ _)) rfl ?_
          rintro _ w11 ⟨rfl, hm11⟩
          replace hm0 := hm0.trans hm11
          replace hR := hR.gr hm11
          clear hm11
          refine L.on rfl rfl rfl ((R1.not rfl).asB (c := true) (by rw [hN, ringC_ws (by omega), ring_closes (by omega)]; rfl)) rfl ?_
          refine L.v (R1.pickT rfl rfl) rfl ?_
          refine L.v (R1.move rfl) rfl ?_
          refine L.callOn rfl rfl rfl rfl (c_known11) rfl ?_
          rintro _ w12 ⟨rfl, hm12⟩
          replace hm0 := hm0.trans hm12
          replace hR := hR.gr hm12
          clear hm12
          refine L.v (R1.pickT rfl rfl) rfl ?_
          refine L.v (R1.assign rfl) rfl ?_
          refine L.nil ?_
          refine X.seq ?_
          refine W.ret ?_
          refine X.result1 rfl (.tmp rfl .nil) ?_
          exact ⟨rfl, hm0⟩
  ·
    simp only [Bool.not_eq_true', Bool.not_eq_false', decide_eq_true_eq, decide_eq_false_iff_not, Int.not_lt, Int.not_le] at hgd7
    refine L.off rfl rfl rfl rfl rfl ?_
    refine L.off rfl rfl rfl rfl rfl ?_
    refine L.v (R1.pickT rfl rfl) rfl ?_
    refine L.nil ?_
    refine X.seq ?_
    refine W.condT rfl ?_
    refine W.seq ?_
    refine W.region ?_
    refine L.call rfl (c_known11) rfl ?_
    rintro _ w13 ⟨rfl, hm13⟩
    replace hm0 := hm0.trans hm13
    clear hm13
    refine L.v (R1.assign rfl) rfl ?_
    refine L.nil ?_
    refine X.seq ?_
    refine W.ret ?_
    refine X.thenRet ?_
    refine X.result1 rfl (.tmp rfl .nil) ?_
    exact ⟨rfl, hm0⟩

end Go.Proofs.Ytjeodekhamdcmaa
