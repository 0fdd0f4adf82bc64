/- Walks: what the functions compute. -/
import Derived.Test.YtjeodekhamdcmaaLgT
namespace Go.Proofs.Ytjeodekhamdcmaa
open Go.RowKit
set_option linter.unusedVariables false
set_option linter.unusedSimpArgs false
set_option maxRecDepth 10000
theorem c_GraphCounts {w : World} {vl : Value} {cs : List CR} {z0 : Int} (hL : Lay rdC [] w vl cs) (hb : szCs cs ≤ 4194304) :
    Ret Try.prog 7 #[vl, .int .i64 z0] w (fun r w' => r = .bool true ∧ Mod [] w w') := by
  have hbd : Bd [] w := fun m hm => by cases hm
  obtain ⟨TL, tL, rfl⟩ := hL.form
  have hcl := cs_len cs
  refine Ret.of (vs := [.slice TL cs.length tL, .int .i64 z0]) (n := 104) Try.func7 rfl rfl rfl rfl ?_
  have hm0 : Mod [] w w := Mod.refl _ _
  refine W.seq ?_
  refine W.region ?_
  refine L.v (R1.assign rfl) rfl ?_
  refine L.nil ?_
  refine X.seq ?_
  refine W.seq ?_
  refine W.seq ?_
  refine W.region ?_
  refine L.v (R1.move rfl) rfl ?_
  refine L.call rfl (c_heavy_pantographlaw11 hL hb) rfl ?_
  rintro _ w1 ⟨rfl, hm1⟩
  replace hL := hL.gr hm1
  replace hbd := hbd.gr hm1
  replace hm0 := hm0.trans hm1
  clear hm1
  refine L.v (R1.move rfl) rfl ?_
  cases hgd12 : (decide (150 < szCs cs))
  ·
    have hcc_ := hgd12
    refine L.on rfl rfl rfl (R1.move rfl) rfl ?_
    refine L.on rfl rfl rfl ((R1.lt rfl rfl).asB (c := decide (z0 < 1)) (rfl)) rfl ?_
    refine L.v (R1.pickF rfl rfl) rfl ?_
    refine L.v (R1.move rfl) rfl ?_
    cases hgd16 : decide (z0 < 1)
    ·
      simp only [Bool.not_eq_true', Bool.not_eq_false', decide_eq_true_eq, decide_eq_false_iff_not, Int.not_lt, Int.not_le] at hgd16
      refine L.on rfl rfl rfl (R1.move rfl) rfl ?_
      refine L.on rfl rfl rfl ((R1.gt rfl rfl).asB (c := decide (64 < z0)) (rfl)) rfl ?_
      refine L.v (R1.pickF rfl rfl) rfl ?_
      refine L.nil ?_
      refine X.seq ?_
      refine W.cond rfl ?_ ?_
      ·
        intro hc19
        simp only [Bool.not_eq_true', Bool.not_eq_false', decide_eq_true_eq, decide_eq_false_iff_not, Int.not_lt, Int.not_le] at hc19
        refine W.seq ?_
        refine W.region ?_
        refine L.v (R1.assign rfl) rfl ?_
        refine L.nil ?_
        refine X.seq ?_
        refine W.ret ?_
        refine X.thenRet ?_
        refine X.result1 rfl (.tmp rfl .nil) ?_
        exact ⟨rfl, hm0⟩
      ·
        intro hc19
        simp only [Bool.not_eq_true', Bool.not_eq_false', decide_eq_true_eq, decide_eq_false_iff_not, Int.not_lt, Int.not_le] at hc19
        have hh : decide (150 < szCs cs) = false := hgd12
        have hz1 : 1 ≤ z0 := hgd16
        have hz2 : z0 ≤ 64 := by omega
        obtain ⟨N, rfl⟩ : ∃ N : Nat, z0 = (N : Int) := ⟨z0.toNat, by omega⟩
        have hN : held (N : Int) = N := by unfold held; omega
        have hsz : szCs cs ≤ 150 := by simpa using hh
        have hsm : ∀ c ∈ cs, SmC 1099511627776 c := fun c hc => (sm_of_all (L := 150) (by simpa using hh) c hc).mono (by decide)
        refine W.skip ?_
        refine X.seq ?_
        refine W.seq ?_
        refine W.region ?_
        refine L.v (R1.assign rfl) rfl ?_
        refine L.v (R1.assign rfl) rfl ?_
        refine L.nil ?_
        refine X.seq ?_
        refine W.seq ?_
        refine W.seq ?_
        refine W.region ?_
        refine L.v (R1.assign rfl) rfl ?_
        refine L.nil ?_
        refine X.seq ?_
        refine W.block ?_
        refine W.loop (ι := Nat) (fun i => [(0, .slice TL cs.length tL), (1, .int .i64 ((N : Nat) : Int)), (5, .int .i64 ((joins ((wsOf N cs).take i) : Nat) : Int)), (6, .int .i64 0), (7, .int .i64 ((i : Nat) : Int))]) (fun i w_ => i ≤ cs.length ∧ Lay rdC [] w_ (.slice TL cs.length tL) cs ∧ Mod [] w w_) (fun i => cs.length - i) 0 ?_ ?_ ?_
        · exact ⟨rfl, rfl, rfl, rfl, rfl, trivial⟩
        ·
          exact ⟨Nat.zero_le _, hL, hm0⟩
        ·
          rintro i w2 ⟨hi, hL, hm0⟩
          refine W.seq ?_
          refine W.seq ?_
          refine W.region ?_
          refine L.v (R1.move rfl) rfl ?_
          refine L.v (R1.move rfl) rfl ?_
          refine L.v (R1.lenLay rfl hL tyS23) rfl ?_
          refine L.v (R1.lt rfl rfl) rfl ?_
          refine L.nil ?_
          refine X.seq ?_
          refine W.cond rfl ?_ ?_
          ·
            intro hc23
            try simp only [decide_eq_true_eq, decide_eq_false_iff_not, Bool.not_eq_true', Bool.not_eq_false', Int.not_lt, Int.not_le, ne_eq, Decidable.not_not] at hc23
            refine W.skip ?_
            refine X.seq ?_
            refine W.seq ?_
            refine W.block ?_
            refine W.seq ?_
            refine W.region ?_
            refine L.v (R1.move rfl) rfl ?_
            refine L.v (R1.move rfl) rfl ?_
            refine L.v (R1.atLay (j := i) rfl rfl hL tyS23 rfl (by omega)) rfl ?_
            obtain ⟨z29, cs29, hz29, hE29, vt29, ds29, rfl, ht29, vn29, vd29, rfl, hn29, hd29⟩ := Lay.elemQ hL (j := i) (by omega)
            obtain ⟨T29, t29, rfl⟩ := ht29.form
            obtain ⟨A29, c29, rfl⟩ := hn29.form
            obtain ⟨B29, e29, rfl⟩ := hd29.form
            refine L.v (R1.loadE rfl hE29 tyG29) rfl ?_
            refine L.v (R1.move rfl) rfl ?_
            refine L.call rfl (c_ref8_Is (M := []) ht29 hn29 hd29 (n := (N : Int)) (by omega) (fun m h9 => by cases h9) (hsm _ (List.mem_of_getElem? hz29))) rfl ?_
            rintro _ w3 ⟨rfl, hm3⟩
            replace hL := hL.gr hm3
            replace hm0 := hm0.trans hm3
            replace ht29 := ht29.gr hm3
            replace hn29 := hn29.gr hm3
            replace hd29 := hd29.gr hm3
            clear hm3
            refine L.nil ?_
            refine X.seq ?_
            refine W.cond rfl ?_ ?_
            ·
              intro hc31
              try simp only [decide_eq_true_eq, decide_eq_false_iff_not, Bool.not_eq_true', Bool.not_eq_false', Int.not_lt, Int.not_le, ne_eq, Decidable.not_not] at hc31
              refine W.region ?_
              refine L.v (R1.move rfl) rfl ?_
              refine L.v (R1.move rfl) rfl ?_
              refine L.v (R1.move rfl) rfl ?_
              refine L.v (R1.atLay (j := i) rfl rfl hL tyS23 rfl (by omega)) rfl ?_
              refine L.v (R1.fieldAddr rfl tyF29_1) rfl ?_
              obtain ⟨z37, cs37, hz37, hE37, vt37, ds37, rfl, ht37, vn37, vd37, rfl, hn37, hd37⟩ := Lay.elemQ hL (j := i) (by omega)
              obtain ⟨T37, t37, rfl⟩ := ht37.form
              obtain ⟨A37, c37, rfl⟩ := hn37.form
              obtain ⟨B37, e37, rfl⟩ := hd37.form
              obtain rfl : z29 = z37 := by have h9 := hz37; rw [hz29] at h9; injection h9
              refine L.v (R1.loadEF rfl hE37 rfl tyP24) rfl ?_
              refine L.v (R1.lenLay rfl ht37 tyS24) rfl ?_
              have hmx := ht37.max; unfold maxLen at hmx
              refine L.v ((R1.sub rfl rfl).as (wrap_i64 (by omega) (by omega))) rfl ?_
              refine L.v ((R1.maxI rfl rfl).as (j := ((z29.ts.length - 1 : Nat) : Int)) (by omega)) rfl ?_
              have hjt : joins ((wsOf N cs).take i) + (z29.ts.length - 1) ≤ 150 := by
                have h9 := joins_take (n := N) hz29
                rw [wOf, if_pos hc31] at h9
                have h8 := joins_take_le N cs (i + 1)
                have h7 := joins_le N cs
                have h6 : (vsOf z29).length = z29.ts.length := by simp [vsOf]
                omega
              refine L.v (R1.addI rfl rfl (by omega)) rfl ?_
              refine L.v (R1.assign rfl) rfl ?_
              refine L.nil ?_
              refine X.blockEnd ?_
              refine X.seq ?_
              refine W.region ?_
              refine L.v (R1.move rfl) rfl ?_
              refine L.v (R1.addI (b := 1) rfl rfl (by omega)) rfl ?_
              refine L.v (R1.assign rfl) rfl ?_
              refine L.nil ?_
              refine X.next (i + 1) ?_ ?_ ?_
              · refine ⟨rfl, rfl, ?_, rfl, rfl, trivial⟩; simp only [lk, Nat.beq, cond_true, cond_false]; rw [joins_take hz29, wOf]; first | (rw [if_pos hc31]; rw [show (vsOf z29).length = z29.ts.length by simp [vsOf]]) | (rw [if_neg (by rw [hc31]; decide)]; rfl)
              ·
                exact ⟨by omega, hL, hm0⟩
              · first | omega | (dsimp only; omega)
            ·
              intro hc31
              try simp only [decide_eq_true_eq, decide_eq_false_iff_not, Bool.not_eq_true', Bool.not_eq_false', Int.not_lt, Int.not_le, ne_eq, Decidable.not_not] at hc31
              refine W.skip ?_
              refine X.blockEnd ?_
              refine X.seq ?_
              refine W.region ?_
              refine L.v (R1.move rfl) rfl ?_
              refine L.v (R1.addI (b := 1) rfl rfl (by omega)) rfl ?_
              refine L.v (R1.assign rfl) rfl ?_
              refine L.nil ?_
              refine X.next (i + 1) ?_ ?_ ?_
              · refine ⟨rfl, rfl, ?_, rfl, rfl, trivial⟩; simp only [lk, Nat.beq, cond_true, cond_false]; rw [joins_take hz29, wOf]; first | (rw [if_pos hc31]; rw [show (vsOf z29).length = z29.ts.length by simp [vsOf]]) | (rw [if_neg (by rw [hc31]; decide)]; rfl)
              ·
                exact ⟨by omega, hL, hm0⟩
              · first | omega | (dsimp only; omega)
          ·
            intro hc23
            try simp only [decide_eq_true_eq, decide_eq_false_iff_not, Bool.not_eq_true', Bool.not_eq_false', Int.not_lt, Int.not_le, ne_eq, Decidable.not_not] at hc23
            obtain rfl : i = cs.length := by omega
            rw [show (wsOf N cs).take cs.length = wsOf N cs from List.take_of_length_le (by simp [wsOf])]
            refine W.exit ?_
            refine X.thenExit ?_
            refine X.nextExit ?_
            refine X.here ?_
            refine X.seq ?_
            refine W.seq ?_
            refine W.region ?_
            refine L.v (R1.move rfl) rfl ?_
            refine L.v (R1.move rfl) rfl ?_
            refine L.call rfl (c_Apart (M := []) hL (fun m h9 => by cases h9) hsm) rfl ?_
            rintro v44 w4 ⟨ho, hm4⟩
            replace hL := hL.ownd ho hm4
            replace ho := own_less ho hm0.size
            replace hm0 := hm0.trans hm4
            clear hm4
            rw [hN] at ho
            have hlab := (Lab.start N).apAll (wsOf_in N cs)
            refine L.v (R1.assign rfl) rfl ?_
            refine L.nil ?_
            refine X.seq ?_
            refine W.seq ?_
            refine W.seq ?_
            refine W.region ?_
            refine L.v (R1.move rfl) rfl ?_
            refine L.v (R1.lenOwn rfl ho tyS37) rfl ?_
            refine L.v (R1.move rfl) rfl ?_
            refine L.v ((R1.ne rfl rfl).asB (c := false) (by simp)) rfl ?_
            refine L.nil ?_
            refine X.seq ?_
            refine W.condF rfl ?_
            refine W.skip ?_
            refine X.seq ?_
            refine W.seq ?_
            refine W.seq ?_
            refine W.region ?_
            refine L.v (R1.assign rfl) rfl ?_
            refine L.nil ?_
            refine X.seq ?_
            refine W.block ?_
            have hz90 : N ≤ 64 := by omega
            refine W.loop (ι := Nat) (fun i => [(0, .slice TL cs.length tL), (1, .int .i64 ((N : Nat) : Int)), (5, .int .i64 ((joins (wsOf N cs) : Nat) : Int)), (6, .int .i64 ((lessN i (apAll (List.range N) (wsOf N cs)) : Nat) : Int)), (8, v44), (9, .int .i64 ((i : Nat) : Int))]) (fun i w_ => i ≤ N ∧ World.ownsRow w_ w.heap.size 3 1 v44 N (ints (apAll (List.range N) (wsOf N cs))) ∧ Lay rdC (ownL v44 ++ []) w_ (.slice TL cs.length tL) cs ∧ Mod [] w w_) (fun i => N - i) 0 ?_ ?_ ?_
            · exact ⟨rfl, rfl, rfl, rfl, rfl, rfl, trivial⟩
            ·
              exact ⟨Nat.zero_le _, ho, hL, hm0⟩
            ·
              rintro i w5 ⟨hi, ho, hL, hm0⟩
              refine W.seq ?_
              refine W.seq ?_
              refine W.region ?_
              refine L.v (R1.move rfl) rfl ?_
              refine L.v (R1.move rfl) rfl ?_
              refine L.v (R1.lt rfl rfl) rfl ?_
              refine L.nil ?_
              refine X.seq ?_
              refine W.cond rfl ?_ ?_
              ·
                intro hc51
                try simp only [decide_eq_true_eq, decide_eq_false_iff_not, Bool.not_eq_true', Bool.not_eq_false', Int.not_lt, Int.not_le, ne_eq, Decidable.not_not] at hc51
                refine W.skip ?_
                refine X.seq ?_
                refine W.seq ?_
                refine W.block ?_
                refine W.seq ?_
                refine W.seq ?_
                have hlz := hlab.le i (by omega); have hlt := hlab.lt (v := i) (by omega); have hid := hlab.idem i (by omega); unfold lab at hlz hlt hid
                refine W.drawW (T := []) rfl (by decide +kernel) (NoHang.then (NoHang.then (NoHang.block (NoHang.then (NoHang.next (NoHang.block (NoHang.then NoHang.post))))))) (fun w6 hm6 => ?_)
                replace ho := own_gr ho hm6 (by simp)
                replace hL := hL.gr hm6
                replace hm0 := hm0.trans hm6
                have hS1 : Mod [] w6 w6 := Mod.refl _ _
                clear hm6
                refine D.take 0 rfl (by decide +kernel) (fun w_ hS => (R1.move rfl)) hS1 rfl ?_
                refine D.take 1 rfl (by decide +kernel) (fun w_ hS => (R1.move rfl)) hS1 rfl ?_
                refine D.take 2 rfl (by decide +kernel) (fun w_ hS => (R1.atOwn (i := i) rfl rfl (own_gr ho hS (by simp)) tyS37 rfl (by omega))) hS1 rfl ?_
                refine D.take 3 rfl (by decide +kernel) (fun w_ hS => (R1.ldLab rfl (own_gr ho hS (by simp)) (by omega) tyP3)) hS1 rfl ?_
                refine D.take 4 rfl (by decide +kernel) (fun w_ hS => ((R1.lt rfl rfl).asB (c := false) (decide_eq_false (by omega)))) hS1 rfl ?_
                refine D.take 5 rfl (by decide +kernel) (fun w_ hS => (R1.move rfl)) hS1 rfl ?_
                refine D.takeOn 6 rfl rfl rfl rfl (by decide +kernel) (fun w_ hS => (R1.move rfl)) hS1 rfl ?_
                refine D.takeOn 7 rfl rfl rfl rfl (by decide +kernel) (fun w_ hS => (R1.move rfl)) hS1 rfl ?_
                refine D.takeOn 8 rfl rfl rfl rfl (by decide +kernel) (fun w_ hS => (R1.atOwn (i := i) rfl rfl (own_gr ho hS (by simp)) tyS37 rfl (by omega))) hS1 rfl ?_
                refine D.takeOn 9 rfl rfl rfl rfl (by decide +kernel) (fun w_ hS => (R1.ldLab rfl (own_gr ho hS (by simp)) (by omega) tyP3)) hS1 rfl ?_
                refine D.takeOn 10 rfl rfl rfl rfl (by decide +kernel) (fun w_ hS => (R1.move rfl)) hS1 rfl ?_
                refine D.takeOn 11 rfl rfl rfl rfl (by decide +kernel) (fun w_ hS => ((R1.gt rfl rfl).asB (c := false) (decide_eq_false (by omega)))) hS1 rfl ?_
                refine D.take 12 rfl (by decide +kernel) (fun w_ hS => (R1.pickF rfl rfl)) hS1 rfl ?_
                refine D.take 13 rfl (by decide +kernel) (fun w_ hS => (R1.move rfl)) hS1 rfl ?_
                refine D.takeOn 14 rfl rfl rfl rfl (by decide +kernel) (fun w_ hS => (R1.move rfl)) hS1 rfl ?_
                refine D.takeOn 15 rfl rfl rfl rfl (by decide +kernel) (fun w_ hS => (R1.move rfl)) hS1 rfl ?_
                refine D.takeOn 16 rfl rfl rfl rfl (by decide +kernel) (fun w_ hS => (R1.move rfl)) hS1 rfl ?_
                refine D.takeOn 17 rfl rfl rfl rfl (by decide +kernel) (fun w_ hS => (R1.atOwn (i := i) rfl rfl (own_gr ho hS (by simp)) tyS37 rfl (by omega))) hS1 rfl ?_
                refine D.takeOn 18 rfl rfl rfl rfl (by decide +kernel) (fun w_ hS => (R1.ldLab rfl (own_gr ho hS (by simp)) (by omega) tyP3)) hS1 rfl ?_
                refine D.takeOn 19 rfl rfl rfl rfl (by decide +kernel) (fun w_ hS => (R1.atOwn (i := ((apAll (List.range N) (wsOf N cs)).getD i 0)) rfl rfl (own_gr ho hS (by simp)) tyS37 rfl (by omega))) hS1 rfl ?_
                refine D.takeOn 20 rfl rfl rfl rfl (by decide +kernel) (fun w_ hS => (R1.ldLab rfl (own_gr ho hS (by simp)) (by omega) tyP3)) hS1 rfl ?_
                refine D.takeOn 21 rfl rfl rfl rfl (by decide +kernel) (fun w_ hS => (R1.move rfl)) hS1 rfl ?_
                refine D.takeOn 22 rfl rfl rfl rfl (by decide +kernel) (fun w_ hS => (R1.move rfl)) hS1 rfl ?_
                refine D.takeOn 23 rfl rfl rfl rfl (by decide +kernel) (fun w_ hS => (R1.atOwn (i := i) rfl rfl (own_gr ho hS (by simp)) tyS37 rfl (by omega))) hS1 rfl ?_
                refine D.takeOn 24 rfl rfl rfl rfl (by decide +kernel) (fun w_ hS => (R1.ldLab rfl (own_gr ho hS (by simp)) (by omega) tyP3)) hS1 rfl ?_
                refine D.takeOn 25 rfl rfl rfl rfl (by decide +kernel) (fun w_ hS => ((R1.ne rfl rfl).asB (c := false) (decide_eq_false (by rw [Decidable.not_not]; exact congrArg (fun n : Nat => (n : Int)) hid)))) hS1 rfl ?_
                refine D.take 26 rfl (by decide +kernel) (fun w_ hS => (R1.pickF rfl rfl)) hS1 rfl ?_
                refine D.done (by decide +kernel) ?_ _
                refine X.seq ?_
                refine W.condF rfl ?_
                refine W.skip ?_
                refine X.seq ?_
                refine W.seq ?_
                refine W.region ?_
                refine L.v (R1.move rfl) rfl ?_
                refine L.v (R1.move rfl) rfl ?_
                refine L.v (R1.atOwn (i := i) rfl rfl ho tyS37 rfl (by omega)) rfl ?_
                refine L.v (R1.ldLab rfl ho (by omega) tyP3) rfl ?_
                refine L.v (R1.move rfl) rfl ?_
                refine L.v (R1.lt rfl rfl) rfl ?_
                refine L.nil ?_
                refine X.seq ?_
                refine W.cond rfl ?_ ?_
                ·
                  intro hc86
                  try simp only [decide_eq_true_eq, decide_eq_false_iff_not, Bool.not_eq_true', Bool.not_eq_false', Int.not_lt, Int.not_le, ne_eq, Decidable.not_not] at hc86
                  refine W.region ?_
                  refine L.v (R1.move rfl) rfl ?_
                  have hle9 := lessN_le i (apAll (List.range N) (wsOf N cs))
                  refine L.v (R1.addI (b := 1) rfl rfl (by omega)) rfl ?_
                  refine L.v (R1.assign rfl) rfl ?_
                  refine L.nil ?_
                  refine X.blockEnd ?_
                  refine X.seq ?_
                  refine W.region ?_
                  refine L.v (R1.move rfl) rfl ?_
                  refine L.v (R1.addI (b := 1) rfl rfl (by omega)) rfl ?_
                  refine L.v (R1.assign rfl) rfl ?_
                  refine L.nil ?_
                  refine X.next (i + 1) ?_ ?_ ?_
                  · refine ⟨rfl, rfl, rfl, ?_, rfl, rfl, trivial⟩; simp only [lk, Nat.beq, cond_true, cond_false]; rw [lessN_succ]; first | (rw [if_neg (by unfold lab; omega)]) | (rw [if_pos (by unfold lab; omega)]; rfl)
                  ·
                    exact ⟨by omega, ho, hL, hm0⟩
                  · first | omega | (dsimp only; omega)
                ·
                  intro hc86
                  try simp only [decide_eq_true_eq, decide_eq_false_iff_not, Bool.not_eq_true', Bool.not_eq_false', Int.not_lt, Int.not_le, ne_eq, Decidable.not_not] at hc86
                  refine W.skip ?_
                  refine X.blockEnd ?_
                  refine X.seq ?_
                  refine W.region ?_
                  refine L.v (R1.move rfl) rfl ?_
                  refine L.v (R1.addI (b := 1) rfl rfl (by omega)) rfl ?_
                  refine L.v (R1.assign rfl) rfl ?_
                  refine L.nil ?_
                  refine X.next (i + 1) ?_ ?_ ?_
                  · refine ⟨rfl, rfl, rfl, ?_, rfl, rfl, trivial⟩; simp only [lk, Nat.beq, cond_true, cond_false]; rw [lessN_succ]; first | (rw [if_neg (by unfold lab; omega)]) | (rw [if_pos (by unfold lab; omega)]; rfl)
                  ·
                    exact ⟨by omega, ho, hL, hm0⟩
                  · first | omega | (dsimp only; omega)
              ·
                intro hc51
                try simp only [decide_eq_true_eq, decide_eq_false_iff_not, Bool.not_eq_true', Bool.not_eq_false', Int.not_lt, Int.not_le, ne_eq, Decidable.not_not] at hc51
                obtain rfl : N = i := by omega
                have hcnt := lessN_apAll (Lab.start N) (wsOf_in N cs) 0
                rw [lessN_range, Nat.zero_add] at hcnt
                obtain ⟨hcle, hfst⟩ := hcnt
                refine W.exit ?_
                refine X.thenExit ?_
                refine X.nextExit ?_
                refine X.here ?_
                refine X.seq ?_
                refine W.seq ?_
                refine W.region ?_
                refine L.v (R1.move rfl) rfl ?_
                refine L.v (R1.move rfl) rfl ?_
                refine L.call rfl (c_Forest (M := []) (hL.sub (M' := []) (fun b h9 => by cases h9)) (fun m h9 => by cases h9) hsm) rfl ?_
                rintro _ w7 ⟨rfl, hm7⟩
                replace ho := own_gr ho hm7 (by simp)
                replace hL := hL.gr hm7
                replace hm0 := hm0.trans hm7
                clear hm7
                refine L.v (R1.move rfl) rfl ?_
                refine L.v (R1.move rfl) rfl ?_
                refine L.v ((R1.eq rfl rfl).asB (c := (decide (joins (wsOf N cs) = lessN N (apAll (List.range N) (wsOf N cs))))) (by congr 1; apply propext; omega)) rfl ?_
                refine L.v ((R1.eqB rfl rfl tyB4).asB (c := true) (by rw [hN]; simp only [beq_iff_eq]; congr 1; exact propext (hfst.trans ⟨fun h9 => h9.symm, fun h9 => h9.symm⟩))) rfl ?_
                refine L.v (R1.move rfl) rfl ?_
                refine L.on rfl rfl rfl (R1.move rfl) rfl ?_
                refine L.on rfl rfl rfl (R1.move rfl) rfl ?_
                refine L.on rfl rfl rfl ((R1.ge rfl rfl).asB (c := true) (decide_eq_true (by omega))) rfl ?_
                refine L.v (R1.pickT rfl rfl) rfl ?_
                refine L.v (R1.move rfl) rfl ?_
                refine L.callOn rfl rfl rfl rfl (c_known11) rfl ?_
                rintro _ w8 ⟨rfl, hm8⟩
                replace ho := own_gr ho hm8 (by simp)
                replace hL := hL.gr hm8
                replace hm0 := hm0.trans hm8
                clear hm8
                refine L.v (R1.pickT rfl rfl) rfl ?_
                refine L.v (R1.assign rfl) rfl ?_
                refine L.nil ?_
                refine X.seq ?_
                refine W.ret ?_
                refine X.result1 rfl (.tmp rfl .nil) ?_
                exact ⟨rfl, hm0⟩
    ·
      simp only [Bool.not_eq_true', Bool.not_eq_false', decide_eq_true_eq, decide_eq_false_iff_not, Int.not_lt, Int.not_le] at hgd16
      refine L.off rfl rfl rfl rfl rfl ?_
      refine L.off rfl rfl rfl rfl rfl ?_
      refine L.v (R1.pickT rfl rfl) rfl ?_
      refine L.nil ?_
      refine X.seq ?_
      refine W.condT rfl ?_
      refine W.seq ?_
      refine W.region ?_
      refine L.v (R1.assign rfl) rfl ?_
      refine L.nil ?_
      refine X.seq ?_
      refine W.ret ?_
      refine X.thenRet ?_
      refine X.result1 rfl (.tmp rfl .nil) ?_
      exact ⟨rfl, hm0⟩
  ·
    have hcc_ := hgd12
    refine L.off rfl rfl rfl rfl rfl ?_
    refine L.off rfl rfl rfl rfl rfl ?_
    refine L.v (R1.pickT rfl rfl) rfl ?_
    refine L.v (R1.move rfl) rfl ?_
    refine L.off rfl rfl rfl rfl rfl ?_
    refine L.off rfl rfl rfl rfl rfl ?_
    refine L.v (R1.pickT rfl rfl) rfl ?_
    refine L.nil ?_
    refine X.seq ?_
    refine W.condT rfl ?_
    refine W.seq ?_
    refine W.region ?_
    refine L.v (R1.assign rfl) rfl ?_
    refine L.nil ?_
    refine X.seq ?_
    refine W.ret ?_
    refine X.thenRet ?_
    refine X.result1 rfl (.tmp rfl .nil) ?_
    exact ⟨rfl, hm0⟩

end Go.Proofs.Ytjeodekhamdcmaa
