/- Walks: what the functions compute. -/
import Derived.Test.YtjeodekhamdcmaaGrA
namespace Go.Proofs.Ytjeodekhamdcmaa
open Go.RowKit
set_option linter.unusedVariables false
set_option linter.unusedSimpArgs false
set_option maxRecDepth 10000

theorem fi_neg (F : Option Nat) : decide (fi F < 0) = decide (F = none) := by
  congr 1; apply propext
  cases F with
  | none => simp [fi]
  | some k => simp [fi]
theorem take_snoc_lab {l : List Nat} {i : Nat} (hi : i < l.length) : ints (l.take i) ++ [.int .i64 ((lab l i : Nat) : Int)] = ints (l.take (i + 1)) := by
  rw [List.take_succ_eq_append_getElem hi, ints_append, lab_eq hi]; rfl

theorem c_First {M N9 : List Nat} {w : World} {vl : Value} {cs : List CR} {z0 : Int} (hL : Lay rdC N9 w vl cs) (hbd : Bd M w) (hsm : ∀ c ∈ cs, SmC 1099511627776 c) :
    Ret Try.prog 20 #[vl, .int .i64 z0] w (fun x w' => x = .int .i64 (fi (firstW (List.range (held z0)) (wsOf (held z0) cs) 0)) ∧ Mod [] w w') := by
  refine Ret.of (vs := [vl, .int .i64 z0]) (n := 14) Try.func20 rfl rfl rfl rfl ?_
  have hm0 : Mod [] w w := Mod.refl _ _
  refine W.seq ?_
  refine W.region ?_
  refine L.v (R1.assign rfl) rfl ?_
  refine L.nil ?_
  refine X.seq ?_
  refine W.seq ?_
  refine W.region ?_
  refine L.v (R1.move rfl) rfl ?_
  refine L.v (R1.move rfl) rfl ?_
  refine L.call rfl (c_joined hL hbd hsm) rfl ?_
  rintro _ w1 ⟨v10, r10, rfl, ho, hu, hm1⟩
  replace hL := hL.gr hm1
  replace hbd := hbd.gr hm1
  replace hm0 := hm0.trans hm1
  clear hm1
  refine L.v (R1.move rfl) rfl ?_
  refine L.v (R1.extract rfl rfl) rfl ?_
  refine L.v (R1.extract rfl rfl) rfl ?_
  refine L.v (R1.assign rfl) rfl ?_
  refine L.v (R1.assign rfl) rfl ?_
  refine L.nil ?_
  refine X.seq ?_
  refine W.seq ?_
  refine W.region ?_
  refine L.v (R1.move rfl) rfl ?_
  refine L.v (R1.assign rfl) rfl ?_
  refine L.nil ?_
  refine X.seq ?_
  refine W.ret ?_
  refine X.result1 rfl (.tmp rfl .nil) ?_
  exact ⟨rfl, hm0⟩

theorem c_Forest {M N9 : List Nat} {w : World} {vl : Value} {cs : List CR} {z0 : Int} (hL : Lay rdC N9 w vl cs) (hbd : Bd M w) (hsm : ∀ c ∈ cs, SmC 1099511627776 c) :
    Ret Try.prog 19 #[vl, .int .i64 z0] w (fun x w' => x = .bool (decide ((firstW (List.range (held z0)) (wsOf (held z0) cs) 0) = none)) ∧ Mod [] w w') := by
  refine Ret.of (vs := [vl, .int .i64 z0]) (n := 9) Try.func19 rfl rfl rfl rfl ?_
  have hm0 : Mod [] w w := Mod.refl _ _
  refine W.seq ?_
  refine W.region ?_
  refine L.v (R1.assign rfl) rfl ?_
  refine L.nil ?_
  refine X.seq ?_
  refine W.seq ?_
  refine W.region ?_
  refine L.v (R1.move rfl) rfl ?_
  refine L.v (R1.move rfl) rfl ?_
  refine L.call rfl (c_First hL hbd hsm) rfl ?_
  rintro _ w1 ⟨rfl, hm1⟩
  replace hL := hL.gr hm1
  replace hbd := hbd.gr hm1
  replace hm0 := hm0.trans hm1
  clear hm1
  refine L.v ((R1.lt rfl rfl).asB (c := (decide ((firstW (List.range (held z0)) (wsOf (held z0) cs) 0) = none))) (fi_neg _)) rfl ?_
  refine L.v (R1.assign rfl) rfl ?_
  refine L.nil ?_
  refine X.seq ?_
  refine W.ret ?_
  refine X.result1 rfl (.tmp rfl .nil) ?_
  exact ⟨rfl, hm0⟩

theorem c_Apart {M N9 : List Nat} {w : World} {vl : Value} {cs : List CR} {z0 : Int} (hL : Lay rdC N9 w vl cs) (hbd : Bd M w) (hsm : ∀ c ∈ cs, SmC 1099511627776 c) :
    Ret Try.prog 24 #[vl, .int .i64 z0] w (fun x w' => w'.ownsRow w.heap.size 3 1 x (held z0) (ints (apAll (List.range (held z0)) (wsOf (held z0) cs))) ∧ Mod [] w w') := by
  have hN0 := held_le z0
  refine Ret.of (vs := [vl, .int .i64 z0]) (n := 28) Try.func24 rfl rfl rfl rfl ?_
  have hm0 : Mod [] w w := Mod.refl _ _
  refine W.seq ?_
  refine W.region ?_
  refine L.v (R1.assign rfl) rfl ?_
  refine L.nil ?_
  refine X.seq ?_
  refine W.seq ?_
  refine W.region ?_
  refine L.v (R1.move rfl) rfl ?_
  refine L.v (R1.move rfl) rfl ?_
  refine L.call rfl (c_joined hL hbd hsm) rfl ?_
  rintro _ w1 ⟨v12, r12, rfl, ho, hu, hm1⟩
  replace hL := hL.gr hm1
  replace hbd := hbd.gr hm1
  replace hm0 := hm0.trans hm1
  clear hm1
  refine L.v (R1.move rfl) rfl ?_
  refine L.v (R1.extract rfl rfl) rfl ?_
  refine L.v (R1.extract rfl rfl) rfl ?_
  refine L.v (R1.assign rfl) rfl ?_
  refine L.v (R1.assign rfl) rfl ?_
  refine L.nil ?_
  refine X.seq ?_
  refine W.seq ?_
  refine W.region ?_
  refine L.v (R1.assign rfl) rfl ?_
  refine L.nil ?_
  refine X.seq ?_
  refine W.seq ?_
  refine W.seq ?_
  refine W.region ?_
  refine L.v (R1.move rfl) rfl ?_
  refine L.v (R1.lenOwn rfl ho tyS57) rfl ?_
  refine L.v (R1.move rfl) rfl ?_
  refine L.nil ?_
  refine X.seq ?_
  refine W.block ?_
  refine W.loop (ι := Nat × List Nat × Value) (fun (i, r, u) => [(5, v12), (16, .int .i64 (held z0 : Int)), (17, .int .i64 (i : Int)), (7, u)]) (fun (i, r, u) w_ => i ≤ held z0 ∧ World.ownsRow w_ w.heap.size 3 1 v12 (held z0) (ints r) ∧ UF (held z0) r (apAll (List.range (held z0)) (wsOf (held z0) cs)) ∧ World.ownsRow w_ w.heap.size 3 1 u i (ints ((apAll (List.range (held z0)) (wsOf (held z0) cs)).take i)) ∧ Away v12 u ∧ Mod [] w w_) (fun (i, r, u) => held z0 - i) (0, r12, .slice none 0 0) ?_ ?_ ?_
  · exact ⟨rfl, rfl, rfl, rfl, trivial⟩
  ·
    exact ⟨Nat.zero_le _, ho, hu, own_nil _ _ _ _, Away.nil _ _, hm0⟩
  ·
    rintro ⟨i, r, u⟩ w2 ⟨hi, ho, hu, hall, haw, hm0⟩
    refine W.seq ?_
    refine W.region ?_
    refine L.v (R1.lt rfl rfl) rfl ?_
    refine L.nil ?_
    refine X.seq ?_
    refine W.seq ?_
    refine W.cond rfl ?_ ?_
    ·
      intro hc18
      try simp only [decide_eq_true_eq, decide_eq_false_iff_not, Bool.not_eq_true', Bool.not_eq_false', Int.not_lt, Int.not_le, ne_eq, Decidable.not_not] at hc18
      refine W.skip ?_
      refine X.seq ?_
      refine W.seq ?_
      refine W.block ?_
      refine W.seq ?_
      refine W.region ?_
      refine L.v (R1.move rfl) rfl ?_
      refine L.v (R1.assign rfl) rfl ?_
      refine L.nil ?_
      refine X.seq ?_
      refine W.region ?_
      refine L.v (R1.move rfl) rfl ?_
      refine L.v (R1.move rfl) rfl ?_
      refine L.v (R1.move rfl) rfl ?_
      refine L.call rfl (c_root ho hu hN0 (by omega : i < held z0)) rfl ?_
      rintro _ w3 ⟨rfl, r23, ho23, hu23, hm3⟩
      replace hall := own_away (s' := 1) (el' := 0) (k' := 0) (B' := 0) (ys := []) hall hm3 (by first | assumption | exact Away.symm (by assumption))
      replace hm0 := Mod.oldOwn hm0 hm3 ho
      clear hm3
      replace ho := ho23
      clear ho23
      refine L.build1 rfl rfl tyS37 tyZ3 rfl ?_
      intro g24 w4 hN24
      replace hall := own_gr hall hN24.mod (by simp)
      replace hm0 := hm0.trans hN24.mod
      replace ho := own_gr ho hN24.mod (by simp)
      have hrow : Sl [] w4 1 (.slice (some ⟨g24, 0, none⟩) 1 1) 1 [.int .i64 (((lab (apAll (List.range (held z0)) (wsOf (held z0) cs)) i : Nat) : Int))] := Sl.row1 hN24.blk (by simp)
      clear hN24
      refine L.append rfl rfl hall hrow (by simp [Value.oneCell']) tyS37 tyZ3 (by omega) (by unfold maxLen; omega) hm0.size rfl ?_
      intro v25 w5 ho25' hG25
      have haw_ := Away.grew haw hG25 ho
      replace hm0 := Mod.oldOwn hm0 hG25.mod hall
      replace ho := own_away (s' := 1) (el' := 0) (k' := 0) (B' := 0) (ys := []) ho hG25.mod (by first | assumption | exact Away.symm (by assumption))
      replace haw := haw_; clear haw_
      replace hall := ho25'; clear ho25'
      clear hG25
      refine L.v (R1.assign rfl) rfl ?_
      refine L.nil ?_
      refine X.blockEnd ?_
      refine X.seq ?_
      refine W.region ?_
      refine L.v (R1.addI (b := 1) rfl rfl (by omega)) rfl ?_
      refine L.v (R1.move rfl) rfl ?_
      refine L.nil ?_
      refine X.next (i + 1, r23, v25) ?_ ?_ ?_
      · exact ⟨rfl, rfl, rfl, rfl, trivial⟩
      ·
        refine ⟨by omega, ho, hu23, ?_, haw, hm0⟩
        exact own_congr hall rfl (take_snoc_lab (by rw [hu23.ok.len]; omega))
      · first | omega | (dsimp only; omega)
    ·
      intro hc18
      try simp only [decide_eq_true_eq, decide_eq_false_iff_not, Bool.not_eq_true', Bool.not_eq_false', Int.not_lt, Int.not_le, ne_eq, Decidable.not_not] at hc18
      obtain rfl : i = held z0 := by omega
      refine W.exit ?_
      refine X.thenExit ?_
      refine X.nextExit ?_
      refine X.here ?_
      refine X.seq ?_
      refine W.seq ?_
      refine W.region ?_
      refine L.v (R1.move rfl) rfl ?_
      refine L.v (R1.assign rfl) rfl ?_
      refine L.nil ?_
      refine X.seq ?_
      refine W.ret ?_
      refine X.result1 rfl (.tmp rfl .nil) ?_
      refine ⟨own_congr hall rfl ?_, hm0⟩
      rw [List.take_of_length_le (by rw [hu.ok.len]; omega)]

end Go.Proofs.Ytjeodekhamdcmaa
