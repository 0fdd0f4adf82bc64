/- Walks: what the functions compute. -/
import Derived.Test.YtjeodekhamdcmaaLgT
namespace Go.Proofs.Ytjeodekhamdcmaa
open Go.RowKit
set_option linter.unusedVariables false
set_option linter.unusedSimpArgs false
set_option maxRecDepth 10000

theorem fi_nonneg {F : Option Nat} (h : 0 ≤ fi F) : ∃ k, F = some k ∧ fi F = (k : Int) := by
  cases F with
  | none => simp [fi] at h
  | some k => exact ⟨k, rfl, rfl⟩
theorem fi_none {F : Option Nat} (h : fi F < 0) : F = none := by
  cases F with
  | none => rfl
  | some k => simp [fi] at h; omega
theorem ws_app (n : Nat) (a b : List CR) : wsOf n (a ++ b) = wsOf n a ++ wsOf n b := by unfold wsOf; rw [List.map_append]
theorem first_app_some {n : Nat} {a : List CR} (b : List CR) {k : Nat} (h : firstW (List.range n) (wsOf n a) 0 = some k) : firstW (List.range n) (wsOf n (a ++ b)) 0 = some k := by
  rw [ws_app, firstW_append, h]
theorem first_app_none {n : Nat} {a : List CR} (b : List CR) (h : firstW (List.range n) (wsOf n a) 0 = none) : fi (firstW (List.range n) (wsOf n (a ++ b)) 0) < 0 ∨ (a.length : Int) ≤ fi (firstW (List.range n) (wsOf n (a ++ b)) 0) := by
  rw [ws_app, firstW_append, h]
  simp only
  cases h2 : firstW (apAll (List.range n) (wsOf n a)) (wsOf n b) (0 + (wsOf n a).length) with
  | none => exact .inl (by simp [fi])
  | some k =>
    have := firstW_ge h2
    have e : (wsOf n a).length = a.length := by simp [wsOf]
    exact .inr (by simp only [fi]; omega)
theorem first_take {n : Nat} {a : List CR} {k : Nat} (h : firstW (List.range n) (wsOf n a) 0 = some k) : firstW (List.range n) (wsOf n (a.take k)) 0 = none := by
  have h1 := firstW_ge h
  have e : a = a.take k ++ a.drop k := (List.take_append_drop k a).symm
  rw [e, ws_app, firstW_append] at h
  cases h2 : firstW (List.range n) (wsOf n (a.take k)) 0 with
  | none => rfl
  | some j =>
    rw [h2] at h
    simp only at h
    injection h with h; subst h
    have := firstW_ge h2
    have e2 : (wsOf n (a.take j)).length ≤ j := by simp [wsOf]; omega
    omega
theorem first_less {n : Nat} {a : List CR} {j : Nat} (hj : j < a.length) (h : firstW (List.range n) (wsOf n a) 0 = none) : firstW (List.range n) (wsOf n (a.take j ++ a.drop (j + 1))) 0 = none := by
  have e : a = a.take j ++ a[j] :: a.drop (j + 1) := by rw [← List.drop_eq_getElem_cons hj, List.take_append_drop]
  have h3 := wsOf_in n a
  rw [e, ws_app] at h h3
  rw [ws_app]
  exact firstW_fewer h3 h
theorem sm_app {a b : List CR} {L : Nat} (h1 : ∀ c ∈ a, SmC L c) (h2 : ∀ c ∈ b, SmC L c) : ∀ c ∈ a ++ b, SmC L c := fun c hc => by
  rcases List.mem_append.1 hc with h | h
  · exact h1 c h
  · exact h2 c h
theorem c_ForestT {M N9 : List Nat} {w : World} {vl : Value} {cs : List CR} {z0 : Int} (hL : Lay rdC N9 w vl cs) (hbd : Bd M w) (hsm : ∀ c ∈ cs, SmC 1099511627776 c) (h : firstW (List.range (held z0)) (wsOf (held z0) cs) 0 = none) : Ret Try.prog 19 #[vl, .int .i64 z0] w (fun x w' => x = .bool true ∧ Mod [] w w') :=
  (c_Forest hL hbd hsm).mono fun x w' ⟨h1, h2⟩ => ⟨by rw [h1]; simp [h], h2⟩
theorem and_1023 (z : Int) (h1 : -9223372036854775808 ≤ z) (h2 : z ≤ 9223372036854775807) : ∃ m : Nat, andI .i64 z 1023 = (m : Int) ∧ m ≤ 1023 := by
  refine ⟨(BitVec.ofInt 64 z &&& BitVec.ofInt 64 1023).toNat, ?_, ?_⟩
  · have h3 : andI .i64 z 1023 = IntKind.i64.wrap ((BitVec.ofInt 64 z &&& BitVec.ofInt 64 1023).toNat : Int) := rfl
    have h4 : (BitVec.ofInt 64 z &&& BitVec.ofInt 64 1023).toNat ≤ 1023 := by
      rw [BitVec.toNat_and]; exact Nat.le_trans Nat.and_le_right (by decide)
    rw [h3, wrap_i64 (by omega) (by omega)]
  · rw [BitVec.toNat_and]; exact Nat.le_trans Nat.and_le_right (by decide)

theorem c_GraphFewer {w : World} {vl vm : Value} {cs ms : List CR} {z0 z1 : Int} (hL : Lay rdC [] w vl cs) (hM : Lay rdC [] w vm ms) (hb : szCs cs ≤ 4194304) (hb2 : szCs ms ≤ 4194304) (hz1 : -9223372036854775808 ≤ z1) (hz2 : z1 ≤ 9223372036854775807) :
    Ret Try.prog 4 #[vl, vm, .int .i64 z0, .int .i64 z1] w (fun r w' => r = .bool true ∧ Mod [] w w') := by
  obtain ⟨TL, tL, rfl⟩ := hL.form
  obtain ⟨TM, tM, rfl⟩ := hM.form
  have hcl := cs_len cs
  have hcm := cs_len ms
  obtain ⟨hcap1, hcap2, _⟩ := hL.capOf
  refine Ret.of (vs := [.slice TL cs.length tL, .slice TM ms.length tM, .int .i64 z0, .int .i64 z1]) (n := 81) Try.func4 rfl rfl rfl rfl ?_
  have hm0 : Mod [] w w := Mod.refl _ _
  refine W.seq ?_
  refine W.region ?_
  refine L.v (R1.assign rfl) rfl ?_
  refine L.nil ?_
  refine X.seq ?_
  refine W.seq ?_
  refine W.seq ?_
  refine W.region ?_
  refine L.v (R1.move rfl) rfl ?_
  refine L.call rfl (c_heavy_pantographlaw11 hL hb) rfl ?_
  rintro _ w1 ⟨rfl, hm1⟩
  replace hL := hL.gr hm1
  replace hM := hM.gr hm1
  replace hm0 := hm0.trans hm1
  clear hm1
  refine L.v (R1.move rfl) rfl ?_
  cases hgd16 : (decide (150 < szCs cs))
  ·
    have hcc_ := hgd16
    refine L.on rfl rfl rfl (R1.move rfl) rfl ?_
    refine L.callOn rfl rfl rfl rfl (c_heavy_pantographlaw11 hM hb2) rfl ?_
    rintro _ w2 ⟨rfl, hm2⟩
    replace hL := hL.gr hm2
    replace hM := hM.gr hm2
    replace hm0 := hm0.trans hm2
    clear hm2
    refine L.v (R1.pickF rfl rfl) rfl ?_
    refine L.nil ?_
    refine X.seq ?_
    refine W.cond rfl ?_ ?_
    ·
      intro hc19
      have hcc_ := hc19
      refine W.seq ?_
      refine W.region ?_
      refine L.v (R1.assign rfl) rfl ?_
      refine L.nil ?_
      refine X.seq ?_
      refine W.ret ?_
      refine X.thenRet ?_
      refine X.result1 rfl (.tmp rfl .nil) ?_
      exact ⟨rfl, hm0⟩
    ·
      intro hc19
      have hcc_ := hc19
      have hh := hgd16
      have hsm : ∀ c ∈ cs, SmC 1099511627776 c := fun c hc => (sm_of_all (L := 150) (by simpa using hh) c hc).mono (by decide)
      have hsm2 : ∀ c ∈ ms, SmC 1099511627776 c := fun c hc => (sm_of_all (L := 150) (by simpa using hc19) c hc).mono (by decide)
      refine W.skip ?_
      refine X.seq ?_
      refine W.seq ?_
      refine W.region ?_
      refine L.v (R1.move rfl) rfl ?_
      refine L.v (R1.move rfl) rfl ?_
      refine L.call rfl (c_First (M := []) hL (fun m h9 => by cases h9) hsm) rfl ?_
      rintro _ w3 ⟨rfl, hm3⟩
      replace hL := hL.gr hm3
      replace hM := hM.gr hm3
      replace hm0 := hm0.trans hm3
      clear hm3
      refine L.v (R1.assign rfl) rfl ?_
      refine L.nil ?_
      refine X.seq ?_
      refine W.seq ?_
      refine W.region ?_
      refine L.buildEmpty tyS23 rfl ?_
      intro g23 w4 hN23
      replace hL := hL.new hN23
      replace hM := hM.new hN23
      have hge_g23 := New.ge hN23 hm0.size
      replace hm0 := hm0.trans (hN23.mod.mono (by simp))
      have hb23 := hN23.blk
      clear hN23
      have hown : World.ownsRow w4 w.heap.size 29 5 (.slice (some ⟨g23, 0, none⟩) 0 0) 0 ([] : List (List Value)).flatten := ⟨rfl, .inr ⟨g23, 0, #[], rfl, hge_g23, hb23, Nat.le_refl _, by decide, rfl, rfl⟩⟩
      clear hb23
      obtain ⟨v23, hv_⟩ : ∃ v, v = Value.slice (some ⟨g23, 0, none⟩) 0 0 := ⟨_, rfl⟩
      have hol : ownL v23 = [g23] := by rw [hv_]; rfl
      rw [← hv_] at hown ⊢
      replace hL := hL.sub (of_cons (M := []) hol)
      replace hM := hM.sub (of_cons (M := []) hol)
      clear hv_ hol
      have ho := hown; clear hown
      refine L.v (R1.move rfl) rfl ?_
      have hL_ := hL
      obtain ⟨css, hs1, hl1⟩ := hL_
      refine L.append rfl rfl ho hs1 (hl1.ones) tyS23 tyZ29 (by omega) (by unfold maxLen; omega) hm0.size rfl ?_
      intro v25 w5 ho25' hG25
      replace hL := hL.grew2 hG25 (by first | exact mem_own | (intro b hb; simp [hb]))
      replace hM := hM.grew2 hG25 (by first | exact mem_own | (intro b hb; simp [hb]))
      replace hm0 := Mod.oldOwn hm0 hG25.mod ho
      replace hl1 := hl1.grew2 hG25 (by first | exact mem_own | (intro b hb; simp [hb]))
      replace ho := ho25'; clear ho25'
      clear hG25
      refine L.v (R1.move rfl) rfl ?_
      have hM_ := hM
      obtain ⟨dss, hs2, hl2⟩ := hM_
      refine L.append rfl rfl ho hs2 (hl2.ones) tyS23 tyZ29 (by omega) (by unfold maxLen; omega) hm0.size rfl ?_
      intro v27 w6 ho27' hG27
      replace hL := hL.grew2 hG27 (by first | exact mem_own | (intro b hb; simp [hb]))
      replace hM := hM.grew2 hG27 (by first | exact mem_own | (intro b hb; simp [hb]))
      replace hm0 := Mod.oldOwn hm0 hG27.mod ho
      replace hl1 := hl1.grew2 hG27 (by first | exact mem_own | (intro b hb; simp [hb]))
      replace hl2 := hl2.grew2 hG27 (by first | exact mem_own | (intro b hb; simp [hb]))
      replace ho := ho27'; clear ho27'
      clear hG27
      refine L.v (R1.assign rfl) rfl ?_
      have hA : Lay rdC [] w6 v27 (cs ++ ms) := Lay.of_own (css := css ++ dss) (own_congr ho (by simp) (by simp)) ((hl1.sub (M' := []) (fun m h9 => by cases h9)).append (hl2.sub (fun m h9 => by cases h9))) (by simp)
      replace hL := hL.sub (M' := []) (fun m h9 => by cases h9)
      refine L.nil ?_
      refine X.seq ?_
      refine W.seq ?_
      refine W.seq ?_
      refine W.region ?_
      refine L.v (R1.move rfl) rfl ?_
      refine L.v (R1.ge rfl rfl) rfl ?_
      refine L.nil ?_
      refine X.seq ?_
      refine W.cond rfl ?_ ?_
      ·
        intro hc29
        simp only [Bool.not_eq_true', Bool.not_eq_false', decide_eq_true_eq, decide_eq_false_iff_not, Int.not_lt, Int.not_le] at hc29
        obtain ⟨k, hFk, hFe⟩ := fi_nonneg hc29
        have hkl := firstW_ge hFk; simp only [wsOf, List.length_map] at hkl
        refine W.seq ?_
        refine W.region ?_
        refine L.v (R1.move rfl) rfl ?_
        refine L.v (R1.move rfl) rfl ?_
        refine L.call rfl (c_First (M := []) hA (fun m h9 => by cases h9) (sm_app hsm hsm2)) rfl ?_
        rintro _ w7 ⟨rfl, hm7⟩
        replace hL := hL.gr hm7
        replace hm0 := hm0.trans hm7
        replace hA := hA.gr hm7
        clear hm7
        refine L.v (R1.move rfl) rfl ?_
        refine L.v ((R1.eq rfl rfl).asB (c := true) (by rw [first_app_some ms hFk, hFk]; simp)) rfl ?_
        refine L.v (R1.move rfl) rfl ?_
        refine L.on rfl rfl rfl (R1.move rfl) rfl ?_
        refine L.on rfl rfl rfl (R1.move rfl) rfl ?_
        have hcut : Lay rdC [] w7 (cutS TL tL 0 k 5) (cs.take k) := Lay.cutH hL (by omega)
        refine L.on rfl rfl rfl ((R1.sliceH rfl rfl tyS23 (by omega) (by omega)).asV (v := cutS TL tL 0 k 5) (by rw [hFe, Int.toNat_natCast])) rfl ?_
        refine L.on rfl rfl rfl (R1.move rfl) rfl ?_
        refine L.callOn rfl rfl rfl rfl (c_ForestT (M := []) hcut (fun m h9 => by cases h9) (fun c h9 => hsm c (List.mem_of_mem_take h9)) (first_take hFk)) rfl ?_
        rintro _ w8 ⟨rfl, hm8⟩
        replace hL := hL.gr hm8
        replace hm0 := hm0.trans hm8
        replace hA := hA.gr hm8
        replace hcut := hcut.gr hm8
        clear hm8
        refine L.v (R1.pickT rfl rfl) rfl ?_
        refine L.v (R1.move rfl) rfl ?_
        refine L.callOn rfl rfl rfl rfl (c_known11) rfl ?_
        rintro _ w9 ⟨rfl, hm9⟩
        replace hL := hL.gr hm9
        replace hm0 := hm0.trans hm9
        replace hA := hA.gr hm9
        replace hcut := hcut.gr hm9
        clear hm9
        refine L.v (R1.pickT rfl rfl) rfl ?_
        refine L.v (R1.assign rfl) rfl ?_
        refine L.nil ?_
        refine X.seq ?_
        refine W.ret ?_
        refine X.thenRet ?_
        refine X.result1 rfl (.tmp rfl .nil) ?_
        exact ⟨rfl, hm0⟩
      ·
        intro hc29
        simp only [Bool.not_eq_true', Bool.not_eq_false', decide_eq_true_eq, decide_eq_false_iff_not, Int.not_lt, Int.not_le] at hc29
        have hF := fi_none hc29
        refine W.skip ?_
        refine X.seq ?_
        refine W.seq ?_
        refine W.seq ?_
        refine W.region ?_
        refine L.v (R1.move rfl) rfl ?_
        refine L.v (R1.lenLay rfl hL tyS23) rfl ?_
        refine L.v (R1.gt rfl rfl) rfl ?_
        refine L.nil ?_
        refine X.seq ?_
        refine W.cond rfl ?_ ?_
        ·
          intro hc47
          try simp only [decide_eq_true_eq, decide_eq_false_iff_not, Bool.not_eq_true', Bool.not_eq_false', Int.not_lt, Int.not_le, ne_eq, Decidable.not_not] at hc47
          refine W.seq ?_
          refine W.region ?_
          refine L.v (R1.move rfl) rfl ?_
          obtain ⟨m, hm1, hm2⟩ := and_1023 z1 hz1 hz2
          refine L.v ((R1.and rfl rfl).as (j := (m : Int)) (hm1)) rfl ?_
          refine L.v (R1.move rfl) rfl ?_
          refine L.v (R1.lenLay rfl hL tyS23) rfl ?_
          refine L.v (R1.remI rfl rfl (by omega)) rfl ?_
          refine L.v (R1.assign rfl) rfl ?_
          have hj : m % cs.length < cs.length := Nat.mod_lt _ (by omega)
          obtain ⟨j, hje⟩ : ∃ j, j = m % cs.length := ⟨_, rfl⟩
          rw [← hje] at hj ⊢
          have hcA : Lay rdC [] w6 (cutS TL tL 0 j 5) (cs.take j) := Lay.cutH hL (by omega)
          have hcB : Lay rdC [] w6 (cutS TL tL (j + 1) cs.length 5) (cs.drop (j + 1)) := Lay.cutL hL (by omega)
          refine L.nil ?_
          refine X.seq ?_
          refine W.seq ?_
          refine W.drawW (T := [9, 10]) rfl (by decide +kernel) (NoHang.then (NoHang.then NoHang.post)) (fun w10 hm10 => ?_)
          replace hL := hL.gr hm10
          replace hm0 := hm0.trans hm10
          replace hA := hA.gr hm10
          replace hcA := hcA.gr hm10
          replace hcB := hcB.gr hm10
          have hS1 : Mod [] w10 w10 := Mod.refl _ _
          clear hm10
          refine D.take 1 rfl (by decide +kernel) (fun w_ hS => (R1.move rfl)) hS1 rfl ?_
          refine D.take 2 rfl (by decide +kernel) (fun w_ hS => (R1.move rfl)) hS1 rfl ?_
          refine D.take 3 rfl (by decide +kernel) (fun w_ hS => ((R1.sliceH rfl rfl tyS23 (by omega) (by omega)).asV (v := cutS TL tL 0 j 5) (by rw [Int.toNat_natCast]))) hS1 rfl ?_
          refine D.take 5 rfl (by decide +kernel) (fun w_ hS => (R1.move rfl)) hS1 rfl ?_
          refine D.take 6 rfl (by decide +kernel) (fun w_ hS => (R1.move rfl)) hS1 rfl ?_
          refine D.take 7 rfl (by decide +kernel) (fun w_ hS => (R1.addI (b := 1) rfl rfl (by omega))) hS1 rfl ?_
          refine D.take 8 rfl (by decide +kernel) (fun w_ hS => ((R1.sliceL rfl rfl tyS23 (by omega) (by omega)).asV (v := cutS TL tL (j + 1) cs.length 5) (by rw [Int.toNat_natCast]))) hS1 rfl ?_
          refine D.one 0 rfl (by decide +kernel) (fun hX => ?_)
          refine L.buildEmpty tyS23 rfl ?_
          intro g53 w11 hN53
          have hgs_g53 := New.ge hN53 hS1.size
          replace hS1 := hS1.trans hN53.mod
          replace hL := hL.new hN53
          have hge_g53 := New.ge hN53 hm0.size
          replace hm0 := hm0.trans (hN53.mod.mono (by simp))
          replace hA := hA.new hN53
          replace hcA := hcA.new hN53
          replace hcB := hcB.new hN53
          have hb53 := hN53.blk
          clear hN53
          refine L.nil (hX _ _ ⟨.inr hS1, ?_⟩)
          have hown : World.ownsRow w11 w.heap.size 29 5 (.slice (some ⟨g53, 0, none⟩) 0 0) 0 ([] : List (List Value)).flatten := ⟨rfl, .inr ⟨g53, 0, #[], rfl, hge_g53, hb53, Nat.le_refl _, by decide, rfl, rfl⟩⟩
          clear hb53
          obtain ⟨v53, hv_⟩ : ∃ v, v = Value.slice (some ⟨g53, 0, none⟩) 0 0 := ⟨_, rfl⟩
          have hol : ownL v53 = [g53] := by rw [hv_]; rfl
          have hgsv : ∀ g, v53.ownBlock = some g → _ ≤ g := fun g h9 => by rw [hv_] at h9; simp only [Value.ownBlock, Option.some.injEq] at h9; subst h9; exact hgs_g53
          rw [← hv_] at hown ⊢
          replace hL := hL.sub (of_cons (M := []) hol)
          replace hA := hA.sub (of_cons (M := []) hol)
          replace hcA := hcA.sub (of_cons (M := []) hol)
          replace hcB := hcB.sub (of_cons (M := []) hol)
          clear hv_ hol
          have ho := hown; clear hown
          have hl9 : (cs.take j).length = j := by rw [List.length_take]; omega
          have hl8 : (cs.drop (j + 1)).length = cs.length - (j + 1) := List.length_drop
          have hcA_ := hcA
          obtain ⟨css, hs1, hl1⟩ := hcA_
          refine D.one 4 rfl (by decide +kernel) (fun hX => ?_)
          refine L.append rfl rfl ho hs1 (hl1.ones) tyS23 tyZ29 (by omega) (by unfold maxLen; omega) hm0.size rfl ?_
          intro v57 w12 ho57' hG57
          replace hL := hL.grew2 hG57 (by first | exact mem_own | (intro b hb; simp [hb]))
          replace hm0 := Mod.oldOwn hm0 hG57.mod ho
          replace hA := hA.grew2 hG57 (by first | exact mem_own | (intro b hb; simp [hb]))
          replace hcA := hcA.grew2 hG57 (by first | exact mem_own | (intro b hb; simp [hb]))
          replace hcB := hcB.grew2 hG57 (by first | exact mem_own | (intro b hb; simp [hb]))
          replace hl1 := hl1.grew2 hG57 (by first | exact mem_own | (intro b hb; simp [hb]))
          replace ho := ho57'; clear ho57'
          replace hS1 := hS1.grew hG57 (hgsv)
          clear hG57
          refine L.nil (hX _ _ ⟨.inr hS1, ?_⟩)
          have hcB_ := hcB
          obtain ⟨dss, hs2, hl2⟩ := hcB_
          refine D.one 9 rfl (by decide +kernel) (fun hX => ?_)
          refine L.append rfl rfl ho hs2 (hl2.ones) tyS23 tyZ29 (by omega) (by unfold maxLen; omega) hm0.size rfl ?_
          intro v62 w13 ho62' hG62
          replace hL := hL.grew2 hG62 (by first | exact mem_own | (intro b hb; simp [hb]))
          replace hm0 := Mod.oldOwn hm0 hG62.mod ho
          replace hA := hA.grew2 hG62 (by first | exact mem_own | (intro b hb; simp [hb]))
          replace hcA := hcA.grew2 hG62 (by first | exact mem_own | (intro b hb; simp [hb]))
          replace hcB := hcB.grew2 hG62 (by first | exact mem_own | (intro b hb; simp [hb]))
          replace hl1 := hl1.grew2 hG62 (by first | exact mem_own | (intro b hb; simp [hb]))
          replace hl2 := hl2.grew2 hG62 (by first | exact mem_own | (intro b hb; simp [hb]))
          replace ho := ho62'; clear ho62'
          clear hG62
          refine L.nil (hX _ _ ⟨.inl rfl, ?_⟩)
          refine D.one 10 rfl (by decide +kernel) (fun hX => ?_)
          refine L.v (R1.assign rfl) rfl (L.nil (hX _ _ ⟨.inl rfl, ?_⟩))
          have hE : Lay rdC [] w13 v62 (cs.take j ++ cs.drop (j + 1)) := Lay.of_own (css := css ++ dss) (own_congr ho (by simp) (by simp)) ((hl1.sub (M' := []) (fun m h9 => by cases h9)).append (hl2.sub (fun m h9 => by cases h9))) (by simp)
          replace hL := hL.sub (M' := []) (fun m h9 => by cases h9)
          replace hA := hA.sub (M' := []) (fun m h9 => by cases h9)
          refine D.done (by decide +kernel) ?_ _
          refine X.seq ?_
          refine W.seq ?_
          refine W.region ?_
          refine L.v (R1.move rfl) rfl ?_
          refine L.v (R1.move rfl) rfl ?_
          refine L.call rfl (c_ForestT (M := []) hE (fun m h9 => by cases h9) (sm_app (fun c h9 => hsm c (List.mem_of_mem_take h9)) (fun c h9 => hsm c (List.mem_of_mem_drop h9))) (first_less hj hF)) rfl ?_
          rintro _ w14 ⟨rfl, hm14⟩
          replace hL := hL.gr hm14
          replace hm0 := hm0.trans hm14
          replace hA := hA.gr hm14
          replace hE := hE.gr hm14
          clear hm14
          refine L.v ((R1.not rfl).asB (c := false) rfl) rfl ?_
          refine L.nil ?_
          refine X.seq ?_
          refine W.condF rfl ?_
          refine W.skip ?_
          refine X.seq ?_
          refine W.seq ?_
          refine W.region ?_
          refine L.v (R1.move rfl) rfl ?_
          refine L.v (R1.move rfl) rfl ?_
          refine L.call rfl (c_First (M := []) hA (fun m h9 => by cases h9) (sm_app hsm hsm2)) rfl ?_
          rintro _ w15 ⟨rfl, hm15⟩
          replace hL := hL.gr hm15
          replace hm0 := hm0.trans hm15
          replace hA := hA.gr hm15
          replace hE := hE.gr hm15
          clear hm15
          refine L.v (R1.assign rfl) rfl ?_
          refine L.nil ?_
          refine X.seq ?_
          refine W.seq ?_
          refine W.region ?_
          refine L.v (R1.move rfl) rfl ?_
          refine L.v ((R1.lt rfl rfl).asB (c := (decide (fi (firstW (List.range (held z0)) (wsOf (held z0) (cs ++ ms)) 0) < 0))) (rfl)) rfl ?_
          refine L.v (R1.move rfl) rfl ?_
          cases hgd72 : (decide (fi (firstW (List.range (held z0)) (wsOf (held z0) (cs ++ ms)) 0) < 0))
          ·
            simp only [Bool.not_eq_true', Bool.not_eq_false', decide_eq_true_eq, decide_eq_false_iff_not, Int.not_lt, Int.not_le] at hgd72
            refine L.on rfl rfl rfl (R1.move rfl) rfl ?_
            refine L.on rfl rfl rfl (R1.move rfl) rfl ?_
            refine L.on rfl rfl rfl (R1.lenLay rfl hL tyS23) rfl ?_
            refine L.on rfl rfl rfl ((R1.ge rfl rfl).asB (c := true) (decide_eq_true ((first_app_none ms hF).resolve_left (by omega)))) rfl ?_
            refine L.v (R1.pickF rfl rfl) rfl ?_
            refine L.v (R1.move rfl) rfl ?_
            refine L.callOn rfl rfl rfl rfl (c_known11) rfl ?_
            rintro _ w16 ⟨rfl, hm16⟩
            replace hL := hL.gr hm16
            replace hm0 := hm0.trans hm16
            replace hA := hA.gr hm16
            replace hE := hE.gr hm16
            clear hm16
            refine L.v (R1.pickT rfl rfl) rfl ?_
            refine L.v (R1.assign rfl) rfl ?_
            refine L.nil ?_
            refine X.seq ?_
            refine W.ret ?_
            refine X.result1 rfl (.tmp rfl .nil) ?_
            exact ⟨rfl, hm0⟩
          ·
            simp only [Bool.not_eq_true', Bool.not_eq_false', decide_eq_true_eq, decide_eq_false_iff_not, Int.not_lt, Int.not_le] at hgd72
            refine L.off rfl rfl rfl rfl rfl ?_
            refine L.off rfl rfl rfl rfl rfl ?_
            refine L.off rfl rfl rfl rfl rfl ?_
            refine L.off rfl rfl rfl rfl rfl ?_
            refine L.v (R1.pickT rfl rfl) rfl ?_
            refine L.v (R1.move rfl) rfl ?_
            refine L.callOn rfl rfl rfl rfl (c_known11) rfl ?_
            rintro _ w17 ⟨rfl, hm17⟩
            replace hL := hL.gr hm17
            replace hm0 := hm0.trans hm17
            replace hA := hA.gr hm17
            replace hE := hE.gr hm17
            clear hm17
            refine L.v (R1.pickT rfl rfl) rfl ?_
            refine L.v (R1.assign rfl) rfl ?_
            refine L.nil ?_
            refine X.seq ?_
            refine W.ret ?_
            refine X.result1 rfl (.tmp rfl .nil) ?_
            exact ⟨rfl, hm0⟩
        ·
          intro hc47
          try simp only [decide_eq_true_eq, decide_eq_false_iff_not, Bool.not_eq_true', Bool.not_eq_false', Int.not_lt, Int.not_le, ne_eq, Decidable.not_not] at hc47
          refine W.skip ?_
          refine X.seq ?_
          refine W.seq ?_
          refine W.region ?_
          refine L.v (R1.move rfl) rfl ?_
          refine L.v (R1.move rfl) rfl ?_
          refine L.call rfl (c_First (M := []) hA (fun m h9 => by cases h9) (sm_app hsm hsm2)) rfl ?_
          rintro _ w18 ⟨rfl, hm18⟩
          replace hL := hL.gr hm18
          replace hm0 := hm0.trans hm18
          replace hA := hA.gr hm18
          clear hm18
          refine L.v (R1.assign rfl) rfl ?_
          refine L.nil ?_
          refine X.seq ?_
          refine W.seq ?_
          refine W.region ?_
          refine L.v (R1.move rfl) rfl ?_
          refine L.v ((R1.lt rfl rfl).asB (c := (decide (fi (firstW (List.range (held z0)) (wsOf (held z0) (cs ++ ms)) 0) < 0))) (rfl)) rfl ?_
          refine L.v (R1.move rfl) rfl ?_
          cases hgd72 : (decide (fi (firstW (List.range (held z0)) (wsOf (held z0) (cs ++ ms)) 0) < 0))
          ·
            simp only [Bool.not_eq_true', Bool.not_eq_false', decide_eq_true_eq, decide_eq_false_iff_not, Int.not_lt, Int.not_le] at hgd72
            refine L.on rfl rfl rfl (R1.move rfl) rfl ?_
            refine L.on rfl rfl rfl (R1.move rfl) rfl ?_
            refine L.on rfl rfl rfl (R1.lenLay rfl hL tyS23) rfl ?_
            refine L.on rfl rfl rfl ((R1.ge rfl rfl).asB (c := true) (decide_eq_true ((first_app_none ms hF).resolve_left (by omega)))) rfl ?_
            refine L.v (R1.pickF rfl rfl) rfl ?_
            refine L.v (R1.move rfl) rfl ?_
            refine L.callOn rfl rfl rfl rfl (c_known11) rfl ?_
            rintro _ w19 ⟨rfl, hm19⟩
            replace hL := hL.gr hm19
            replace hm0 := hm0.trans hm19
            replace hA := hA.gr hm19
            clear hm19
            refine L.v (R1.pickT rfl rfl) rfl ?_
            refine L.v (R1.assign rfl) rfl ?_
            refine L.nil ?_
            refine X.seq ?_
            refine W.ret ?_
            refine X.result1 rfl (.tmp rfl .nil) ?_
            exact ⟨rfl, hm0⟩
          ·
            simp only [Bool.not_eq_true', Bool.not_eq_false', decide_eq_true_eq, decide_eq_false_iff_not, Int.not_lt, Int.not_le] at hgd72
            refine L.off rfl rfl rfl rfl rfl ?_
            refine L.off rfl rfl rfl rfl rfl ?_
            refine L.off rfl rfl rfl rfl rfl ?_
            refine L.off rfl rfl rfl rfl rfl ?_
            refine L.v (R1.pickT rfl rfl) rfl ?_
            refine L.v (R1.move rfl) rfl ?_
            refine L.callOn rfl rfl rfl rfl (c_known11) rfl ?_
            rintro _ w20 ⟨rfl, hm20⟩
            replace hL := hL.gr hm20
            replace hm0 := hm0.trans hm20
            replace hA := hA.gr hm20
            clear hm20
            refine L.v (R1.pickT rfl rfl) rfl ?_
            refine L.v (R1.assign rfl) rfl ?_
            refine L.nil ?_
            refine X.seq ?_
            refine W.ret ?_
            refine X.result1 rfl (.tmp rfl .nil) ?_
            exact ⟨rfl, hm0⟩
  ·
    have hcc_ := hgd16
    refine L.off rfl rfl rfl rfl rfl ?_
    refine L.off rfl rfl rfl rfl rfl ?_
    refine L.v (R1.pickT rfl rfl) rfl ?_
    refine L.nil ?_
    refine X.seq ?_
    refine W.condT rfl ?_
    refine W.seq ?_
    refine W.region ?_
    refine L.v (R1.assign rfl) rfl ?_
    refine L.nil ?_
    refine X.seq ?_
    refine W.ret ?_
    refine X.thenRet ?_
    refine X.result1 rfl (.tmp rfl .nil) ?_
    exact ⟨rfl, hm0⟩

end Go.Proofs.Ytjeodekhamdcmaa
