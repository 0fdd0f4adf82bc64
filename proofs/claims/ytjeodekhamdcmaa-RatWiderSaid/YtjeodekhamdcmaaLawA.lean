/- Walks: what the functions compute. -/
import Derived.Test.YtjeodekhamdcmaaRatB
namespace Go.Proofs.Ytjeodekhamdcmaa
open Go.RowKit
set_option linter.unusedVariables false
set_option linter.unusedSimpArgs false
set_option maxRecDepth 10000
theorem c_limbs2 {M N9 : List Nat} {w : World} {va vb : Value} {xs ys : List Nat} (h : U32 M w va xs) (k0 : U32 N9 w vb ys) :
    Ret Try.prog 61 #[va, vb] w (fun r w' => r = .bool (decide (xs = ys)) ∧ Mod [] w w') := by
  have hmax := h.1.max; unfold maxLen at hmax
  refine Ret.of (vs := [va, vb]) (n := 26) Try.func61 rfl rfl rfl rfl ?_
  have hm0 : Mod [] w w := Mod.refl _ _
  refine W.seq ?_
  refine W.region ?_
  refine L.v (R1.assign rfl) rfl ?_
  refine L.nil ?_
  refine X.seq ?_
  refine W.seq ?_
  refine W.seq ?_
  refine W.region ?_
  refine L.v (R1.move rfl) rfl ?_
  refine L.v (R1.lenU rfl h tyS25) rfl ?_
  refine L.v (R1.move rfl) rfl ?_
  refine L.v (R1.lenU rfl k0 tyS25) rfl ?_
  refine L.v (R1.ne rfl rfl) rfl ?_
  refine L.nil ?_
  refine X.seq ?_
  refine W.cond rfl ?_ ?_
  ·
    intro hc10
    try simp only [decide_eq_true_eq, decide_eq_false_iff_not, Bool.not_eq_true', Bool.not_eq_false', Int.not_lt, Int.not_le, ne_eq, Decidable.not_not] at hc10
    refine W.seq ?_
    refine W.region ?_
    refine L.v (R1.assign rfl) rfl ?_
    refine L.nil ?_
    refine X.seq ?_
    refine W.ret ?_
    refine X.thenRet ?_
    refine X.result1 rfl (.tmp rfl .nil) ?_
    refine ⟨?_, hm0⟩
    rw [decide_eq_false (fun e => by subst e; omega)]
  ·
    intro hc10
    try simp only [decide_eq_true_eq, decide_eq_false_iff_not, Bool.not_eq_true', Bool.not_eq_false', Int.not_lt, Int.not_le, ne_eq, Decidable.not_not] at hc10
    have hlen : xs.length = ys.length := by omega
    refine W.skip ?_
    refine X.seq ?_
    refine W.seq ?_
    refine W.seq ?_
    refine W.region ?_
    refine L.v (R1.assign rfl) rfl ?_
    refine L.nil ?_
    refine X.seq ?_
    refine W.block ?_
    refine W.loop (ι := Nat) (fun k => [(0, va), (1, vb), (5, .int .i64 (k : Int))]) (fun k w_ => k ≤ xs.length ∧ xs.take k = ys.take k ∧ U32 M w_ va xs ∧ U32 N9 w_ vb ys ∧ Mod [] w w_) (fun k => xs.length - k) 0 ?_ ?_ ?_
    · exact ⟨rfl, rfl, rfl, trivial⟩
    ·
      exact ⟨Nat.zero_le _, rfl, h, k0, hm0⟩
    ·
      rintro k w1 ⟨hk, he, h, k0, hm0⟩
      refine W.seq ?_
      refine W.seq ?_
      refine W.region ?_
      refine L.v (R1.move rfl) rfl ?_
      refine L.v (R1.move rfl) rfl ?_
      refine L.v (R1.lenU rfl h tyS25) rfl ?_
      refine L.v (R1.lt rfl rfl) rfl ?_
      refine L.nil ?_
      refine X.seq ?_
      refine W.cond rfl ?_ ?_
      ·
        intro hc14
        try simp only [decide_eq_true_eq, decide_eq_false_iff_not, Bool.not_eq_true', Bool.not_eq_false', Int.not_lt, Int.not_le, ne_eq, Decidable.not_not] at hc14
        have hk1 : k < xs.length := by omega
        refine W.skip ?_
        refine X.seq ?_
        refine W.seq ?_
        refine W.block ?_
        refine W.seq ?_
        refine W.drawW (T := []) rfl (by decide +kernel) (NoHang.then (NoHang.block (NoHang.then (NoHang.next (NoHang.block (NoHang.then NoHang.post)))))) (fun w2 hm2 => ?_)
        replace h := h.gr hm2
        replace k0 := k0.gr hm2
        replace hm0 := hm0.trans hm2
        have hS1 : Mod [] w2 w2 := Mod.refl _ _
        clear hm2
        refine D.take 0 rfl (by decide +kernel) (fun w_ hS => (R1.move rfl)) hS1 rfl ?_
        refine D.take 1 rfl (by decide +kernel) (fun w_ hS => (R1.move rfl)) hS1 rfl ?_
        refine D.take 2 rfl (by decide +kernel) (fun w_ hS => (R1.atU (j := k) rfl rfl (U32.gr (by assumption) hS) tyS25 rfl (by omega))) hS1 rfl ?_
        refine D.take 3 rfl (by decide +kernel) (fun w_ hS => (R1.ldU rfl (U32.gr (by assumption) hS) tyP51 (by omega) rfl)) hS1 rfl ?_
        refine D.take 4 rfl (by decide +kernel) (fun w_ hS => (R1.move rfl)) hS1 rfl ?_
        refine D.take 5 rfl (by decide +kernel) (fun w_ hS => (R1.move rfl)) hS1 rfl ?_
        refine D.take 6 rfl (by decide +kernel) (fun w_ hS => (R1.atU (j := k) rfl rfl (U32.gr (by assumption) hS) tyS25 rfl (by omega))) hS1 rfl ?_
        refine D.take 7 rfl (by decide +kernel) (fun w_ hS => (R1.ldU rfl (U32.gr (by assumption) hS) tyP51 (by omega) rfl)) hS1 rfl ?_
        refine D.take 8 rfl (by decide +kernel) (fun w_ hS => (R1.ne rfl rfl)) hS1 rfl ?_
        refine D.done (by decide +kernel) ?_ _
        refine X.seq ?_
        refine W.cond rfl ?_ ?_
        ·
          intro hc25
          try simp only [decide_eq_true_eq, decide_eq_false_iff_not, Bool.not_eq_true', Bool.not_eq_false', Int.not_lt, Int.not_le, ne_eq, Decidable.not_not] at hc25
          refine W.seq ?_
          refine W.region ?_
          refine L.v (R1.assign rfl) rfl ?_
          refine L.nil ?_
          refine X.seq ?_
          refine W.ret ?_
          refine X.blockRet ?_
          refine X.thenRet ?_
          refine X.nextRet ?_
          refine X.blockRet ?_
          refine X.thenRet ?_
          refine X.result1 rfl (.tmp rfl .nil) ?_
          refine ⟨?_, hm0⟩
          rw [decide_eq_false (fun e => by subst e; omega)]
        ·
          intro hc25
          try simp only [decide_eq_true_eq, decide_eq_false_iff_not, Bool.not_eq_true', Bool.not_eq_false', Int.not_lt, Int.not_le, ne_eq, Decidable.not_not] at hc25
          refine W.skip ?_
          refine X.blockEnd ?_
          refine X.seq ?_
          refine W.region ?_
          refine L.v (R1.move rfl) rfl ?_
          refine L.v (R1.addI (b := 1) rfl rfl (by omega)) rfl ?_
          refine L.v (R1.assign rfl) rfl ?_
          refine L.nil ?_
          refine X.next (k + 1) ?_ ?_ ?_
          · exact ⟨rfl, rfl, rfl, trivial⟩
          ·
            exact ⟨by omega, eq_step hk1 (by omega) he (by omega), h, k0, hm0⟩
          · first | omega | (dsimp only; omega)
      ·
        intro hc14
        try simp only [decide_eq_true_eq, decide_eq_false_iff_not, Bool.not_eq_true', Bool.not_eq_false', Int.not_lt, Int.not_le, ne_eq, Decidable.not_not] at hc14
        have hk1 : k = xs.length := by omega
        refine W.exit ?_
        refine X.thenExit ?_
        refine X.nextExit ?_
        refine X.here ?_
        refine X.seq ?_
        refine W.seq ?_
        refine W.region ?_
        refine L.v (R1.assign rfl) rfl ?_
        refine L.nil ?_
        refine X.seq ?_
        refine W.ret ?_
        refine X.result1 rfl (.tmp rfl .nil) ?_
        refine ⟨?_, hm0⟩
        rw [hk1, List.take_length, hlen, List.take_length] at he
        rw [decide_eq_true he]

theorem c_one {M N9 : List Nat} {w : World} {sa sb : Bool} {an ad bn bd : Value} {xa ya xb yb : List Nat} (ha : U32 M w an xa) (ka : U32 M w ad ya) (hb : U32 N9 w bn xb) (kb : U32 N9 w bd yb) :
    Ret Try.prog 28 #[.agg #[.bool sa, an, ad], .agg #[.bool sb, bn, bd]] w (fun r w' => r = .bool ((sa == sb) && (decide (xa = xb) && decide (ya = yb))) ∧ Mod [] w w') := by
  refine Ret.of (vs := [.agg #[.bool sa, an, ad], .agg #[.bool sb, bn, bd]]) (n := 24) Try.func28 rfl rfl rfl rfl ?_
  have hm0 : Mod [] w w := Mod.refl _ _
  refine W.seq ?_
  refine W.region ?_
  refine L.box rfl rfl ?_
  intro g2 w1 hN2
  replace ha := ha.new hN2
  replace ka := ka.new hN2
  replace hb := hb.new hN2
  replace kb := kb.new hN2
  have hge_g2 := New.ge hN2 hm0.size
  replace hm0 := hm0.trans (hN2.mod.mono (by simp))
  have hb2 := hN2.blk
  clear hN2
  refine L.box rfl rfl ?_
  intro g3 w2 hN3
  replace ha := ha.new hN3
  replace ka := ka.new hN3
  replace hb := hb.new hN3
  replace kb := kb.new hN3
  have hge_g3 := New.ge hN3 hm0.size
  replace hm0 := hm0.trans (hN3.mod.mono (by simp))
  have hne_g2_g3 := hb2.ne_ hN3
  replace hb2 := Blk.gr hb2 hN3.mod
  have hb3 := hN3.blk
  clear hN3
  refine L.v (R1.assign rfl) rfl ?_
  refine L.nil ?_
  refine X.seq ?_
  refine W.seq ?_
  refine W.region ?_
  refine L.v (R1.fieldAt rfl tyF27_0) rfl ?_
  refine L.v (R1.loadFld rfl hb2 rfl tyP4) rfl ?_
  refine L.v (R1.fieldAt rfl tyF27_0) rfl ?_
  refine L.v (R1.loadFld rfl hb3 rfl tyP4) rfl ?_
  refine L.v ((R1.eqB rfl rfl tyB4).asB (c := (sa == sb)) (rfl)) rfl ?_
  refine L.v (R1.move rfl) rfl ?_
  cases hgd10 : (sa == sb)
  ·
    have hcc_ := hgd10
    refine L.off rfl rfl rfl rfl rfl ?_
    refine L.off rfl rfl rfl rfl rfl ?_
    refine L.off rfl rfl rfl rfl rfl ?_
    refine L.off rfl rfl rfl rfl rfl ?_
    refine L.off rfl rfl rfl rfl rfl ?_
    refine L.v (R1.pickF rfl rfl) rfl ?_
    refine L.v (R1.move rfl) rfl ?_
    refine L.off rfl rfl rfl rfl rfl ?_
    refine L.off rfl rfl rfl rfl rfl ?_
    refine L.off rfl rfl rfl rfl rfl ?_
    refine L.off rfl rfl rfl rfl rfl ?_
    refine L.off rfl rfl rfl rfl rfl ?_
    refine L.v (R1.pickF rfl rfl) rfl ?_
    refine L.v (R1.assign rfl) rfl ?_
    refine L.nil ?_
    refine X.seq ?_
    refine W.ret ?_
    refine X.result1 rfl (.tmp rfl .nil) ?_
    refine ⟨?_, hm0⟩
    rfl
  ·
    have hcc_ := hgd10
    refine L.on rfl rfl rfl (R1.fieldAt rfl tyF27_1) rfl ?_
    refine L.on rfl rfl rfl (R1.loadFld rfl hb2 rfl tyP25) rfl ?_
    refine L.on rfl rfl rfl (R1.fieldAt rfl tyF27_1) rfl ?_
    refine L.on rfl rfl rfl (R1.loadFld rfl hb3 rfl tyP25) rfl ?_
    refine L.callOn rfl rfl rfl rfl (c_limbs2 ha hb) rfl ?_
    rintro _ w3 ⟨rfl, hm3⟩
    replace ha := ha.gr hm3
    replace ka := ka.gr hm3
    replace hb := hb.gr hm3
    replace kb := kb.gr hm3
    replace hm0 := hm0.trans hm3
    replace hb2 := Blk.gr hb2 hm3
    replace hb3 := Blk.gr hb3 hm3
    clear hm3
    refine L.v (R1.pickT rfl rfl) rfl ?_
    refine L.v (R1.move rfl) rfl ?_
    cases hgd17 : decide (xa = xb)
    ·
      have hcd_ := hgd17
      refine L.off rfl rfl rfl rfl rfl ?_
      refine L.off rfl rfl rfl rfl rfl ?_
      refine L.off rfl rfl rfl rfl rfl ?_
      refine L.off rfl rfl rfl rfl rfl ?_
      refine L.off rfl rfl rfl rfl rfl ?_
      refine L.v (R1.pickF rfl rfl) rfl ?_
      refine L.v (R1.assign rfl) rfl ?_
      refine L.nil ?_
      refine X.seq ?_
      refine W.ret ?_
      refine X.result1 rfl (.tmp rfl .nil) ?_
      refine ⟨?_, hm0⟩
      rfl
    ·
      have hcd_ := hgd17
      refine L.on rfl rfl rfl (R1.fieldAt rfl tyF27_2) rfl ?_
      refine L.on rfl rfl rfl (R1.loadFld rfl hb2 rfl tyP25) rfl ?_
      refine L.on rfl rfl rfl (R1.fieldAt rfl tyF27_2) rfl ?_
      refine L.on rfl rfl rfl (R1.loadFld rfl hb3 rfl tyP25) rfl ?_
      refine L.callOn rfl rfl rfl rfl (c_limbs2 ka kb) rfl ?_
      rintro _ w4 ⟨rfl, hm4⟩
      replace ha := ha.gr hm4
      replace ka := ka.gr hm4
      replace hb := hb.gr hm4
      replace kb := kb.gr hm4
      replace hm0 := hm0.trans hm4
      replace hb2 := Blk.gr hb2 hm4
      replace hb3 := Blk.gr hb3 hm4
      clear hm4
      refine L.v (R1.pickT rfl rfl) rfl ?_
      refine L.v (R1.assign rfl) rfl ?_
      refine L.nil ?_
      refine X.seq ?_
      refine W.ret ?_
      refine X.result1 rfl (.tmp rfl .nil) ?_
      refine ⟨?_, hm0⟩
      rfl


theorem c_oneQ {M N9 : List Nat} {w : World} {va vb : Value} {q : Rat} (ha : RN M w va q) (hb : RN N9 w vb q) : Ret Try.prog 28 #[va, vb] w (fun r w' => r = .bool true ∧ Mod [] w w') := by
  obtain ⟨A, c, B, d, rfl, h1, h2⟩ := ha
  obtain ⟨A', c', B', d', rfl, h3, h4⟩ := hb
  exact (c_one h1 h2 h3 h4).mono fun r w' ⟨e, hm⟩ => ⟨by rw [e]; simp, hm⟩

theorem c_big {w : World} {g n : Nat} {arr : Array Value} {ln ld : Nat → Nat} (hb : Blk w g 27 arr) (hr : ∀ i, i < n → ∃ A c B d, arr[i * 3 + 1]? = some (.slice A (ln i) c) ∧ arr[i * 3 + 2]? = some (.slice B (ld i) d)) (hl : ∀ i, i < n → ln i ≤ 140737488355328 ∧ ld i ≤ 140737488355328) (hn : n ≤ 1000) :
    Ret Try.prog 27 #[.slice (some ⟨g, 0, none⟩) n n] w (fun r w' => ∃ b, r = .bool b ∧ (b = false → ∀ i, i < n → ln i ≤ 16 ∧ ld i ≤ 16) ∧ Mod [] w w') := by
  refine Ret.of (vs := [.slice (some ⟨g, 0, none⟩) n n]) (n := 28) Try.func27 rfl rfl rfl rfl ?_
  have hm0 : Mod [] w w := Mod.refl _ _
  refine W.seq ?_
  refine W.region ?_
  refine L.v (R1.assign rfl) rfl ?_
  refine L.nil ?_
  refine X.seq ?_
  refine W.seq ?_
  refine W.region ?_
  refine L.v (R1.assign rfl) rfl ?_
  refine L.nil ?_
  refine X.seq ?_
  refine W.seq ?_
  refine W.seq ?_
  refine W.region ?_
  refine L.v (R1.assign rfl) rfl ?_
  refine L.nil ?_
  refine X.seq ?_
  refine W.block ?_
  refine W.loop (ι := Nat × Nat) (fun (i, s) => [(0, .slice (some ⟨g, 0, none⟩) n n), (3, .int .i64 (s : Int)), (4, .int .i64 (i : Int))]) (fun (i, s) w_ => i ≤ n ∧ s ≤ 16 ∧ (∀ j, j < i → ln j ≤ 16 ∧ ld j ≤ 16) ∧ Blk w_ g 27 arr ∧ Mod [] w w_) (fun (i, s) => n - i) (0, 0) ?_ ?_ ?_
  · exact ⟨rfl, rfl, rfl, trivial⟩
  ·
    exact ⟨Nat.zero_le _, by decide, fun j hj => by omega, hb, hm0⟩
  ·
    rintro ⟨i, s⟩ w1 ⟨hk, hs, hj, hb, hm0⟩
    refine W.seq ?_
    refine W.seq ?_
    refine W.region ?_
    refine L.v (R1.move rfl) rfl ?_
    refine L.v (R1.move rfl) rfl ?_
    refine L.v (R1.len rfl tyS63) rfl ?_
    refine L.v (R1.lt rfl rfl) rfl ?_
    refine L.nil ?_
    refine X.seq ?_
    refine W.cond rfl ?_ ?_
    ·
      intro hc8
      try simp only [decide_eq_true_eq, decide_eq_false_iff_not, Bool.not_eq_true', Bool.not_eq_false', Int.not_lt, Int.not_le, ne_eq, Decidable.not_not] at hc8
      have hi : i < n := by omega
      obtain ⟨A, c, B, d, h1, h2⟩ := hr i hi
      have hli := hl i hi
      refine W.skip ?_
      refine X.seq ?_
      refine W.seq ?_
      refine W.block ?_
      refine W.seq ?_
      refine W.drawW (T := []) rfl (by decide +kernel) (NoHang.then (NoHang.block (NoHang.then (NoHang.next (NoHang.block (NoHang.then NoHang.post)))))) (fun w2 hm2 => ?_)
      replace hb := Blk.gr hb hm2
      replace hm0 := hm0.trans hm2
      have hS1 : Mod [] w2 w2 := Mod.refl _ _
      clear hm2
      have hb_s := hb
      refine D.take 0 rfl (by decide +kernel) (fun w_ hS => (R1.move rfl)) hS1 rfl ?_
      refine D.take 1 rfl (by decide +kernel) (fun w_ hS => (R1.move rfl)) hS1 rfl ?_
      refine D.take 2 rfl (by decide +kernel) (fun w_ hS => (R1.move rfl)) hS1 rfl ?_
      refine D.take 3 rfl (by decide +kernel) (fun w_ hS => (R1.atQ (j := i) rfl rfl tyS63 rfl hi)) hS1 rfl ?_
      refine D.take 4 rfl (by decide +kernel) (fun w_ hS => (R1.fieldAt rfl tyF27_1)) hS1 rfl ?_
      refine D.take 5 rfl (by decide +kernel) (fun w_ hS => (R1.load rfl ((Blk.cell (Blk.gr hb hS) (0 + i * 3 + 1)).trans (by rw [Nat.zero_add]; exact h1)) tyP25)) hS1 rfl ?_
      refine D.take 6 rfl (by decide +kernel) (fun w_ hS => (R1.len rfl tyS25)) hS1 rfl ?_
      refine D.take 7 rfl (by decide +kernel) (fun w_ hS => (R1.addI rfl rfl (by omega))) hS1 rfl ?_
      refine D.take 8 rfl (by decide +kernel) (fun w_ hS => (R1.move rfl)) hS1 rfl ?_
      refine D.take 9 rfl (by decide +kernel) (fun w_ hS => (R1.move rfl)) hS1 rfl ?_
      refine D.take 10 rfl (by decide +kernel) (fun w_ hS => (R1.atQ (j := i) rfl rfl tyS63 rfl hi)) hS1 rfl ?_
      refine D.take 11 rfl (by decide +kernel) (fun w_ hS => (R1.fieldAt rfl tyF27_2)) hS1 rfl ?_
      refine D.take 12 rfl (by decide +kernel) (fun w_ hS => (R1.load rfl ((Blk.cell (Blk.gr hb hS) (0 + i * 3 + 2)).trans (by rw [Nat.zero_add]; exact h2)) tyP25)) hS1 rfl ?_
      refine D.take 13 rfl (by decide +kernel) (fun w_ hS => (R1.len rfl tyS25)) hS1 rfl ?_
      refine D.take 14 rfl (by decide +kernel) (fun w_ hS => (R1.addI rfl rfl (by omega))) hS1 rfl ?_
      refine D.take 15 rfl (by decide +kernel) (fun w_ hS => (R1.assign rfl)) hS1 rfl ?_
      refine D.done (by decide +kernel) ?_ _
      refine X.seq ?_
      refine W.seq ?_
      refine W.region ?_
      refine L.v (R1.move rfl) rfl ?_
      refine L.v (R1.gt rfl rfl) rfl ?_
      refine L.nil ?_
      refine X.seq ?_
      refine W.cond rfl ?_ ?_
      ·
        intro hc27
        try simp only [decide_eq_true_eq, decide_eq_false_iff_not, Bool.not_eq_true', Bool.not_eq_false', Int.not_lt, Int.not_le, ne_eq, Decidable.not_not] at hc27
        refine W.seq ?_
        refine W.region ?_
        refine L.v (R1.assign rfl) rfl ?_
        refine L.nil ?_
        refine X.seq ?_
        refine W.ret ?_
        refine X.blockRet ?_
        refine X.thenRet ?_
        refine X.nextRet ?_
        refine X.blockRet ?_
        refine X.thenRet ?_
        refine X.result1 rfl (.tmp rfl .nil) ?_
        exact ⟨true, rfl, (fun h => by cases h), hm0⟩
      ·
        intro hc27
        try simp only [decide_eq_true_eq, decide_eq_false_iff_not, Bool.not_eq_true', Bool.not_eq_false', Int.not_lt, Int.not_le, ne_eq, Decidable.not_not] at hc27
        refine W.skip ?_
        refine X.blockEnd ?_
        refine X.seq ?_
        refine W.region ?_
        refine L.v (R1.move rfl) rfl ?_
        refine L.v (R1.addI (b := 1) rfl rfl (by omega)) rfl ?_
        refine L.v (R1.assign rfl) rfl ?_
        refine L.nil ?_
        refine X.next (i + 1, s + ln i + ld i) ?_ ?_ ?_
        · exact ⟨rfl, rfl, rfl, trivial⟩
        ·
          refine ⟨by omega, by omega, fun j hj2 => ?_, hb, hm0⟩
          rcases Nat.lt_or_ge j i with h9 | h9
          · exact hj j h9
          · obtain rfl : j = i := by omega
            exact ⟨by omega, by omega⟩
        · first | omega | (dsimp only; omega)
    ·
      intro hc8
      try simp only [decide_eq_true_eq, decide_eq_false_iff_not, Bool.not_eq_true', Bool.not_eq_false', Int.not_lt, Int.not_le, ne_eq, Decidable.not_not] at hc8
      obtain rfl : i = n := by omega
      refine W.exit ?_
      refine X.thenExit ?_
      refine X.nextExit ?_
      refine X.here ?_
      refine X.seq ?_
      refine W.seq ?_
      refine W.region ?_
      refine L.v (R1.assign rfl) rfl ?_
      refine L.nil ?_
      refine X.seq ?_
      refine W.ret ?_
      refine X.result1 rfl (.tmp rfl .nil) ?_
      exact ⟨false, rfl, fun _ => hj, hm0⟩

end Go.Proofs.Ytjeodekhamdcmaa
