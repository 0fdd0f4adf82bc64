/- Walks: what the functions compute. -/
import Derived.Test.YtjeodekhamdcmaaLawB
import Derived.Test.YtjeodekhamdcmaaRatI
import Derived.Test.YtjeodekhamdcmaaOwnI
import Derived.Test.YtjeodekhamdcmaaWid
namespace Go.Proofs.Ytjeodekhamdcmaa
open Go.RowKit
set_option linter.unusedVariables false
set_option linter.unusedSimpArgs false
set_option maxRecDepth 10000

theorem rv_k (k : Nat) : rv false (val [k]) (val [1]) = (((k : Int)) : Rat) := by
  have h1 : val [k] = k := by simp [val]
  have h2 : val [1] = 1 := by simp [val]
  rw [h1, h2, rv_one]; rfl
theorem k_ne {k : Nat} (h : k ≠ 0) : (((k : Int)) : Rat) ≠ 0 := fun h1 => h (by
  have h2 : ((k : Int) : Rat) = ((0 : Int) : Rat) := h1
  have := Rat.intCast_inj.1 h2
  omega)
theorem mul_div_k {q r : Rat} (h : r ≠ 0) : q * r / r = q := by rw [Rat.div_def, Rat.mul_assoc, Rat.mul_inv_cancel _ h, Rat.mul_one]
theorem fillW2 : Instr.fill (fun i => some (i * 1, 1)) ((Array.range (2 * 1)).map ((Value.int .u32 0).cells[· % (Value.int .u32 0).cells.size]!)) [(0, .int .u32 0), (1, .int .u32 0)] = some (uarr [0, 0]) := by kernel_rfl
theorem fillW1 : Instr.fill (fun i => some (i * 1, 1)) ((Array.range (1 * 1)).map ((Value.int .u32 0).cells[· % (Value.int .u32 0).cells.size]!)) [(0, .int .u32 0)] = some (uarr [0]) := by kernel_rfl
theorem val_wide2 (xs : List Nat) : val (xs ++ [0, 0]) = val xs := by rw [val_append]; simp [val]
theorem val_wide1 (xs : List Nat) : val (xs ++ [0]) = val xs := by rw [val_append]; simp [val]
theorem lt_wide {xs ys : List Nat} (h : ∀ x ∈ xs, x < 4294967296) (h2 : ∀ x ∈ ys, x = 0) : ∀ x ∈ xs ++ ys, x < 4294967296 := fun x hx => by
  rcases List.mem_append.1 hx with h1 | h1
  · exact h x h1
  · rw [h2 x h1]; decide
theorem c_rat_Same1 {M N8 N9 : List Nat} {w : World} {sa sb : Bool} {an ad bn bd : Value} {xa ya xb yb : List Nat} {q : Rat} (hqa : rv sa (val xa) (val ya) = q) (hqb : rv sb (val xb) (val yb) = q) (ha : U32 N8 w an xa) (ka : U32 N8 w ad ya) (hb : U32 N9 w bn xb) (kb : U32 N9 w bd yb) (hbd : Bd M w) (l0 : xa.length ≤ 137438953472) (l1 : ya.length ≤ 137438953472) (l2 : xb.length ≤ 137438953472) (l3 : yb.length ≤ 137438953472) :
    Ret Try.prog 42 #[.agg #[.bool sa, an, ad], .agg #[.bool sb, bn, bd]] w (fun r w' => r = .bool true ∧ Mod [] w w') :=
  (c_rat_Same hqa hqb ha ka hb kb hbd l0 l1 l2 l3).mono fun r w' ⟨h1, h2⟩ => ⟨by rw [h1]; simp, h2⟩
theorem bd_cons {M : List Nat} {w w' : World} {g t : Nat} {cs : Array Value} (h : Bd M w) (hm : Mod [] w w') (hb : Blk w' g t cs) : Bd (g :: M) w' := fun m hx => by
  rcases List.mem_cons.1 hx with rfl | h1
  · exact hb.lt
  · exact Nat.lt_of_lt_of_le (h m h1) hm.size

set_option maxHeartbeats 4000000 in
theorem c_RatWider {M : List Nat} {w : World} {k : Nat} {sa : Bool} {an ad : Value} {xa ya : List Nat} {qa : Rat} (hqa : rv sa (val xa) (val ya) = qa) (ha : U32 M w an xa) (ka : U32 M w ad ya) (hbd : Bd M w) (la : xa.length ≤ 140737488355328) (ma : ya.length ≤ 140737488355328) (hk : k < 4294967296) :
    Ret Try.prog 14 #[.agg #[.bool sa, an, ad], .int .u32 (k : Int)] w (fun r w' => r = .bool true ∧ Mod [] w w') := by
  obtain ⟨Aa, ca, rfl⟩ := ha.form
  obtain ⟨Ba, da, rfl⟩ := ka.form
  refine Ret.of (vs := [.agg #[.bool sa, .slice Aa xa.length ca, .slice Ba ya.length da], .int .u32 (k : Int)]) (n := 79) Try.func14 rfl rfl rfl rfl ?_
  have hm0 : Mod [] w w := Mod.refl _ _
  refine W.seq ?_
  refine W.region ?_
  refine L.box rfl rfl ?_
  intro g2 w1 hN2
  replace ha := ha.new hN2
  replace ka := ka.new hN2
  replace hbd := hbd.new hN2
  have hge_g2 := New.ge hN2 hm0.size
  replace hm0 := hm0.trans (hN2.mod.mono (by simp))
  have hb2 := hN2.blk
  clear hN2
  refine L.v (R1.assign rfl) rfl ?_
  refine L.nil ?_
  refine X.seq ?_
  refine W.seq ?_
  refine W.seq ?_
  refine W.cut (ι := Bool) (fun b => [(1, .int .u32 (k : Int)), (2, .pointer (some ⟨g2, 0, none⟩)), (26, .bool b)]) (fun b w_ => (b = false → xa.length ≤ 8 ∧ ya.length ≤ 8 ∧ k ≠ 0) ∧ U32 (g2 :: M) w_ (.slice Aa xa.length ca) xa ∧ U32 (g2 :: M) w_ (.slice Ba ya.length da) ya ∧ Blk w_ g2 27 #[.bool sa, .slice Aa xa.length ca, .slice Ba ya.length da] ∧ Bd (g2 :: M) w_ ∧ Mod [] w w_) ?_ ?_
  ·
    refine W.region ?_
    refine L.v (R1.loadBox rfl hb2 tyG27) rfl ?_
    refine L.buildSlice (cells := [.bool sa, .slice Aa xa.length ca, .slice Ba ya.length da]) rfl tyS63 tyZ27 (fillQ1 _ _ _ _ _ _ _) (by decide) (by decide) rfl ?_
    intro g11 w2 hN11
    replace ha := ha.new hN11
    replace ka := ka.new hN11
    replace hbd := hbd.new hN11
    have hge_g11 := New.ge hN11 hm0.size
    replace hm0 := hm0.trans (hN11.mod.mono (by simp))
    have hne_g2_g11 := hb2.ne_ hN11
    replace hb2 := Blk.gr hb2 hN11.mod
    have hb11 := hN11.blk
    clear hN11
    have hr9 : ∀ i, i < 1 → ∃ A c B d, (#[.bool sa, .slice Aa xa.length ca, .slice Ba ya.length da] : Array Value)[i * 3 + 1]? = some (.slice A ((fun i => [xa.length].getD i 0) i) c) ∧ (#[.bool sa, .slice Aa xa.length ca, .slice Ba ya.length da] : Array Value)[i * 3 + 2]? = some (.slice B ((fun i => [ya.length].getD i 0) i) d) := fun i hi => by
        match i, hi with
        | 0, _ => exact ⟨_, _, _, _, rfl, rfl⟩
    have hl9 : ∀ i, i < 1 → (fun i => [xa.length].getD i 0) i ≤ 140737488355328 ∧ (fun i => [ya.length].getD i 0) i ≤ 140737488355328 := fun i hi => by
        match i, hi with
        | 0, _ => exact ⟨la, ma⟩
    refine L.call rfl (c_big (ln := (fun i => [xa.length].getD i 0)) (ld := (fun i => [ya.length].getD i 0)) hb11 hr9 hl9 (by decide)) rfl ?_
    rintro _ w3 ⟨b12, rfl, hbig, hm3⟩
    replace ha := ha.gr hm3
    replace ka := ka.gr hm3
    replace hbd := hbd.gr hm3
    replace hm0 := hm0.trans hm3
    replace hb2 := Blk.gr hb2 hm3
    replace hb11 := Blk.gr hb11 hm3
    clear hm3
    refine L.v (R1.move rfl) rfl ?_
    cases hgd13 : b12
    ·
      try simp only [decide_eq_true_eq, decide_eq_false_iff_not, Bool.not_eq_true', Bool.not_eq_false', Int.not_lt, Int.not_le, ne_eq, Decidable.not_not] at hgd13
      refine L.on rfl rfl rfl (R1.move rfl) rfl ?_
      refine L.on rfl rfl rfl ((R1.eq rfl rfl).asB (c := decide (k = 0)) (by simp)) rfl ?_
      refine L.v (R1.pickF rfl rfl) rfl ?_
      refine L.v (R1.move rfl) rfl ?_
      cases hgd17 : decide (k = 0)
      ·
        try simp only [decide_eq_true_eq, decide_eq_false_iff_not, Bool.not_eq_true', Bool.not_eq_false', Int.not_lt, Int.not_le, ne_eq, Decidable.not_not] at hgd17
        refine L.on rfl rfl rfl (R1.fieldAt rfl tyF27_1) rfl ?_
        refine L.on rfl rfl rfl (R1.loadFld rfl hb2 rfl tyP25) rfl ?_
        refine L.on rfl rfl rfl (R1.len rfl tyS25) rfl ?_
        refine L.on rfl rfl rfl (R1.fieldAt rfl tyF27_2) rfl ?_
        refine L.on rfl rfl rfl (R1.loadFld rfl hb2 rfl tyP25) rfl ?_
        refine L.on rfl rfl rfl (R1.len rfl tyS25) rfl ?_
        refine L.on rfl rfl rfl (R1.addI rfl rfl (by omega)) rfl ?_
        refine L.on rfl rfl rfl ((R1.gt rfl rfl).asB (c := decide (8 < ((xa.length + ya.length : Nat) : Int))) (rfl)) rfl ?_
        refine L.v (R1.pickF rfl rfl) rfl ?_
        refine L.nil ?_
        refine X.join (decide (8 < ((xa.length + ya.length : Nat) : Int))) ?_ ?_
        · exact ⟨rfl, rfl, rfl, trivial⟩
        ·
          exact ⟨(fun h => by simp at h; refine ⟨by omega, by omega, by simp_all⟩), ha.sub (by intro b hb; simp only [List.mem_cons] at hb ⊢; rcases hb with hb | hb <;> simp [hb]), ka.sub (by intro b hb; simp only [List.mem_cons] at hb ⊢; rcases hb with hb | hb <;> simp [hb]), hb2, hbd.sub (by intro b hb; simp only [List.mem_cons] at hb ⊢; rcases hb with hb | hb <;> simp [hb]), hm0⟩
      ·
        try simp only [decide_eq_true_eq, decide_eq_false_iff_not, Bool.not_eq_true', Bool.not_eq_false', Int.not_lt, Int.not_le, ne_eq, Decidable.not_not] at hgd17
        refine L.off rfl rfl rfl rfl rfl ?_
        refine L.off rfl rfl rfl rfl rfl ?_
        refine L.off rfl rfl rfl rfl rfl ?_
        refine L.off rfl rfl rfl rfl rfl ?_
        refine L.off rfl rfl rfl rfl rfl ?_
        refine L.off rfl rfl rfl rfl rfl ?_
        refine L.off rfl rfl rfl rfl rfl ?_
        refine L.off rfl rfl rfl rfl rfl ?_
        refine L.v (R1.pickT rfl rfl) rfl ?_
        refine L.nil ?_
        refine X.join true ?_ ?_
        · exact ⟨rfl, rfl, rfl, trivial⟩
        ·
          exact ⟨(fun h => by cases h), ha.sub (by intro b hb; simp only [List.mem_cons] at hb ⊢; rcases hb with hb | hb <;> simp [hb]), ka.sub (by intro b hb; simp only [List.mem_cons] at hb ⊢; rcases hb with hb | hb <;> simp [hb]), hb2, hbd.sub (by intro b hb; simp only [List.mem_cons] at hb ⊢; rcases hb with hb | hb <;> simp [hb]), hm0⟩
    ·
      try simp only [decide_eq_true_eq, decide_eq_false_iff_not, Bool.not_eq_true', Bool.not_eq_false', Int.not_lt, Int.not_le, ne_eq, Decidable.not_not] at hgd13
      refine L.off rfl rfl rfl rfl rfl ?_
      refine L.off rfl rfl rfl rfl rfl ?_
      refine L.v (R1.pickT rfl rfl) rfl ?_
      refine L.v (R1.move rfl) rfl ?_
      refine L.off rfl rfl rfl rfl rfl ?_
      refine L.off rfl rfl rfl rfl rfl ?_
      refine L.off rfl rfl rfl rfl rfl ?_
      refine L.off rfl rfl rfl rfl rfl ?_
      refine L.off rfl rfl rfl rfl rfl ?_
      refine L.off rfl rfl rfl rfl rfl ?_
      refine L.off rfl rfl rfl rfl rfl ?_
      refine L.off rfl rfl rfl rfl rfl ?_
      refine L.v (R1.pickT rfl rfl) rfl ?_
      refine L.nil ?_
      refine X.join true ?_ ?_
      · exact ⟨rfl, rfl, rfl, trivial⟩
      ·
        exact ⟨(fun h => by cases h), ha.sub (by intro b hb; simp only [List.mem_cons] at hb ⊢; rcases hb with hb | hb <;> simp [hb]), ka.sub (by intro b hb; simp only [List.mem_cons] at hb ⊢; rcases hb with hb | hb <;> simp [hb]), hb2, hbd.sub (by intro b hb; simp only [List.mem_cons] at hb ⊢; rcases hb with hb | hb <;> simp [hb]), hm0⟩
  ·
    rintro b wj ⟨hb9, ha, ka, hb2, hbd, hm0⟩
    refine X.seq ?_
    refine W.cond rfl ?_ ?_
    ·
      intro hc26
      have hcc_ := hc26
      refine W.seq ?_
      refine W.region ?_
      refine L.v (R1.assign rfl) rfl ?_
      refine L.nil ?_
      refine X.seq ?_
      refine W.ret ?_
      refine X.thenRet ?_
      refine X.result1 rfl (.tmp rfl .nil) ?_
      exact ⟨rfl, hm0⟩
    ·
      intro hc26
      have hcc_ := hc26
      obtain ⟨zxa, zya, hk0⟩ := hb9 hc26
      have FA : Fit qa 9 := Fit.rv hqa ha.2 ka.2 zxa zya
      have FK := Fit.int (n := (k : Int)) (by omega) (by omega)
      refine W.skip ?_
      refine X.seq ?_
      refine W.seq ?_
      refine W.region ?_
      refine L.v (R1.move rfl) rfl ?_
      refine L.build1 rfl rfl tyS25 tyZ51 rfl ?_
      intro g28 w4 hN28
      replace ha := ha.new hN28
      replace ka := ka.new hN28
      have hne_g2_g28 := hb2.ne_ hN28
      replace hb2 := Blk.gr hb2 hN28.mod
      replace hbd := hbd.new hN28
      have hge_g28 := New.ge hN28 hm0.size
      replace hm0 := hm0.trans (hN28.mod.mono (by simp))
      have hb28 := hN28.blk
      clear hN28
      refine L.v (R1.assign rfl) rfl ?_
      refine L.nil ?_
      refine X.seq ?_
      refine W.seq ?_
      refine W.region ?_
      refine L.v (R1.loadBox rfl hb2 tyG27) rfl ?_
      refine L.v (R1.move rfl) rfl ?_
      refine L.build1 rfl rfl tyS25 tyZ51 rfl ?_
      intro g31 w5 hN31
      replace ha := ha.new hN31
      replace ka := ka.new hN31
      have hne_g2_g31 := hb2.ne_ hN31
      replace hb2 := Blk.gr hb2 hN31.mod
      replace hbd := hbd.new hN31
      have hge_g31 := New.ge hN31 hm0.size
      replace hm0 := hm0.trans (hN31.mod.mono (by simp))
      have hne_g28_g31 := hb28.ne_ hN31
      replace hb28 := Blk.gr hb28 hN31.mod
      have hb31 := hN31.blk
      clear hN31
      refine L.v (R1.build rfl (built_Q12 _ _ _ _ _ _)) rfl ?_
      have hu28 : U32 [] w5 (.slice (some ⟨g28, 0, none⟩) [k].length [k].length) [k] := U32.of_blk hb28 (by simp) (by show 1 ≤ _; decide) (by simp <;> omega)
      have hu31 : U32 [] w5 (.slice (some ⟨g31, 0, none⟩) [1].length [1].length) [1] := U32.of_blk hb31 (by simp) (by show 1 ≤ _; decide) (by simp <;> omega)
      refine L.call rfl (c_ref2_Mul (qa := qa) (qb := (((k : Int)) : Rat)) hqa (rv_k k) ha ka hu28 hu31 hbd (by omega) (by omega) (by show 1 ≤ _; decide) (by show 1 ≤ _; decide)) rfl ?_
      rintro _ w6 ⟨⟨A33, c33, B33, e33, rfl, hn33, hd33⟩, hm6⟩
      replace ha := ha.gr hm6
      replace ka := ka.gr hm6
      replace hb2 := Blk.gr hb2 hm6
      replace hbd := hbd.gr hm6
      replace hm0 := hm0.trans hm6
      replace hb28 := Blk.gr hb28 hm6
      replace hb31 := Blk.gr hb31 hm6
      clear hm6
      have F33 := Fit.mul FA FK
      refine L.alloc tyZ27 rfl ?_
      intro g6 w7 hN6
      replace ha := ha.new hN6
      replace ka := ka.new hN6
      have hne_g2_g6 := hb2.ne_ hN6
      replace hb2 := Blk.gr hb2 hN6.mod
      replace hbd := hbd.new hN6
      have hge_g6 := New.ge hN6 hm0.size
      replace hm0 := hm0.trans (hN6.mod.mono (by simp))
      have hne_g28_g6 := hb28.ne_ hN6
      replace hb28 := Blk.gr hb28 hN6.mod
      have hne_g31_g6 := hb31.ne_ hN6
      replace hb31 := Blk.gr hb31 hN6.mod
      replace hn33 := hn33.new hN6
      replace hd33 := hd33.new hN6
      have hb6 := hN6.blk
      clear hN6
      refine L.storeBox rfl rfl hb6 rfl rfl tyG27 ?_
      intro w8 hb6' hm8
      replace ha := ha.mod hm8 (by simp)
      replace ka := ka.mod hm8 (by simp)
      replace hb2 := Blk.far hb2 hm8 (by first | exact hne_g2_g6 | exact (hne_g6_g2).symm)
      replace hbd := hbd.gr hm8
      replace hm0 := hm0.old1 hm8 hge_g6
      replace hb28 := Blk.far hb28 hm8 (by first | exact hne_g28_g6 | exact (hne_g6_g28).symm)
      replace hb31 := Blk.far hb31 hm8 (by first | exact hne_g31_g6 | exact (hne_g6_g31).symm)
      replace hn33 := hn33.mod hm8 (by simp)
      replace hd33 := hd33.mod hm8 (by simp)
      clear hm8
      replace hb6 := hb6'; clear hb6'
      refine L.nil ?_
      refine X.seq ?_
      refine W.seq ?_
      refine W.region ?_
      refine L.v (R1.loadBox rfl hb6 tyG27) rfl ?_
      refine L.v (R1.move rfl) rfl ?_
      refine L.build1 rfl rfl tyS25 tyZ51 rfl ?_
      intro g37 w9 hN37
      replace ha := ha.new hN37
      replace ka := ka.new hN37
      have hne_g2_g37 := hb2.ne_ hN37
      replace hb2 := Blk.gr hb2 hN37.mod
      replace hbd := hbd.new hN37
      have hge_g37 := New.ge hN37 hm0.size
      replace hm0 := hm0.trans (hN37.mod.mono (by simp))
      have hne_g28_g37 := hb28.ne_ hN37
      replace hb28 := Blk.gr hb28 hN37.mod
      have hne_g31_g37 := hb31.ne_ hN37
      replace hb31 := Blk.gr hb31 hN37.mod
      replace hn33 := hn33.new hN37
      replace hd33 := hd33.new hN37
      have hne_g6_g37 := hb6.ne_ hN37
      replace hb6 := Blk.gr hb6 hN37.mod
      have hb37 := hN37.blk
      clear hN37
      refine L.v (R1.build rfl (built_Q12 _ _ _ _ _ _)) rfl ?_
      have hu28 : U32 [] w9 (.slice (some ⟨g28, 0, none⟩) [k].length [k].length) [k] := U32.of_blk hb28 (by simp) (by show 1 ≤ _; decide) (by simp <;> omega)
      have hu37 : U32 [] w9 (.slice (some ⟨g37, 0, none⟩) [1].length [1].length) [1] := U32.of_blk hb37 (by simp) (by show 1 ≤ _; decide) (by simp <;> omega)
      refine L.call rfl (c_rat_Div1 (qa := qa * (((k : Int)) : Rat)) (qb := (((k : Int)) : Rat)) (rv_toL _) (rv_k k) hn33 hd33 hu28 hu37 hbd (Nat.le_trans F33.1 (by decide)) (Nat.le_trans F33.2 (by decide)) (by show 1 ≤ _; decide) (by show 1 ≤ _; decide) (k_ne hk0)) rfl ?_
      rintro _ w10 ⟨v39, rfl, ⟨A39, c39, B39, e39, rfl, hn39, hd39⟩, hm10⟩
      replace ha := ha.gr hm10
      replace ka := ka.gr hm10
      replace hb2 := Blk.gr hb2 hm10
      replace hbd := hbd.gr hm10
      replace hm0 := hm0.trans hm10
      replace hb28 := Blk.gr hb28 hm10
      replace hb31 := Blk.gr hb31 hm10
      replace hn33 := hn33.gr hm10
      replace hd33 := hd33.gr hm10
      replace hb6 := Blk.gr hb6 hm10
      replace hb37 := Blk.gr hb37 hm10
      clear hm10
      have F39 := Fit.div F33 FK (by decide)
      refine L.v (R1.move rfl) rfl ?_
      refine L.v (R1.extract rfl rfl) rfl ?_
      refine L.v (R1.extract rfl rfl) rfl ?_
      refine L.alloc tyZ27 rfl ?_
      intro g7 w11 hN7
      replace ha := ha.new hN7
      replace ka := ka.new hN7
      have hne_g2_g7 := hb2.ne_ hN7
      replace hb2 := Blk.gr hb2 hN7.mod
      replace hbd := hbd.new hN7
      have hge_g7 := New.ge hN7 hm0.size
      replace hm0 := hm0.trans (hN7.mod.mono (by simp))
      have hne_g28_g7 := hb28.ne_ hN7
      replace hb28 := Blk.gr hb28 hN7.mod
      have hne_g31_g7 := hb31.ne_ hN7
      replace hb31 := Blk.gr hb31 hN7.mod
      replace hn33 := hn33.new hN7
      replace hd33 := hd33.new hN7
      have hne_g6_g7 := hb6.ne_ hN7
      replace hb6 := Blk.gr hb6 hN7.mod
      have hne_g37_g7 := hb37.ne_ hN7
      replace hb37 := Blk.gr hb37 hN7.mod
      replace hn39 := hn39.new hN7
      replace hd39 := hd39.new hN7
      have hb7 := hN7.blk
      clear hN7
      refine L.storeBox rfl rfl hb7 rfl rfl tyG27 ?_
      intro w12 hb7' hm12
      replace ha := ha.mod hm12 (by simp)
      replace ka := ka.mod hm12 (by simp)
      replace hb2 := Blk.far hb2 hm12 (by first | exact hne_g2_g7 | exact (hne_g7_g2).symm)
      replace hbd := hbd.gr hm12
      replace hm0 := hm0.old1 hm12 hge_g7
      replace hb28 := Blk.far hb28 hm12 (by first | exact hne_g28_g7 | exact (hne_g7_g28).symm)
      replace hb31 := Blk.far hb31 hm12 (by first | exact hne_g31_g7 | exact (hne_g7_g31).symm)
      replace hn33 := hn33.mod hm12 (by simp)
      replace hd33 := hd33.mod hm12 (by simp)
      replace hb6 := Blk.far hb6 hm12 (by first | exact hne_g6_g7 | exact (hne_g7_g6).symm)
      replace hb37 := Blk.far hb37 hm12 (by first | exact hne_g37_g7 | exact (hne_g7_g37).symm)
      replace hn39 := hn39.mod hm12 (by simp)
      replace hd39 := hd39.mod hm12 (by simp)
      clear hm12
      replace hb7 := hb7'; clear hb7'
      refine L.v (R1.assign rfl) rfl ?_
      refine L.nil ?_
      refine X.seq ?_
      refine W.seq ?_
      refine W.drawW (T := [16]) rfl (by decide +kernel) (NoHang.then NoHang.post) (fun w13 hm13 => ?_)
      replace ha := ha.gr hm13
      replace ka := ka.gr hm13
      replace hb2 := Blk.gr hb2 hm13
      replace hbd := hbd.gr hm13
      replace hm0 := hm0.trans hm13
      replace hb28 := Blk.gr hb28 hm13
      replace hb31 := Blk.gr hb31 hm13
      replace hn33 := hn33.gr hm13
      replace hd33 := hd33.gr hm13
      replace hb6 := Blk.gr hb6 hm13
      replace hb37 := Blk.gr hb37 hm13
      replace hn39 := hn39.gr hm13
      replace hd39 := hd39.gr hm13
      replace hb7 := Blk.gr hb7 hm13
      have hS1 : Mod [] w13 w13 := Mod.refl _ _
      clear hm13
      have hb2_s := hb2
      have hb28_s := hb28
      have hb31_s := hb31
      have hb6_s := hb6
      have hb37_s := hb37
      have hb7_s := hb7
      refine D.take 0 rfl (by decide +kernel) (fun w_ hS => (R1.fieldAt rfl tyF27_0)) hS1 rfl ?_
      refine D.take 1 rfl (by decide +kernel) (fun w_ hS => (R1.loadFld rfl (Blk.gr hb2_s hS) rfl tyP4)) hS1 rfl ?_
      refine D.take 3 rfl (by decide +kernel) (fun w_ hS => (R1.fieldAt rfl tyF27_1)) hS1 rfl ?_
      refine D.take 4 rfl (by decide +kernel) (fun w_ hS => (R1.loadFld rfl (Blk.gr hb2_s hS) rfl tyP25)) hS1 rfl ?_
      refine D.take 9 rfl (by decide +kernel) (fun w_ hS => (R1.fieldAt rfl tyF27_2)) hS1 rfl ?_
      refine D.take 10 rfl (by decide +kernel) (fun w_ hS => (R1.loadFld rfl (Blk.gr hb2_s hS) rfl tyP25)) hS1 rfl ?_
      refine D.widen rfl rfl rfl rfl rfl rfl rfl rfl rfl rfl rfl (by decide +kernel) (fun _ => rfl) (fun _ => rfl) tyS25 tyZ51 tyZ27 fillW2 fillW1 built_Q012 hS1 (by omega) rfl rfl rfl rfl rfl rfl rfl rfl rfl rfl rfl rfl rfl ha ka (by omega) (by omega) ?_
      intro w14 va9 vb9 g9 hm9 hoa hob haw hlt9 hge9
      replace ha := (ha.more hge9).gr hm9
      replace ka := (ka.more hge9).gr hm9
      have hne_g2_g9 := Nat.ne_of_lt (Nat.lt_of_lt_of_le (Blk.lt hb2) hge9)
      replace hb2 := Blk.gr hb2 hm9
      replace hbd := bd_cons hbd hm9 hlt9.1
      have hge_g9 := Nat.le_trans hm0.size hge9
      replace hm0 := hm0.trans hm9
      have hne_g28_g9 := Nat.ne_of_lt (Nat.lt_of_lt_of_le (Blk.lt hb28) hge9)
      replace hb28 := Blk.gr hb28 hm9
      have hne_g31_g9 := Nat.ne_of_lt (Nat.lt_of_lt_of_le (Blk.lt hb31) hge9)
      replace hb31 := Blk.gr hb31 hm9
      replace hn33 := (hn33.more hge9).gr hm9
      replace hd33 := (hd33.more hge9).gr hm9
      have hne_g6_g9 := Nat.ne_of_lt (Nat.lt_of_lt_of_le (Blk.lt hb6) hge9)
      replace hb6 := Blk.gr hb6 hm9
      have hne_g37_g9 := Nat.ne_of_lt (Nat.lt_of_lt_of_le (Blk.lt hb37) hge9)
      replace hb37 := Blk.gr hb37 hm9
      replace hn39 := (hn39.more hge9).gr hm9
      replace hd39 := (hd39.more hge9).gr hm9
      have hne_g7_g9 := Nat.ne_of_lt (Nat.lt_of_lt_of_le (Blk.lt hb7) hge9)
      replace hb7 := Blk.gr hb7 hm9
      obtain ⟨A49, c49, hv49⟩ := own_form hoa
      obtain ⟨A55, c55, hv55⟩ := own_form hob
      subst hv49; subst hv55
      simp only [List.length_map] at hoa hob hlt9 ⊢
      have hb9 := hlt9.1
      have hx1 : U32 [g9] w14 (.slice A49 (xa ++ [0, 0]).length c49) (xa ++ [0, 0]) := U32.of_own hoa (lt_wide ha.2 (by simp)) (fun g h1 h2 => hlt9.2.1 (by rw [h1]; simpa using h2))
      have hx2 : U32 [g9] w14 (.slice A55 (ya ++ [0]).length c55) (ya ++ [0]) := U32.of_own hob (lt_wide ka.2 (by simp)) (fun g h1 h2 => hlt9.2.2 (by rw [h1]; simpa using h2))
      have hq9 : rv sa (val (xa ++ [0, 0])) (val (ya ++ [0])) = qa := by rw [val_wide2, val_wide1]; exact hqa
      replace hS1 := hS1.trans hm9
      clear hoa hob haw hlt9 hge9 hm9
      refine D.one 16 rfl (by decide +kernel) (fun hX => ?_)
      refine L.storeBox rfl rfl hb9 rfl rfl tyG27 ?_
      intro w15 hb9' hm15
      replace ha := ha.mod hm15 (by simp)
      replace ka := ka.mod hm15 (by simp)
      replace hb2 := Blk.far hb2 hm15 (by first | exact hne_g2_g9 | exact (hne_g9_g2).symm)
      replace hbd := hbd.gr hm15
      replace hm0 := hm0.old1 hm15 hge_g9
      replace hb28 := Blk.far hb28 hm15 (by first | exact hne_g28_g9 | exact (hne_g9_g28).symm)
      replace hb31 := Blk.far hb31 hm15 (by first | exact hne_g31_g9 | exact (hne_g9_g31).symm)
      replace hn33 := hn33.mod hm15 (by simp)
      replace hd33 := hd33.mod hm15 (by simp)
      replace hb6 := Blk.far hb6 hm15 (by first | exact hne_g6_g9 | exact (hne_g9_g6).symm)
      replace hb37 := Blk.far hb37 hm15 (by first | exact hne_g37_g9 | exact (hne_g9_g37).symm)
      replace hn39 := hn39.mod hm15 (by simp)
      replace hd39 := hd39.mod hm15 (by simp)
      replace hb7 := Blk.far hb7 hm15 (by first | exact hne_g7_g9 | exact (hne_g9_g7).symm)
      replace hx1 := hx1.mod hm15 (by simp)
      replace hx2 := hx2.mod hm15 (by simp)
      clear hm15
      replace hb9 := hb9'; clear hb9'
      refine L.nil (hX _ _ ⟨.inl rfl, ?_⟩)
      refine D.done (by decide +kernel) ?_ _
      refine X.seq ?_
      refine W.seq ?_
      refine W.drawW (T := []) rfl (by decide +kernel) (NoHang.then NoHang.post) (fun w16 hm16 => ?_)
      replace ha := ha.gr hm16
      replace ka := ka.gr hm16
      replace hb2 := Blk.gr hb2 hm16
      replace hbd := hbd.gr hm16
      replace hm0 := hm0.trans hm16
      replace hb28 := Blk.gr hb28 hm16
      replace hb31 := Blk.gr hb31 hm16
      replace hn33 := hn33.gr hm16
      replace hd33 := hd33.gr hm16
      replace hb6 := Blk.gr hb6 hm16
      replace hb37 := Blk.gr hb37 hm16
      replace hn39 := hn39.gr hm16
      replace hd39 := hd39.gr hm16
      replace hb7 := Blk.gr hb7 hm16
      replace hx1 := hx1.gr hm16
      replace hx2 := hx2.gr hm16
      replace hb9 := Blk.gr hb9 hm16
      have hS2 : Mod [] w16 w16 := Mod.refl _ _
      clear hm16
      have hb2_s := hb2
      have hb28_s := hb28
      have hb31_s := hb31
      have hb6_s := hb6
      have hb37_s := hb37
      have hb7_s := hb7
      have hb9_s := hb9
      refine D.take 0 rfl (by decide +kernel) (fun w_ hS => (R1.move rfl)) hS2 rfl ?_
      refine D.take 1 rfl (by decide +kernel) (fun w_ hS => (R1.move rfl)) hS2 rfl ?_
      refine D.takeOn 2 rfl rfl rfl rfl (by decide +kernel) (fun w_ hS => (R1.loadBox rfl (Blk.gr hb7_s hS) tyG27)) hS2 rfl ?_
      refine D.takeOn 3 rfl rfl rfl rfl (by decide +kernel) (fun w_ hS => (R1.loadBox rfl (Blk.gr hb2_s hS) tyG27)) hS2 rfl ?_
      refine D.one 4 rfl (by decide +kernel) (fun hX => ?_)
      refine L.callOn rfl rfl rfl rfl (c_ref2_Norm (q := qa) hqa ha ka hbd (by omega) (by omega)) rfl ?_
      rintro _ w17 ⟨⟨A61, c61, B61, e61, rfl, hn61, hd61⟩, hm17⟩
      replace ha := ha.gr hm17
      replace ka := ka.gr hm17
      replace hb2 := Blk.gr hb2 hm17
      replace hbd := hbd.gr hm17
      replace hm0 := hm0.trans hm17
      replace hb28 := Blk.gr hb28 hm17
      replace hb31 := Blk.gr hb31 hm17
      replace hn33 := hn33.gr hm17
      replace hd33 := hd33.gr hm17
      replace hb6 := Blk.gr hb6 hm17
      replace hb37 := Blk.gr hb37 hm17
      replace hn39 := hn39.gr hm17
      replace hd39 := hd39.gr hm17
      replace hb7 := Blk.gr hb7 hm17
      replace hx1 := hx1.gr hm17
      replace hx2 := hx2.gr hm17
      replace hb9 := Blk.gr hb9 hm17
      replace hS2 := hS2.trans hm17
      clear hm17
      have F61 := FA
      refine L.nil (hX _ _ ⟨.inr hS2, ?_⟩)
      refine D.one 5 rfl (by decide +kernel) (fun hX => ?_)
      refine L.callOn rfl rfl rfl rfl (c_oneQ (RN.mk rfl hn39 hd39) ((RN.mk rfl hn61 hd61).eq ((mul_div_k (k_ne hk0)).symm))) rfl ?_
      rintro _ w18 ⟨rfl, hm18⟩
      replace ha := ha.gr hm18
      replace ka := ka.gr hm18
      replace hb2 := Blk.gr hb2 hm18
      replace hbd := hbd.gr hm18
      replace hm0 := hm0.trans hm18
      replace hb28 := Blk.gr hb28 hm18
      replace hb31 := Blk.gr hb31 hm18
      replace hn33 := hn33.gr hm18
      replace hd33 := hd33.gr hm18
      replace hb6 := Blk.gr hb6 hm18
      replace hb37 := Blk.gr hb37 hm18
      replace hn39 := hn39.gr hm18
      replace hd39 := hd39.gr hm18
      replace hb7 := Blk.gr hb7 hm18
      replace hx1 := hx1.gr hm18
      replace hx2 := hx2.gr hm18
      replace hb9 := Blk.gr hb9 hm18
      replace hn61 := hn61.gr hm18
      replace hd61 := hd61.gr hm18
      replace hS2 := hS2.trans hm18
      clear hm18
      refine L.nil (hX _ _ ⟨.inr hS2, ?_⟩)
      refine D.take 6 rfl (by decide +kernel) (fun w_ hS => (R1.pickT rfl rfl)) hS2 rfl ?_
      refine D.take 7 rfl (by decide +kernel) (fun w_ hS => (R1.move rfl)) hS2 rfl ?_
      refine D.takeOn 8 rfl rfl rfl rfl (by decide +kernel) (fun w_ hS => (R1.loadBox rfl (Blk.gr hb2_s hS) tyG27)) hS2 rfl ?_
      refine D.takeOn 9 rfl rfl rfl rfl (by decide +kernel) (fun w_ hS => (R1.loadBox rfl (Blk.gr hb9_s hS) tyG27)) hS2 rfl ?_
      refine D.one 10 rfl (by decide +kernel) (fun hX => ?_)
      refine L.callOn rfl rfl rfl rfl (c_rat_Same1 hqa hq9 ha ka hx1 hx2 hbd (by omega) (by omega) (by simp; omega) (by simp; omega)) rfl ?_
      rintro _ w19 ⟨rfl, hm19⟩
      replace ha := ha.gr hm19
      replace ka := ka.gr hm19
      replace hb2 := Blk.gr hb2 hm19
      replace hbd := hbd.gr hm19
      replace hm0 := hm0.trans hm19
      replace hb28 := Blk.gr hb28 hm19
      replace hb31 := Blk.gr hb31 hm19
      replace hn33 := hn33.gr hm19
      replace hd33 := hd33.gr hm19
      replace hb6 := Blk.gr hb6 hm19
      replace hb37 := Blk.gr hb37 hm19
      replace hn39 := hn39.gr hm19
      replace hd39 := hd39.gr hm19
      replace hb7 := Blk.gr hb7 hm19
      replace hx1 := hx1.gr hm19
      replace hx2 := hx2.gr hm19
      replace hb9 := Blk.gr hb9 hm19
      replace hn61 := hn61.gr hm19
      replace hd61 := hd61.gr hm19
      replace hS2 := hS2.trans hm19
      clear hm19
      refine L.nil (hX _ _ ⟨.inr hS2, ?_⟩)
      refine D.take 11 rfl (by decide +kernel) (fun w_ hS => (R1.pickT rfl rfl)) hS2 rfl ?_
      refine D.take 12 rfl (by decide +kernel) (fun w_ hS => (R1.move rfl)) hS2 rfl ?_
      refine D.takeOn 13 rfl rfl rfl rfl (by decide +kernel) (fun w_ hS => (R1.loadBox rfl (Blk.gr hb9_s hS) tyG27)) hS2 rfl ?_
      refine D.takeOn 15 rfl rfl rfl rfl (by decide +kernel) (fun w_ hS => (R1.loadBox rfl (Blk.gr hb2_s hS) tyG27)) hS2 rfl ?_
      refine D.one 14 rfl (by decide +kernel) (fun hX => ?_)
      refine L.callOn rfl rfl rfl rfl (c_rat_Norm (q := qa) hq9 hx1 hx2 hbd (by simp; omega) (by simp; omega)) rfl ?_
      rintro _ w20 ⟨⟨A71, c71, B71, e71, rfl, hn71, hd71⟩, hm20⟩
      replace ha := ha.gr hm20
      replace ka := ka.gr hm20
      replace hb2 := Blk.gr hb2 hm20
      replace hbd := hbd.gr hm20
      replace hm0 := hm0.trans hm20
      replace hb28 := Blk.gr hb28 hm20
      replace hb31 := Blk.gr hb31 hm20
      replace hn33 := hn33.gr hm20
      replace hd33 := hd33.gr hm20
      replace hb6 := Blk.gr hb6 hm20
      replace hb37 := Blk.gr hb37 hm20
      replace hn39 := hn39.gr hm20
      replace hd39 := hd39.gr hm20
      replace hb7 := Blk.gr hb7 hm20
      replace hx1 := hx1.gr hm20
      replace hx2 := hx2.gr hm20
      replace hb9 := Blk.gr hb9 hm20
      replace hn61 := hn61.gr hm20
      replace hd61 := hd61.gr hm20
      replace hS2 := hS2.trans hm20
      clear hm20
      have F71 := FA
      refine L.nil (hX _ _ ⟨.inr hS2, ?_⟩)
      refine D.one 16 rfl (by decide +kernel) (fun hX => ?_)
      refine L.callOn rfl rfl rfl rfl (c_ref2_Norm (q := qa) hqa ha ka hbd (by omega) (by omega)) rfl ?_
      rintro _ w21 ⟨⟨A73, c73, B73, e73, rfl, hn73, hd73⟩, hm21⟩
      replace ha := ha.gr hm21
      replace ka := ka.gr hm21
      replace hb2 := Blk.gr hb2 hm21
      replace hbd := hbd.gr hm21
      replace hm0 := hm0.trans hm21
      replace hb28 := Blk.gr hb28 hm21
      replace hb31 := Blk.gr hb31 hm21
      replace hn33 := hn33.gr hm21
      replace hd33 := hd33.gr hm21
      replace hb6 := Blk.gr hb6 hm21
      replace hb37 := Blk.gr hb37 hm21
      replace hn39 := hn39.gr hm21
      replace hd39 := hd39.gr hm21
      replace hb7 := Blk.gr hb7 hm21
      replace hx1 := hx1.gr hm21
      replace hx2 := hx2.gr hm21
      replace hb9 := Blk.gr hb9 hm21
      replace hn61 := hn61.gr hm21
      replace hd61 := hd61.gr hm21
      replace hn71 := hn71.gr hm21
      replace hd71 := hd71.gr hm21
      replace hS2 := hS2.trans hm21
      clear hm21
      have F73 := FA
      refine L.nil (hX _ _ ⟨.inr hS2, ?_⟩)
      refine D.one 17 rfl (by decide +kernel) (fun hX => ?_)
      refine L.callOn rfl rfl rfl rfl (c_oneQ (RN.mk rfl hn71 hd71) ((RN.mk rfl hn73 hd73).eq (rfl))) rfl ?_
      rintro _ w22 ⟨rfl, hm22⟩
      replace ha := ha.gr hm22
      replace ka := ka.gr hm22
      replace hb2 := Blk.gr hb2 hm22
      replace hbd := hbd.gr hm22
      replace hm0 := hm0.trans hm22
      replace hb28 := Blk.gr hb28 hm22
      replace hb31 := Blk.gr hb31 hm22
      replace hn33 := hn33.gr hm22
      replace hd33 := hd33.gr hm22
      replace hb6 := Blk.gr hb6 hm22
      replace hb37 := Blk.gr hb37 hm22
      replace hn39 := hn39.gr hm22
      replace hd39 := hd39.gr hm22
      replace hb7 := Blk.gr hb7 hm22
      replace hx1 := hx1.gr hm22
      replace hx2 := hx2.gr hm22
      replace hb9 := Blk.gr hb9 hm22
      replace hn61 := hn61.gr hm22
      replace hd61 := hd61.gr hm22
      replace hn71 := hn71.gr hm22
      replace hd71 := hd71.gr hm22
      replace hn73 := hn73.gr hm22
      replace hd73 := hd73.gr hm22
      replace hS2 := hS2.trans hm22
      clear hm22
      refine L.nil (hX _ _ ⟨.inr hS2, ?_⟩)
      refine D.take 18 rfl (by decide +kernel) (fun w_ hS => (R1.pickT rfl rfl)) hS2 rfl ?_
      refine D.take 19 rfl (by decide +kernel) (fun w_ hS => (R1.move rfl)) hS2 rfl ?_
      refine D.one 20 rfl (by decide +kernel) (fun hX => ?_)
      refine L.callOn rfl rfl rfl rfl (c_known2) rfl ?_
      rintro _ w23 ⟨rfl, hm23⟩
      replace ha := ha.gr hm23
      replace ka := ka.gr hm23
      replace hb2 := Blk.gr hb2 hm23
      replace hbd := hbd.gr hm23
      replace hm0 := hm0.trans hm23
      replace hb28 := Blk.gr hb28 hm23
      replace hb31 := Blk.gr hb31 hm23
      replace hn33 := hn33.gr hm23
      replace hd33 := hd33.gr hm23
      replace hb6 := Blk.gr hb6 hm23
      replace hb37 := Blk.gr hb37 hm23
      replace hn39 := hn39.gr hm23
      replace hd39 := hd39.gr hm23
      replace hb7 := Blk.gr hb7 hm23
      replace hx1 := hx1.gr hm23
      replace hx2 := hx2.gr hm23
      replace hb9 := Blk.gr hb9 hm23
      replace hn61 := hn61.gr hm23
      replace hd61 := hd61.gr hm23
      replace hn71 := hn71.gr hm23
      replace hd71 := hd71.gr hm23
      replace hn73 := hn73.gr hm23
      replace hd73 := hd73.gr hm23
      replace hS2 := hS2.trans hm23
      clear hm23
      refine L.nil (hX _ _ ⟨.inr hS2, ?_⟩)
      refine D.take 21 rfl (by decide +kernel) (fun w_ hS => (R1.pickT rfl rfl)) hS2 rfl ?_
      refine D.take 22 rfl (by decide +kernel) (fun w_ hS => (R1.assign rfl)) hS2 rfl ?_
      refine D.done (by decide +kernel) ?_ _
      refine X.seq ?_
      refine W.ret ?_
      refine X.result1 rfl (.tmp rfl .nil) ?_
      exact ⟨rfl, hm0⟩

end Go.Proofs.Ytjeodekhamdcmaa
