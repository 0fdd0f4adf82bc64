/- More of fractions: sizes of their parts, comparisons, whole numbers below. Nothing of a program in sight. -/
import Derived.Test.YtfpipaoobmcomaaPar
namespace Go.Proofs.Ytfpipaoobmcomaa
open Go.RowKit
set_option linter.unusedVariables false
set_option linter.unusedSimpArgs false
theorem Fit.zero {c : Nat} (h : 1 ≤ c) : Fit 0 c := ⟨by rw [show (0 : Rat).num = 0 from rfl]; simp [toL_zero], by rw [show (0 : Rat).den = 1 from rfl, toL_1]; exact h⟩
theorem Fit.sub {a b : Rat} {c d : Nat} (h1 : Fit a c) (h2 : Fit b d) : Fit (a - b) (c + d + 1) := by rw [Rat.sub_eq_add_neg]; exact h1.add h2.neg
theorem Fit.div {a b : Rat} {c d : Nat} (h1 : Fit a c) (h2 : Fit b d) (hc : 1 ≤ c) : Fit (a / b) (c + d) := by
  by_cases hb : b = 0
  · subst hb
    rw [Rat.div_def, Rat.inv_zero, Rat.mul_zero]
    exact Fit.zero (by omega)
  · rw [← div_num hb]
    obtain ⟨a1, a2⟩ := h1
    obtain ⟨b1, b2⟩ := h2
    have m1 := toL_len_mul a1 b2
    have m3 := toL_len_mul a2 b1
    have hn : b.num.natAbs ≠ 0 := fun h => hb ((num_zero_iff b).1 h)
    unfold Proofs.Ytfpipaoobmcomaa.rv
    constructor
    · refine Nat.le_trans (toL_len_mono (mkRat_num_le _ _)) ?_
      rw [sg_abs]; exact m1
    · exact Nat.le_trans (toL_len_mono (mkRat_den_le _ (Nat.mul_ne_zero a.den_nz hn))) m3
theorem Fit.int {n : Int} (h1 : -9223372036854775808 ≤ n) (h2 : n ≤ 9223372036854775807) : Fit (n : Rat) 2 := by
  constructor
  · rw [Rat.num_intCast]; exact toL_length_le (by omega)
  · rw [Rat.den_intCast, toL_1]; decide
theorem Fit.floor {a : Rat} {c : Nat} (h : Fit a c) : Fit ((a.floor : Int) : Rat) (c + 1) := by
  constructor
  · rw [Rat.num_intCast]
    have h1 : a.floor.natAbs ≤ a.num.natAbs + 1 := by
      have hd : a.num.natAbs / a.den ≤ a.num.natAbs := Nat.div_le_self _ _
      by_cases hs : a.num < 0
      · by_cases hr : a.num.natAbs % a.den = 0
        · rw [floor_neg0 (decide_eq_true hs) hr]; generalize a.num.natAbs / a.den = z at *; omega
        · rw [floor_neg1 (decide_eq_true hs) hr]; generalize a.num.natAbs / a.den = z at *; omega
      · rw [floor_pos (decide_eq_false hs)]; generalize a.num.natAbs / a.den = z at *; omega
    exact Nat.le_trans (toL_len_mono h1) (toL_len_add h.1 (by
      by_cases hc : c = 0
      · subst hc; exact absurd h.2 (by have := (toL_nil (n := a.den)).1; intro h9; exact a.den_nz (this (List.eq_nil_of_length_eq_zero (by omega))))
      · rw [toL_1]; omega))
  · rw [Rat.den_intCast, toL_1]; omega
theorem cmpQ_range (a b : Rat) : -1 ≤ cmpQ a b ∧ cmpQ a b ≤ 1 := by unfold cmpQ; split <;> (try split) <;> omega
theorem cmpQ_neg (a b : Rat) : cmpQ b a = -cmpQ a b := by
  unfold cmpQ
  by_cases h1 : a < b
  · rw [if_pos h1, if_neg (by grind), if_neg (by grind)]; rfl
  · by_cases h2 : a = b
    · subst h2; rw [if_neg h1, if_pos rfl]; rfl
    · rw [if_neg h1, if_neg h2, if_pos (by grind)]
theorem cmpQ_zero (a b : Rat) : decide (cmpQ a b = 0) = decide (a = b) := by
  congr 1; apply propext
  unfold cmpQ
  by_cases h1 : a < b
  · rw [if_pos h1]; constructor
    · intro h; exact absurd h (by decide)
    · intro h; subst h; exact absurd h1 Rat.lt_irrefl
  · by_cases h2 : a = b
    · simp [h1, h2]
    · simp [h1, h2]
theorem cmpQ_add (a b c : Rat) : cmpQ (a + c) (b + c) = cmpQ a b := by
  unfold cmpQ
  have h1 : a + c < b + c ↔ a < b := by grind
  have h2 : a + c = b + c ↔ a = b := by grind
  simp only [h1, h2]
theorem cmpQ_int (a b : Int) : cmpQ (a : Rat) (b : Rat) = if a < b then -1 else if a = b then 0 else 1 := by
  unfold cmpQ
  simp only [Rat.intCast_lt_intCast, Rat.intCast_inj]
theorem cmpQ_floor (a : Rat) : cmpQ ((a.floor : Int) : Rat) a ≤ 0 := by
  have := Rat.floor_le a
  unfold cmpQ
  split
  · decide
  · rw [if_pos (by grind)]; decide
theorem cmpQ_floor1 (a : Rat) : cmpQ (((a.floor : Int) : Rat) + ((1 : Int) : Rat)) a > 0 := by
  have := Rat.lt_floor_add_one a
  rw [Rat.intCast_add] at this
  unfold cmpQ
  rw [if_neg (by grind), if_neg (by grind)]; decide
theorem div_mul {a b : Rat} (h : b ≠ 0) : a / b * b = a := Rat.div_mul_cancel h
theorem add_sub (a b : Rat) : a + b - b = a := by grind
theorem rv_wide {s : Bool} {xs ys : List Nat} : rv s (val (xs ++ [0, 0])) (val (ys ++ [0])) = rv s (val xs) (val ys) := by
  have h1 : ∀ l : List Nat, val (l ++ [0]) = val l := fun l => by
    induction l with
    | nil => rfl
    | cons x r ih => simp only [List.cons_append, val, ih]
  have h2 : xs ++ [0, 0] = (xs ++ [0]) ++ [0] := by simp
  rw [h2, h1, h1, h1]
end Go.Proofs.Ytfpipaoobmcomaa
