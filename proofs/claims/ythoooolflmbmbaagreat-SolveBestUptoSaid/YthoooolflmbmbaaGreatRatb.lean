/- More of fractions: sizes of their parts, comparisons, whole numbers below. Nothing of a program in sight. -/
import Derived.Test.YthoooolflmbmbaaGreatPar
namespace Go.Proofs.YthoooolflmbmbaaGreat
open Go.RowKit
set_option linter.unusedVariables false
set_option linter.unusedSimpArgs false
theorem Fit.zero {c:Nat} (h:1≤c):Fit 0 c:=⟨by rw [show (0:Rat).num=0 from rfl]; simp [toL_zero],by rw [show (0:Rat).den=1 from rfl,toL_1]; exact h⟩
theorem Fit.sub {a b:Rat} {c d:Nat} (h1:Fit a c) (h2:Fit b d):Fit (a - b) (c + d + 1):=by rw [Rat.sub_eq_add_neg]; exact h1.add h2.neg
theorem Fit.div {a b:Rat} {c d:Nat} (h1:Fit a c) (h2:Fit b d) (hc:1≤c):Fit (a / b) (c + d):=by
  by_cases hb:b=0
  · subst hb
    rw [Rat.div_def,Rat.inv_zero,Rat.mul_zero]
    exact Fit.zero (by omega)
  rw [← div_num hb]
  obtain ⟨a1,a2⟩:=h1;obtain ⟨b1,b2⟩:=h2;have m1:=toL_len_mul a1 b2;have m3:=toL_len_mul a2 b1
  have hn:b.num.natAbs≠0:=fun h=>hb ((num_zero_iff b).1 h)
  unfold Proofs.YthoooolflmbmbaaGreat.rv
  constructor
  · refine Nat.le_trans (toL_len_mono (mkRat_num_le _ _)) ?_
    rw [sg_abs]; exact m1
  exact Nat.le_trans (toL_len_mono (mkRat_den_le _ (Nat.mul_ne_zero a.den_nz hn))) m3
theorem Fit.int {n:Int} (h1:-9223372036854775808≤n) (h2:n≤9223372036854775807):Fit (n:Rat) 2:=by
  constructor
  · rw [Rat.num_intCast]; exact toL_length_le (by omega)
  rw [Rat.den_intCast,toL_1]; decide
end Go.Proofs.YthoooolflmbmbaaGreat
