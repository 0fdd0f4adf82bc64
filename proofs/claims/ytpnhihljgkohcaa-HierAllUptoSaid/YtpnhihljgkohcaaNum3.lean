/- Several texts in one. -/

section
namespace Go.Proofs.Ytpnhihljgkohcaa
set_option linter.unusedVariables false
/-- A limb's base. -/
abbrev LB : Nat := 4294967296
def val : List Nat → Nat
  | [] => 0
  | x :: r => x + 4294967296 * val r
def toL (n : Nat) : List Nat := if h : n = 0 then [] else (n % 4294967296) :: toL (n / 4294967296)
termination_by n
decreasing_by exact Nat.div_lt_self (Nat.pos_of_ne_zero h) (by decide)
theorem toL_zero : toL 0 = [] := by rw [toL]; simp
theorem toL_pos {n : Nat} (h : n ≠ 0) : toL n = (n % 4294967296) :: toL (n / 4294967296) := by rw [toL]; simp [h]
theorem val_toL (n : Nat) : val (toL n) = n := by
  induction n using Nat.strongRecOn with
  | _ n ih =>
    by_cases h : n = 0
    · subst h; simp [toL_zero, val]
    · rw [toL_pos h, val, ih _ (Nat.div_lt_self (Nat.pos_of_ne_zero h) (by decide))]
      exact Nat.mod_add_div n 4294967296
theorem toL_lt (n : Nat) : ∀ x ∈ toL n, x < 4294967296 := by
  induction n using Nat.strongRecOn with
  | _ n ih =>
    by_cases h : n = 0
    · subst h; simp [toL_zero]
    · rw [toL_pos h]
      intro x hx
      rcases List.mem_cons.1 hx with rfl | hx
      · exact Nat.mod_lt _ (by decide)
      · exact ih _ (Nat.div_lt_self (Nat.pos_of_ne_zero h) (by decide)) x hx
theorem toL_nil {n : Nat} : toL n = [] ↔ n = 0 := by
  by_cases h : n = 0
  · subst h; simp [toL_zero]
  · rw [toL_pos h]; simp [h]
theorem toL_inj {n m : Nat} (h : toL n = toL m) : n = m := by rw [← val_toL n, h, val_toL]
theorem val_append : ∀ (xs ys : List Nat), val (xs ++ ys) = val xs + 4294967296 ^ xs.length * val ys
  | [], ys => by simp [val]
  | x :: r, ys => by
    simp only [List.cons_append, val, val_append r ys, List.length_cons, Nat.pow_succ, Nat.mul_add]
    rw [Nat.add_assoc, Nat.mul_comm (4294967296 ^ r.length) 4294967296, Nat.mul_assoc]
theorem val_lt : ∀ (xs : List Nat), (∀ x ∈ xs, x < 4294967296) → val xs < 4294967296 ^ xs.length
  | [], _ => by simp [val]
  | x :: r, h => by
    have h1 := val_lt r (fun y hy => h y (by simp [hy]))
    have h2 := h x (by simp)
    simp only [val, List.length_cons, Nat.pow_succ]
    omega
theorem val_replicate (k : Nat) : val (List.replicate k 0) = 0 := by
  induction k with
  | zero => rfl
  | succ k ih => simp [List.replicate_succ, val, ih]
def trimmedB (xs : List Nat) : Bool := xs.getLast? != some 0
theorem trimmed_toL (n : Nat) : trimmedB (toL n) = true := by
  induction n using Nat.strongRecOn with
  | _ n ih =>
    by_cases h : n = 0
    · subst h; simp [toL_zero, trimmedB]
    · rw [toL_pos h]
      have h1 := ih (n / 4294967296) (Nat.div_lt_self (Nat.pos_of_ne_zero h) (by decide))
      unfold trimmedB at *
      by_cases h2 : n / 4294967296 = 0
      · rw [h2, toL_zero]
        simp
        omega
      · rw [List.getLast?_cons_of_ne_nil (fun hh => h2 (toL_nil.1 hh))]
        exact h1
/-- Limbs without noughts at their end are those of their number. -/
theorem toL_val : ∀ (xs : List Nat), (∀ x ∈ xs, x < 4294967296) → trimmedB xs = true → toL (val xs) = xs
  | [], _, _ => by simp [val, toL_zero]
  | x :: r, h, ht => by
    have hx := h x (by simp)
    have hr : trimmedB r = true := by
      cases r with
      | nil => rfl
      | cons y s => unfold trimmedB at *; rw [List.getLast?_cons_of_ne_nil (by simp)] at ht; exact ht
    have ih := toL_val r (fun y hy => h y (by simp [hy])) hr
    have hne : val (x :: r) ≠ 0 := by
      simp only [val]
      intro h0
      have h1 : x = 0 := by omega
      have h2 : val r = 0 := by omega
      rw [h2, toL_zero] at ih
      subst ih; subst h1
      simp [trimmedB] at ht
    rw [toL_pos hne]
    simp only [val]
    have e1 : (x + 4294967296 * val r) % 4294967296 = x := by omega
    have e2 : (x + 4294967296 * val r) / 4294967296 = val r := by omega
    rw [e1, e2, ih]
theorem toL_length_le {n k : Nat} (h : n < 4294967296 ^ k) : (toL n).length ≤ k := by
  induction k generalizing n with
  | zero => have : n = 0 := by simpa using h
            subst this; simp [toL_zero]
  | succ k ih =>
    by_cases h0 : n = 0
    · subst h0; simp [toL_zero]
    · rw [toL_pos h0, List.length_cons]
      have : n / 4294967296 < 4294967296 ^ k := by
        rw [Nat.div_lt_iff_lt_mul (by decide)]
        rw [Nat.pow_succ] at h; exact h
      have := ih this
      omega
theorem toL_length_gt {n k : Nat} (h : 4294967296 ^ k ≤ n) : k < (toL n).length := by
  rcases Nat.lt_or_ge k (toL n).length with h1 | h1
  · exact h1
  · exfalso
    have h2 := val_lt (toL n) (toL_lt n)
    rw [val_toL] at h2
    have := Nat.pow_le_pow_right (show 0 < 4294967296 by decide) h1
    omega
theorem toL_length_val (xs : List Nat) (h : ∀ x ∈ xs, x < 4294967296) : (toL (val xs)).length ≤ xs.length := toL_length_le (val_lt xs h)
theorem val_take_drop (xs : List Nat) (k : Nat) : val xs = val (xs.take k) + 4294967296 ^ (min k xs.length) * val (xs.drop k) := by
  have := val_append (xs.take k) (xs.drop k)
  rw [List.take_append_drop, List.length_take] at this
  exact this
/-- Noughts at the end may go. -/
theorem val_take_zero {xs : List Nat} {m : Nat} (hm : m < xs.length) (h0 : xs[m] = 0) (h : val (xs.take (m + 1)) = val xs) : val (xs.take m) = val xs := by
  rw [List.take_succ_eq_append_getElem hm, val_append] at h
  simpa [h0, val] using h
end Go.Proofs.Ytpnhihljgkohcaa
end
section
namespace Go.Proofs.Ytpnhihljgkohcaa
set_option linter.unusedVariables false
theorem pow_LB_succ (k : Nat) : 4294967296 ^ (k + 1) = 4294967296 * 4294967296 ^ k := by rw [Nat.pow_succ, Nat.mul_comm]
theorem pow_LB_pos (k : Nat) : 0 < 4294967296 ^ k := Nat.pow_pos (by decide)
theorem val_take_succ {xs : List Nat} {k : Nat} (h : k < xs.length) : val (xs.take (k + 1)) = val (xs.take k) + 4294967296 ^ k * xs[k] := by
  rw [List.take_succ_eq_append_getElem h, val_append, List.length_take]
  have : min k xs.length = k := by omega
  rw [this]; simp [val]
theorem val_take_all {xs : List Nat} {k : Nat} (h : xs.length ≤ k) : val (xs.take k) = val xs := by rw [List.take_of_length_le h]
theorem val_set : ∀ {xs : List Nat} {j : Nat} (h : j < xs.length) (u : Nat), val (xs.set j u) + 4294967296 ^ j * xs[j] = val xs + 4294967296 ^ j * u
  | x :: r, 0, h, u => by simp [val]; omega
  | x :: r, j + 1, h, u => by
    have ih := val_set (xs := r) (j := j) (by simpa using h) u
    simp only [List.set_cons_succ, val, List.getElem_cons_succ, pow_LB_succ]
    grind
theorem val_take_set {xs : List Nat} {k : Nat} (h : k < xs.length) (u : Nat) : val ((xs.set k u).take (k + 1)) = val (xs.take k) + 4294967296 ^ k * u := by
  rw [val_take_succ (by simpa using h)]
  simp [List.take_set_of_le]
theorem val_drop_step {xs : List Nat} {k : Nat} (h : k < xs.length) : val (xs.drop k) = xs[k] + 4294967296 * val (xs.drop (k + 1)) := by
  rw [List.drop_eq_getElem_cons h, val]
theorem val_lt_len {xs : List Nat} {n : Nat} (h : ∀ x ∈ xs, x < 4294967296) (hl : xs.length = n) : val xs < 4294967296 ^ n := hl ▸ val_lt xs h
theorem set_lt {xs : List Nat} (h : ∀ x ∈ xs, x < 4294967296) {j u : Nat} (hu : u < 4294967296) : ∀ x ∈ xs.set j u, x < 4294967296 := fun x hx => by
  rcases List.mem_or_eq_of_mem_set hx with h1 | h1
  · exact h x h1
  · omega
theorem rep_lt (n : Nat) : ∀ x ∈ List.replicate n 0, x < 4294967296 := fun x hx => by have := (List.mem_replicate.1 hx).2; omega
theorem val_ge_getElem {xs : List Nat} {j : Nat} (h : j < xs.length) : 4294967296 ^ j * xs[j] ≤ val xs := by
  have := val_take_drop xs (j + 1)
  rw [val_take_succ h] at this
  omega
/-- A number's limbs below a power: nothing stands above. -/
theorem zero_above {xs : List Nat} {k : Nat} (h : val xs < 4294967296 ^ k) {j : Nat} (hj : j < xs.length) (hk : k ≤ j) : xs[j] = 0 := by
  have h1 := val_ge_getElem hj
  rcases Nat.eq_zero_or_pos xs[j] with h0 | h0
  · exact h0
  · exfalso
    have h2 := Nat.pow_le_pow_right (show 0 < 4294967296 by decide) hk
    have h3 : 4294967296 ^ j * 1 ≤ 4294967296 ^ j * xs[j] := Nat.mul_le_mul_left _ h0
    omega
theorem val_take_lt {xs : List Nat} {k : Nat} (h : val xs < 4294967296 ^ k) : val (xs.take k) = val xs := by
  have h1 := val_take_drop xs k
  rcases Nat.le_total xs.length k with h2 | h2
  · exact val_take_all h2
  · rw [Nat.min_eq_left h2] at h1
    have h3 : val (xs.drop k) = 0 := by
      rcases Nat.eq_zero_or_pos (val (xs.drop k)) with h0 | h0
      · exact h0
      · exfalso
        have : 4294967296 ^ k * 1 ≤ 4294967296 ^ k * val (xs.drop k) := Nat.mul_le_mul_left _ h0
        omega
    rw [h3] at h1; omega
/-! ## comparing -/
def cmpI (a b : Nat) : Int := if a < b then -1 else if a = b then 0 else 1
theorem cmpI_lt {a b : Nat} (h : a < b) : cmpI a b = -1 := by unfold cmpI; rw [if_pos h]
theorem cmpI_gt {a b : Nat} (h : b < a) : cmpI a b = 1 := by unfold cmpI; rw [if_neg (by omega), if_neg (by omega)]
theorem cmpI_eq {a b : Nat} (h : a = b) : cmpI a b = 0 := by unfold cmpI; rw [if_neg (by omega), if_pos h]
theorem val_take_succD (xs : List Nat) (k : Nat) : val (xs.take (k + 1)) = val (xs.take k) + 4294967296 ^ k * xs.getD k 0 := by
  rcases Nat.lt_or_ge k xs.length with h | h
  · rw [val_take_succ h]; simp [h]
  · rw [List.take_of_length_le h, List.take_of_length_le (by omega)]; simp [h]
theorem val_two (n : Nat) (h : n < 18446744073709551616) : val [n % 4294967296, n / 4294967296 % 4294967296] = n := by simp [val]; omega
theorem drop_step {xs ys : List Nat} {m : Nat} (h0 : 0 < m) (h1 : m ≤ xs.length) (h2 : m ≤ ys.length) (hd : xs.drop m = ys.drop m) (he : xs[m - 1] = ys[m - 1]) : xs.drop (m - 1) = ys.drop (m - 1) := by
  rw [List.drop_eq_getElem_cons (by omega), List.drop_eq_getElem_cons (l := ys) (by omega), he]
  have : m - 1 + 1 = m := by omega
  rw [this, hd]
theorem toL_len_40 {xs : List Nat} (hx : ∀ x ∈ xs, x < 4294967296) {c : Nat} (h : xs.length ≤ c) : (toL (val xs)).length ≤ c := Nat.le_trans (toL_length_val xs hx) h
theorem toL_len_add {a b c : Nat} (h1 : (toL a).length ≤ c) (h2 : (toL b).length ≤ c) : (toL (a + b)).length ≤ c + 1 := by
  have e1 := val_lt (toL a) (toL_lt a)
  have e2 := val_lt (toL b) (toL_lt b)
  rw [val_toL] at e1 e2
  have e3 := Nat.pow_le_pow_right (show 0 < 4294967296 by decide) h1
  have e4 := Nat.pow_le_pow_right (show 0 < 4294967296 by decide) h2
  refine toL_length_le ?_
  rw [pow_LB_succ]; omega
theorem toL_len_mul {a b c d : Nat} (h1 : (toL a).length ≤ c) (h2 : (toL b).length ≤ d) : (toL (a * b)).length ≤ c + d := by
  have e1 := val_lt (toL a) (toL_lt a)
  have e2 := val_lt (toL b) (toL_lt b)
  rw [val_toL] at e1 e2
  have e3 := Nat.pow_le_pow_right (show 0 < 4294967296 by decide) h1
  have e4 := Nat.pow_le_pow_right (show 0 < 4294967296 by decide) h2
  refine toL_length_le ?_
  rw [Nat.pow_add]
  exact Nat.mul_lt_mul'' (by omega) (by omega)
theorem toL_len_mono {a b : Nat} (h : a ≤ b) : (toL a).length ≤ (toL b).length := by
  refine toL_length_le (Nat.lt_of_le_of_lt h ?_)
  have := val_lt (toL b) (toL_lt b)
  rwa [val_toL] at this
theorem lt_of_toL_len {a b : Nat} (h : (toL a).length < (toL b).length) : a < b := by
  rcases Nat.lt_or_ge a b with h1 | h1
  · exact h1
  · have := toL_len_mono h1; omega
/-- Two rows of limbs that are alike above one at which the first is less. -/
theorem val_lt_of_top {xs ys : List Nat} {j : Nat} (hx : ∀ x ∈ xs, x < 4294967296) (h1 : j < xs.length) (h2 : j < ys.length) (hd : xs.drop (j + 1) = ys.drop (j + 1)) (hl : xs[j] < ys[j]) : val xs < val ys := by
  have a1 := val_take_drop xs (j + 1)
  have a2 := val_take_drop ys (j + 1)
  rw [val_take_succ h1, Nat.min_eq_left (by omega)] at a1
  rw [val_take_succ h2, Nat.min_eq_left (by omega), ← hd] at a2
  have a3 := val_lt (xs.take j) (fun x hh => hx x (List.mem_of_mem_take hh))
  rw [List.length_take, Nat.min_eq_left (by omega)] at a3
  have a4 : 4294967296 ^ j * (xs[j] + 1) ≤ 4294967296 ^ j * ys[j] := Nat.mul_le_mul_left _ hl
  rw [Nat.mul_add, Nat.mul_one] at a4
  omega
/-! ## one limb and its carry -/
theorem add_step {P a b cy t s A : Nat} (h : s + P * cy = A) (ht : t = cy + a + b) : s + P * (t % 4294967296) + P * 4294967296 * (t / 4294967296) = A + P * a + P * b := by
  have := Nat.mod_add_div t 4294967296
  grind
/-- Taking away: the limb, and whether one is borrowed. -/
def subW (x y b : Nat) : Nat := (x + (4294967296 - (y + b) % 4294967296)) % 4294967296
def subB (x y b : Nat) : Nat := if x < y + b then 1 else 0
theorem subW_eq {x y b : Nat} (hx : x < 4294967296) (hy : y < 4294967296) (hb : b ≤ 1) : subW x y b + y + b = x + 4294967296 * subB x y b := by
  unfold subW subB; split <;> omega
theorem subW_lt (x y b : Nat) : subW x y b < 4294967296 := Nat.mod_lt _ (by decide)
theorem subB_le (x y b : Nat) : subB x y b ≤ 1 := by unfold subB; split <;> omega
theorem bit31 {n : Nat} (h : n < 4294967296) : n / 2147483648 = if n.testBit 31 then 1 else 0 := by
  rw [Nat.testBit_eq_decide_div_mod_eq]
  have e : (2 : Nat) ^ 31 = 2147483648 := by decide
  rw [e]
  by_cases h1 : n / 2147483648 % 2 = 1
  · simp [h1]; omega
  · simp [h1]; omega
theorem testBit31 {n : Nat} (h : n < 4294967296) : n.testBit 31 = decide (2147483648 ≤ n) := by
  have h1 := bit31 h
  by_cases h2 : n.testBit 31 = true
  · rw [h2]; rw [if_pos h2] at h1; simp; omega
  · rw [if_neg h2] at h1
    have : n.testBit 31 = false := by simpa using h2
    rw [this]; simp; omega
/-- The bits of which Go's library makes what is borrowed. -/
theorem sub_bits {x y b : Nat} (hx : x < 4294967296) (hy : y < 4294967296) (hb : b ≤ 1) :
    (((4294967295 - x) &&& y) ||| ((4294967295 - (x ^^^ y)) &&& subW x y b)) / 2147483648 = subB x y b := by
  have hd := subW_lt x y b
  have hxy : x ^^^ y < 4294967296 := Nat.xor_lt_two_pow (n := 32) hx hy
  have h1 : (4294967295 - x) &&& y < 2 ^ 32 := Nat.lt_of_le_of_lt Nat.and_le_right hy
  have h2 : (4294967295 - (x ^^^ y)) &&& subW x y b < 2 ^ 32 := Nat.lt_of_le_of_lt Nat.and_le_right hd
  rw [bit31 (Nat.or_lt_two_pow h1 h2)]
  have e1 : (4294967295 - x).testBit 31 = !x.testBit 31 := by
    rw [testBit31 (by omega), testBit31 hx, Bool.eq_iff_iff]; simp; omega
  have e2 : (4294967295 - (x ^^^ y)).testBit 31 = !(x.testBit 31 ^^ y.testBit 31) := by
    rw [← Nat.testBit_xor, testBit31 (by omega), testBit31 hxy, Bool.eq_iff_iff]; simp; omega
  simp only [Nat.testBit_or, Nat.testBit_and, e1, e2, testBit31 hx, testBit31 hy, testBit31 hd]
  have h3 := subW_eq hx hy hb
  have h4 := subB_le x y b
  by_cases c1 : 2147483648 ≤ x <;> by_cases c2 : 2147483648 ≤ y <;> by_cases c3 : 2147483648 ≤ subW x y b <;> simp [c1, c2, c3] <;> omega
/-! ## the guess of a limb (Knuth) -/
theorem knuth {U V P N' D' N D q x : Nat} (hN : N = U * P + N') (hN' : N' < P) (hD : D = V * P + D') (hD' : D' < P) (hV : 4294967296 ≤ V)
    (hq1 : q * D ≤ N) (hq2 : N < (q + 1) * D) (hqB : q < 4294967296) (hx : x < 4294967296) (hx2 : x * V ≤ U) (hx3 : 4294967296 ≤ x + 1 ∨ U < (x + 1) * V) : q ≤ x ∧ x ≤ q + 1 := by
  constructor
  · refine Nat.le_of_not_lt fun hlt => ?_
    rcases hx3 with h | h
    · omega
    · have h1 : (x + 1) * V ≤ q * V := Nat.mul_le_mul_right _ hlt
      have h2 : q * V * P ≤ q * D := by rw [hD, Nat.mul_add, Nat.mul_assoc]; omega
      have h3 : (U + 1) * P ≤ q * V * P := Nat.mul_le_mul_right _ (by omega)
      rw [Nat.add_mul, Nat.one_mul] at h3
      omega
  · refine Nat.le_of_not_lt fun hlt => ?_
    obtain ⟨y, rfl⟩ : ∃ y, x = y + 1 := ⟨x - 1, by omega⟩
    have h1 : (q + 1) * D ≤ y * D := Nat.mul_le_mul_right _ (by omega)
    have h2 : (y + 1) * V * P ≤ U * P := Nat.mul_le_mul_right _ hx2
    have h3 : y * D = y * V * P + y * D' := by rw [hD, Nat.mul_add, Nat.mul_assoc]
    have h4 : (y + 1) * V * P = y * V * P + V * P := by rw [Nat.add_mul, Nat.one_mul, Nat.add_mul]
    have h5 : y * D' ≤ y * P := Nat.mul_le_mul_left _ (by omega)
    have h6 : (y + 1) * P ≤ V * P := Nat.mul_le_mul_right _ (by omega)
    rw [Nat.add_mul, Nat.one_mul] at h6
    omega
/-! ## steps of loops -/
theorem cmpI_lt0 (a b : Nat) : decide (cmpI a b < 0) = decide (a < b) := by
  unfold cmpI
  by_cases h : a < b
  · simp [h]
  · by_cases h2 : a = b <;> simp [h, h2]
theorem cmpI_ge0 (a b : Nat) : decide (0 ≤ cmpI a b) = decide (b ≤ a) := by
  unfold cmpI
  by_cases h : a < b
  · simp [h]
  · by_cases h2 : a = b
    · subst h2; simp
    · rw [if_neg h, if_neg h2]; simp; omega
theorem sub_step {P A C D x y w b b' : Nat} (h : A + P * b = C + D) (hw : w + y + b = x + 4294967296 * b') : A + P * x + 4294967296 * P * b' = C + P * w + (D + P * y) := by grind
theorem sub_end {P A C D b : Nat} (h : A + P * b = C + D) (hb : b ≤ 1) (hC : C < P) (hge : D ≤ A) : C = A - D := by
  rcases Nat.eq_zero_or_pos b with h0 | h0
  · subst h0; omega
  · obtain rfl : b = 1 := by omega
    omega
theorem mul_step {Pi Pk S S' S0 V a b c cy t B : Nat} (hset : S' + Pi * Pk * c = S + Pi * Pk * (t % B)) (hinv : S + Pi * Pk * cy = S0 + Pi * (a * V)) (ht : t = cy + (a * b + c)) :
    S' + B * (Pi * Pk) * (t / B) = S0 + Pi * (a * (V + Pk * b)) := by
  have h := Nat.mod_add_div t B
  grind
theorem mul_end {Pi P S S' S0 X D a cy : Nat} (hset : S' = S + P * cy) (hinv : S + P * cy = S0 + Pi * (a * D)) (h0 : S0 = X * D) : S' = (X + Pi * a) * D := by grind
theorem limb_mul {a b : Nat} (ha : a < 4294967296) (hb : b < 4294967296) : a * b ≤ 18446744065119617025 := Nat.mul_le_mul (show a ≤ 4294967295 by omega) (show b ≤ 4294967295 by omega)
theorem val_drop_set {xs : List Nat} {k : Nat} (h : k < xs.length) (u : Nat) : val ((xs.set k u).drop k) = u + 4294967296 * val (xs.drop (k + 1)) := by
  rw [val_drop_step (by simpa using h)]
  simp [List.drop_set_of_lt]
theorem small_step {b Q r x B N X : Nat} (h : X = b * Q + r) (hN : N = r * B + x) : x + B * X = b * (N / b + B * Q) + N % b := by
  have := Nat.mod_add_div N b
  grind
theorem or_add {a b k : Nat} (h : b < 2 ^ k) : a * 2 ^ k ||| b = a * 2 ^ k + b := by
  rw [← Nat.shiftLeft_eq]; exact (Nat.shiftLeft_add_eq_or_of_lt h a).symm
theorem or32 {a b : Nat} (h : b < 4294967296) : a * 4294967296 ||| b = a * 4294967296 + b := or_add (k := 32) h
theorem or_low {c v s : Nat} (hc : c < 2 ^ s) (hs : s < 32) : c ||| (v * 2 ^ s % 4294967296) = c + v * 2 ^ s % 4294967296 := by
  have e : (4294967296 : Nat) = 2 ^ (32 - s) * 2 ^ s := by rw [← Nat.pow_add, Nat.sub_add_cancel (by omega)]
  rw [e, Nat.mul_mod_mul_right, Nat.or_comm, or_add hc, Nat.add_comm]
theorem shl_lt {v s : Nat} (hv : v < 4294967296) (hs : s < 32) : v * 2 ^ s ≤ 9223372034707292160 := by
  have h1 : 2 ^ s ≤ 2 ^ 31 := Nat.pow_le_pow_right (by decide) (by omega)
  have := Nat.mul_le_mul (show v ≤ 4294967295 by omega) h1
  omega
theorem val_take_lt_pow {xs : List Nat} (hx : ∀ x ∈ xs, x < 4294967296) {k : Nat} (hk : k ≤ xs.length) : val (xs.take k) < 4294967296 ^ k := by
  have := val_lt (xs.take k) (fun x h => hx x (List.mem_of_mem_take h))
  rwa [List.length_take, Nat.min_eq_left hk] at this
/-- A row that is moved up by some bits. -/
theorem left_lt {xs : List Nat} (hx : ∀ x ∈ xs, x < 4294967296) {i s : Nat} (hi : i ≤ xs.length) : val (xs.take i) * 2 ^ s < 4294967296 ^ i * 2 ^ s := Nat.mul_lt_mul_of_pos_right (val_take_lt_pow hx hi) (Nat.pow_pos (by decide))
theorem pow32_le {s : Nat} (hs : s < 32) : 2 ^ s < 4294967296 := by
  have : 2 ^ s ≤ 2 ^ 31 := Nat.pow_le_pow_right (by decide) (by omega)
  omega
theorem left_cell {xs cs : List Nat} (hx : ∀ x ∈ xs, x < 4294967296) {i s n : Nat} (hs : s < 32) (hi : i ≤ xs.length) (hn : i < n) (hv : val cs = val (xs.take i) * 2 ^ s % 4294967296 ^ n) :
    val cs = val (xs.take i) * 2 ^ s ∧ val cs < 4294967296 ^ i * 2 ^ s ∧ val cs < 4294967296 ^ (i + 1) := by
  have h1 := left_lt (s := s) hx hi
  have h2 : 4294967296 ^ i * 2 ^ s ≤ 4294967296 ^ (i + 1) := by rw [Nat.pow_succ]; exact Nat.mul_le_mul_left _ (Nat.le_of_lt (pow32_le hs))
  have h3 := Nat.pow_le_pow_right (show 0 < 4294967296 by decide) (show i + 1 ≤ n from hn)
  have h4 : val cs = val (xs.take i) * 2 ^ s := by rw [hv]; exact Nat.mod_eq_of_lt (by omega)
  exact ⟨h4, by omega, by omega⟩
theorem cell_lt_pow {cs : List Nat} {i s : Nat} (h : val cs < 4294967296 ^ i * 2 ^ s) (hi : i < cs.length) : cs[i] < 2 ^ s := by
  have h1 := val_ge_getElem hi
  exact Nat.lt_of_mul_lt_mul_left (a := 4294967296 ^ i) (by omega)
theorem left_step2 {P S S' S0 v p lo hi B c1 : Nat} (h1 : S' = S + P * lo) (h2 : S0 = S' + B * P * hi) (hw : lo + B * hi = v * p) (hS : S = c1 * p) : S0 = (c1 + P * v) * p := by grind
theorem left_last {P S S' v p lo hi B c1 : Nat} (h1 : S' = S + P * lo) (hw : lo + B * hi = v * p) (hS : S = c1 * p) (hlt : S' < B * P) : S' = (c1 + P * v) * p % (B * P) := by
  have : (c1 + P * v) * p = S' + B * P * hi := by grind
  rw [this, Nat.add_mul_mod_self_left, Nat.mod_eq_of_lt hlt]
/-! ## the guess -/
theorem guess_first {u b1 b2 u0 B : Nat} (h0 : u0 < B) (hb : 0 < b1) : u * B + u0 < (u / b1 + 1) * (b1 * B + b2) := by
  have h1 : u < (u / b1 + 1) * b1 := by have := Nat.lt_div_mul_add hb (a := u); rw [Nat.add_mul, Nat.one_mul]; exact this
  have h2 : (u + 1) * B ≤ (u / b1 + 1) * b1 * B := Nat.mul_le_mul_right _ h1
  have h3 : (u / b1 + 1) * (b1 * B + b2) = (u / b1 + 1) * b1 * B + (u / b1 + 1) * b2 := by rw [Nat.mul_add, Nat.mul_assoc]
  rw [Nat.add_mul, Nat.one_mul] at h2
  omega
theorem guess_ok {q r u b1 b2 u0 B : Nat} (h : q * b1 + r = u) (hle : q * b2 ≤ r * B + u0) : q * (b1 * B + b2) ≤ u * B + u0 := by
  subst h
  have : (q * b1 + r) * B + u0 = q * b1 * B + (r * B + u0) := by grind
  have h2 : q * (b1 * B + b2) = q * b1 * B + q * b2 := by grind
  omega
theorem guess_down {q r u b1 b2 u0 B : Nat} (h : q * b1 + r = u) (hle : r * B + u0 < q * b2) : u * B + u0 < q * (b1 * B + b2) := by
  subst h
  have : (q * b1 + r) * B + u0 = q * b1 * B + (r * B + u0) := by grind
  have h2 : q * (b1 * B + b2) = q * b1 * B + q * b2 := by grind
  omega
theorem guess_brk {q r u2 u1 b1 b2 u0 : Nat} (h : q * b1 + r = u2 * 4294967296 + u1) (h1 : u1 < 4294967296) (hr : 4294967296 ≤ r) (hb2 : b2 < 4294967296) (hu : u2 ≤ b1) :
    q < 4294967296 ∧ q * (b1 * 4294967296 + b2) ≤ (u2 * 4294967296 + u1) * 4294967296 + u0 := by
  have hq : q < 4294967296 := by
    refine Nat.lt_of_not_le fun hge => ?_
    have : 4294967296 * u2 ≤ q * b1 := Nat.mul_le_mul hge hu
    omega
  refine ⟨hq, guess_ok h ?_⟩
  have := limb_mul hq hb2
  omega
theorem guess_le {u2 u1 b1 : Nat} (h1 : u1 < 4294967296) (hu : u2 ≤ b1) (hb : 2147483648 ≤ b1) : (u2 * 4294967296 + u1) / b1 ≤ 4294967297 := by
  have : (u2 * 4294967296 + u1) / b1 < 4294967298 := by rw [Nat.div_lt_iff_lt_mul (by omega)]; omega
  omega
end Go.Proofs.Ytpnhihljgkohcaa
end
section
namespace Go.Proofs.Ytpnhihljgkohcaa
set_option linter.unusedVariables false
/-! ## taking a multiple away -/
theorem takes_step {Po Pk S S' S0 V q b c u u' lo hi bw bw' B : Nat} (hset : S' + Po * Pk * u = S + Po * Pk * u') (hinv : S + Po * (q * V) = S0 + Po * Pk * (c + bw)) (hc : lo + B * hi = c + q * b) (hu : u' + lo + bw = u + B * bw') :
    S' + Po * (q * (V + Pk * b)) = S0 + B * (Po * Pk) * (hi + bw') := by grind
theorem takes_last {Po Pn S S' S0 D q c u u' bw bw' B : Nat} (hset : S' + Po * Pn * u = S + Po * Pn * u') (hinv : S + Po * (q * D) = S0 + Po * Pn * (c + bw)) (hu : u' + c + bw = u + B * bw') :
    S' + Po * (q * D) = S0 + B * (Po * Pn) * bw' := by grind
theorem back_step {Po Pk S S' S0 V b m u t B : Nat} (hset : S' + Po * Pk * u = S + Po * Pk * (t % B)) (hinv : S + Po * Pk * m = S0 + Po * V) (ht : t = u + b + m) : S' + B * (Po * Pk) * (t / B) = S0 + Po * (V + Pk * b) := by
  have := Nat.mod_add_div t B
  grind
theorem back_last {Po Pk S S' S0 V m u t B : Nat} (hset : S' + Po * Pk * u = S + Po * Pk * (t % B)) (hinv : S + Po * Pk * m = S0 + Po * V) (ht : t = u + m) : S' + B * (Po * Pk) * (t / B) = S0 + Po * V := by
  have := Nat.mod_add_div t B
  grind
def seg (cs : List Nat) (o n : Nat) : Nat := val ((cs.drop o).take (n + 1))
theorem val_split {cs : List Nat} {o n : Nat} (h : o + n + 1 ≤ cs.length) : val cs = val (cs.take o) + 4294967296 ^ o * (seg cs o n + 4294967296 * 4294967296 ^ n * val (cs.drop (o + n + 1))) := by
  have h1 := val_take_drop cs o
  have h2 := val_take_drop (cs.drop o) (n + 1)
  rw [Nat.min_eq_left (by omega)] at h1
  rw [List.length_drop, Nat.min_eq_left (by omega), List.drop_drop, pow_LB_succ] at h2
  unfold seg
  rw [h1, h2]
  rfl
theorem seg_lt {cs : List Nat} (hc : ∀ x ∈ cs, x < 4294967296) {o n : Nat} (h : o + n + 1 ≤ cs.length) : seg cs o n < 4294967296 * 4294967296 ^ n := by
  have := val_lt ((cs.drop o).take (n + 1)) (fun x hx => hc x (List.mem_of_mem_drop (List.mem_of_mem_take hx)))
  rw [List.length_take, List.length_drop, Nat.min_eq_left (by omega), pow_LB_succ] at this
  exact this
/-- What stands beside is the same: so the parts between stand as the wholes do. -/
theorem seg_cancel {cs ds : List Nat} {o n X Y : Nat} (h1 : o + n + 1 ≤ cs.length) (h2 : o + n + 1 ≤ ds.length) (ht : ds.take o = cs.take o) (hd : ds.drop (o + n + 1) = cs.drop (o + n + 1))
    (h : val ds + 4294967296 ^ o * X = val cs + 4294967296 ^ o * Y) : seg ds o n + X = seg cs o n + Y := by
  have e1 := val_split h1
  have e2 := val_split h2
  rw [ht, hd] at e2
  have hp := pow_LB_pos o
  refine Nat.eq_of_mul_eq_mul_left hp ?_
  rw [Nat.mul_add, Nat.mul_add]
  rw [Nat.mul_add] at e1 e2
  omega
theorem takes_false {cs ds : List Nat} {o n q D : Nat} (h1 : o + n + 1 ≤ cs.length) (h2 : o + n + 1 ≤ ds.length) (ht : ds.take o = cs.take o) (hd : ds.drop (o + n + 1) = cs.drop (o + n + 1))
    (h : val ds + 4294967296 ^ o * (q * D) = val cs + 4294967296 * (4294967296 ^ o * 4294967296 ^ n) * 0) : val ds + 4294967296 ^ o * (q * D) = val cs ∧ q * D ≤ seg cs o n := by
  rw [Nat.mul_zero, Nat.add_zero] at h
  refine ⟨h, ?_⟩
  have := seg_cancel (X := q * D) (Y := 0) h1 h2 ht hd (by rw [Nat.mul_zero]; exact h)
  omega
theorem takes_true {cs ds es : List Nat} {o n q D ov : Nat} (h1 : o + n + 1 ≤ cs.length) (h2 : o + n + 1 ≤ ds.length) (h3 : o + n + 1 ≤ es.length) (ht : ds.take o = cs.take o) (hd : ds.drop (o + n + 1) = cs.drop (o + n + 1))
    (ht2 : es.take o = cs.take o) (hd2 : es.drop (o + n + 1) = cs.drop (o + n + 1)) (hds : ∀ x ∈ ds, x < 4294967296) (hes : ∀ x ∈ es, x < 4294967296)
    (h : val ds + 4294967296 ^ o * (q * D) = val cs + 4294967296 * (4294967296 ^ o * 4294967296 ^ n) * 1) (hb : val es + 4294967296 * (4294967296 ^ o * 4294967296 ^ n) * ov = val ds + 4294967296 ^ o * D) (hov : ov ≤ 1) (hq : q * D ≤ seg cs o n + D) :
    val es + 4294967296 ^ o * (q * D) = val cs + 4294967296 ^ o * D ∧ seg cs o n < q * D := by
  have e1 := seg_cancel (X := q * D) (Y := 4294967296 * 4294967296 ^ n) h1 h2 ht hd (by rw [h, Nat.mul_one]; congr 1; rw [Nat.mul_left_comm])
  have e2 := seg_cancel (X := 4294967296 * 4294967296 ^ n * ov) (Y := D) (cs := ds) (ds := es) h2 h3 (by rw [ht, ht2]) (by rw [hd, hd2]) (by rw [← hb]; congr 1; rw [← Nat.mul_assoc, ← Nat.mul_assoc, ← Nat.mul_assoc, Nat.mul_comm (4294967296 ^ o) 4294967296])
  have l1 := seg_lt hds h2
  have l2 := seg_lt hes h3
  rcases Nat.eq_zero_or_pos ov with h0 | h0
  · subst h0; omega
  · obtain rfl : ov = 1 := by omega
    exact ⟨by omega, by omega⟩
/-! ## the long division -/
theorem val_top {xs : List Nat} {n : Nat} (hx : ∀ x ∈ xs, x < 4294967296) (h : n < xs.length) : ∃ r, val (xs.take (n + 1)) = xs[n] * 4294967296 ^ n + r ∧ r < 4294967296 ^ n :=
  ⟨val (xs.take n), by rw [val_take_succ h, Nat.mul_comm, Nat.add_comm], val_take_lt_pow hx (by omega)⟩
theorem val_top2 {xs : List Nat} {n : Nat} (hx : ∀ x ∈ xs, x < 4294967296) (h : n + 1 < xs.length) : ∃ r, val (xs.take (n + 2)) = (xs[n + 1] * 4294967296 + xs[n]) * 4294967296 ^ n + r ∧ r < 4294967296 ^ n := by
  obtain ⟨r, e, hr⟩ := val_top hx (show n < xs.length by omega)
  refine ⟨r, ?_, hr⟩
  rw [val_take_succ h, e, pow_LB_succ]
  grind
theorem val_top3 {xs : List Nat} {n : Nat} (hx : ∀ x ∈ xs, x < 4294967296) (h : n + 2 < xs.length) : ∃ r, val (xs.take (n + 3)) = ((xs[n + 2] * 4294967296 + xs[n + 1]) * 4294967296 + xs[n]) * 4294967296 ^ n + r ∧ r < 4294967296 ^ n := by
  obtain ⟨r, e, hr⟩ := val_top2 hx (show n + 1 < xs.length by omega)
  refine ⟨r, ?_, hr⟩
  rw [val_take_succ h, e, pow_LB_succ, pow_LB_succ]
  grind
/-- The divisor, moved up so far that its highest bit is set. -/
theorem norm_hi {bs : List Nat} {n s : Nat} (hx : ∀ x ∈ bs, x < 4294967296) (hn : bs.length = n + 1) (hs : bs[n] * 2 ^ s < 4294967296) (hs32 : s < 32) : val bs * 2 ^ s < 4294967296 ^ (n + 1) := by
  obtain ⟨r, e, hr⟩ := val_top hx (show n < bs.length by omega)
  rw [val_take_all (by omega)] at e
  have h1 : (bs[n] + 1) * 2 ^ s ≤ 4294967296 := by
    have e32 : (4294967296 : Nat) = 2 ^ (32 - s) * 2 ^ s := by rw [← Nat.pow_add, Nat.sub_add_cancel (by omega)]
    rw [e32] at hs ⊢
    have := Nat.lt_of_mul_lt_mul_right hs
    exact Nat.mul_le_mul_right _ this
  have h2 : val bs < (bs[n] + 1) * 4294967296 ^ n := by rw [Nat.add_mul, Nat.one_mul]; omega
  have h3 := Nat.mul_lt_mul_of_pos_right h2 (show 0 < 2 ^ s from Nat.pow_pos (by decide))
  have h4 := Nat.mul_le_mul_right (4294967296 ^ n) h1
  rw [pow_LB_succ]
  have h5 : (bs[n] + 1) * 4294967296 ^ n * 2 ^ s = (bs[n] + 1) * 2 ^ s * 4294967296 ^ n := by rw [Nat.mul_right_comm]
  omega
theorem norm_top {ds : List Nat} {n x s V : Nat} (hx : ∀ x ∈ ds, x < 4294967296) (hn : ds.length = n + 1) (hV : x * 4294967296 ^ n ≤ V) (hs : 2147483648 ≤ x * 2 ^ s) (hd : val ds = V * 2 ^ s) : 2147483648 ≤ ds[n] := by
  obtain ⟨r, e, hr⟩ := val_top hx (show n < ds.length by omega)
  rw [val_take_all (by omega)] at e
  have h1 := Nat.mul_le_mul_right (2 ^ s) hV
  have h2 : x * 4294967296 ^ n * 2 ^ s = x * 2 ^ s * 4294967296 ^ n := by rw [Nat.mul_right_comm]
  have h3 := Nat.mul_le_mul_right (4294967296 ^ n) hs
  have h4 : 2147483648 * 4294967296 ^ n < (ds[n] + 1) * 4294967296 ^ n := by rw [Nat.add_mul, Nat.one_mul]; omega
  have := Nat.lt_of_mul_lt_mul_right h4
  omega
theorem long_start {A s la n D : Nat} {top : Nat} (hA : A < 4294967296 ^ la) (hs : s < 32) (hD : top * 4294967296 ^ n ≤ D) (ht : 2147483648 ≤ top) (hn : n + 1 ≤ la) : A * 2 ^ s < D * 4294967296 ^ (la - (n + 1) + 1) := by
  have h1 : A * 2 ^ s < 4294967296 ^ la * 2 ^ 31 := Nat.mul_lt_mul_of_lt_of_le hA (Nat.pow_le_pow_right (by decide) (by omega)) (Nat.pow_pos (by decide))
  have h2 : 2147483648 * 4294967296 ^ n ≤ D := Nat.le_trans (Nat.mul_le_mul_right _ ht) hD
  have h3 := Nat.mul_le_mul_right (4294967296 ^ (la - (n + 1) + 1)) h2
  rw [Nat.mul_assoc, ← Nat.pow_add] at h3
  have h4 : n + (la - (n + 1) + 1) = la := by omega
  rw [h4] at h3
  have h5 : 4294967296 ^ la * 2 ^ 31 = 2147483648 * 4294967296 ^ la := by rw [Nat.mul_comm]
  omega
theorem long_step {P Q D S S' A q B : Nat} (h : P * B * (Q * D) + S = A) (h2 : S' + P * (q * D) = S) : P * ((q + B * Q) * D) + S' = A := by grind
theorem long_rest {cs ds : List Nat} {i N D q : Nat} (h : val ds + 4294967296 ^ i * (q * D) = val cs) (hN : val cs = val (cs.take i) + 4294967296 ^ i * N) (hl : val (cs.take i) < 4294967296 ^ i) (hq : N < (q + 1) * D) : val ds < D * 4294967296 ^ i := by
  have h1 : 4294967296 ^ i * (N + 1) ≤ 4294967296 ^ i * ((q + 1) * D) := Nat.mul_le_mul_left _ hq
  rw [Nat.mul_add, Nat.mul_one, Nat.add_mul, Nat.one_mul, Nat.mul_add] at h1
  rw [Nat.mul_comm D]
  omega
theorem long_seg {cs : List Nat} {i n : Nat} (hc : ∀ x ∈ cs, x < 4294967296) (h : i + n + 1 ≤ cs.length) (hv : val cs < 4294967296 ^ (i + n + 1)) : val cs = val (cs.take i) + 4294967296 ^ i * seg cs i n := by
  have h1 := val_split h
  have h2 : val (cs.drop (i + n + 1)) = 0 := by
    have h3 := val_take_lt hv
    have h4 := val_take_drop cs (i + n + 1)
    rw [h3, Nat.min_eq_left h] at h4
    have := pow_LB_pos (i + n + 1)
    rcases Nat.eq_zero_or_pos (val (cs.drop (i + n + 1))) with h0 | h0
    · exact h0
    · have := Nat.mul_le_mul_left (4294967296 ^ (i + n + 1)) h0
      omega
  rw [h2, Nat.mul_zero, Nat.add_zero] at h1
  exact h1
theorem long_end {Q D R A a b s : Nat} (h : Q * D + R = A) (hA : A = a * 2 ^ s) (hD : D = b * 2 ^ s) (hR : R < D) : a / b = Q ∧ a % b = R / 2 ^ s := by
  have hp : 0 < 2 ^ s := Nat.pow_pos (by decide)
  have hb : 0 < b := by
    rcases Nat.eq_zero_or_pos b with h0 | h0
    · subst h0; simp at hD; omega
    · exact h0
  have h1 : Q * b * 2 ^ s + R = a * 2 ^ s := by rw [← hA, ← h, hD, Nat.mul_assoc]
  have h2 : Q * b ≤ a := by
    refine Nat.le_of_mul_le_mul_right (c := 2 ^ s) ?_ hp
    omega
  have h3 : R = (a - Q * b) * 2 ^ s := by rw [Nat.sub_mul]; omega
  have h4 : a - Q * b < b := by rw [hD, h3] at hR; exact Nat.lt_of_mul_lt_mul_right hR
  have h5 : a = b * Q + (a - Q * b) := by rw [Nat.mul_comm b]; omega
  constructor
  · rw [h5, Nat.mul_add_div hb, Nat.div_eq_of_lt h4, Nat.add_zero]
  · rw [h3, Nat.mul_div_cancel _ hp]
    conv => lhs; rw [h5]
    rw [Nat.mul_add_mod, Nat.mod_eq_of_lt h4]
/-! ## moving down -/
theorem shr_step {A v s P : Nat} (hs : s < 32) : (A + P * 4294967296 * v) / 2 ^ s = A / 2 ^ s + P * 4294967296 * (v / 2 ^ s) + P * (v % 2 ^ s * 2 ^ (32 - s)) := by
  have hp : 0 < 2 ^ s := Nat.pow_pos (by decide)
  have e : (4294967296 : Nat) = 2 ^ s * 2 ^ (32 - s) := by rw [← Nat.pow_add, Nat.add_sub_cancel' (by omega)]
  have hv := Nat.mod_add_div v (2 ^ s)
  have h1 : A + P * 4294967296 * v = A + 2 ^ s * (P * 4294967296 * (v / 2 ^ s) + P * (v % 2 ^ s * 2 ^ (32 - s))) := by
    conv => lhs; rw [← hv]
    rw [Nat.mul_add, Nat.mul_add]
    congr 1
    rw [Nat.add_comm]
    congr 1
    · rw [Nat.mul_left_comm]
    · conv => lhs; rw [e]
      grind
  rw [h1, Nat.add_mul_div_left _ _ hp, Nat.add_assoc]
theorem shr_word {v s : Nat} (hs : s < 32) (hv : v < 4294967296) : v * 4294967296 / 2 ^ s / 4294967296 = v / 2 ^ s ∧ v * 4294967296 / 2 ^ s % 4294967296 = v % 2 ^ s * 2 ^ (32 - s) := by
  have h := shr_step (A := 0) (v := v) (P := 1) hs
  have hp : 0 < 2 ^ s := Nat.pow_pos (by decide)
  have e : (4294967296 : Nat) = 2 ^ s * 2 ^ (32 - s) := by rw [← Nat.pow_add, Nat.add_sub_cancel' (by omega)]
  have h2 : v % 2 ^ s * 2 ^ (32 - s) < 4294967296 := by
    conv => rhs; rw [e]
    exact Nat.mul_lt_mul_of_pos_right (Nat.mod_lt _ hp) (Nat.pow_pos (by decide))
  simp only [Nat.zero_add, Nat.one_mul, Nat.zero_div] at h
  have h3 : v * 4294967296 / 2 ^ s = 4294967296 * (v / 2 ^ s) + v % 2 ^ s * 2 ^ (32 - s) := by rw [Nat.mul_comm v]; exact h
  rw [h3]
  constructor
  · rw [Nat.mul_add_div (by decide), Nat.div_eq_of_lt h2, Nat.add_zero]
  · rw [Nat.mul_add_mod, Nat.mod_eq_of_lt h2]
theorem or_high {c v s : Nat} (hc : c < 2 ^ (32 - s)) : c ||| v * 2 ^ (32 - s) = c + v * 2 ^ (32 - s) := by rw [Nat.or_comm, or_add hc, Nat.add_comm]
/-- What a turn of the long division needs. -/
theorem long_prep {us ds : List Nat} {i n : Nat} (h2n : 2 ≤ n) (hux : ∀ x ∈ us, x < 4294967296) (hdx : ∀ x ∈ ds, x < 4294967296) (hdl : ds.length = n) (hlen : i + n + 1 ≤ us.length) (htop : 2147483648 ≤ ds[n - 1]) (hv : val us < val ds * 4294967296 ^ (i + 1)) :
    us[i + n] ≤ ds[n - 1] ∧ val us = val (us.take i) + 4294967296 ^ i * seg us i n ∧ 0 < val ds ∧ seg us i n / val ds < 4294967296 ∧
    (∀ x, x < 4294967296 → x * (ds[n - 1] * 4294967296 + ds[n - 2]) ≤ (us[i + n] * 4294967296 + us[i + n - 1]) * 4294967296 + us[i + n - 2] →
      (4294967296 ≤ x + 1 ∨ (us[i + n] * 4294967296 + us[i + n - 1]) * 4294967296 + us[i + n - 2] < (x + 1) * (ds[n - 1] * 4294967296 + ds[n - 2])) → seg us i n / val ds ≤ x ∧ x ≤ seg us i n / val ds + 1) := by
  obtain ⟨k, rfl⟩ : ∃ k, n = k + 2 := ⟨n - 2, by omega⟩
  have hD := val_lt_len hdx hdl
  have hp := pow_LB_pos i
  have hV : val us < 4294967296 ^ (i + (k + 2) + 1) := by
    have h1 : val ds * 4294967296 ^ (i + 1) < 4294967296 ^ (k + 2) * 4294967296 ^ (i + 1) := Nat.mul_lt_mul_of_pos_right hD (pow_LB_pos _)
    rw [← Nat.pow_add] at h1
    have e : k + 2 + (i + 1) = i + (k + 2) + 1 := by omega
    rw [e] at h1; omega
  have hseg := long_seg hux hlen hV
  obtain ⟨D', eD, hD'⟩ := val_top2 hdx (show k + 1 < ds.length by omega)
  rw [val_take_all (by omega)] at eD
  obtain ⟨N', eN, hN'⟩ := val_top3 (xs := us.drop i) (n := k) (fun x hx => hux x (List.mem_of_mem_drop hx)) (by rw [List.length_drop]; omega)
  simp only [List.getElem_drop] at eN
  have eN2 : seg us i (k + 2) = ((us[i + (k + 2)] * 4294967296 + us[i + (k + 2) - 1]) * 4294967296 + us[i + (k + 2) - 2]) * 4294967296 ^ k + N' := eN
  have htop' : 2147483648 ≤ ds[k + 1] := htop
  have hN1 : seg us i (k + 2) < val ds * 4294967296 := by
    have h1 : 4294967296 ^ i * seg us i (k + 2) < 4294967296 ^ i * (val ds * 4294967296) := by
      rw [pow_LB_succ] at hv
      have e : val ds * (4294967296 * 4294967296 ^ i) = 4294967296 ^ i * (val ds * 4294967296) := by grind
      omega
    exact Nat.lt_of_mul_lt_mul_left h1
  have hD0 : 0 < val ds := by
    have := Nat.mul_le_mul_right (4294967296 ^ k) (show 1 ≤ ds[k + 1] * 4294967296 + ds[k] by omega)
    have := pow_LB_pos k
    omega
  have hqB : seg us i (k + 2) / val ds < 4294967296 := by rw [Nat.div_lt_iff_lt_mul hD0, Nat.mul_comm]; exact hN1
  refine ⟨?_, hseg, hD0, hqB, fun x hx hx2 hx3 => ?_⟩
  · show us[i + (k + 2)] ≤ ds[k + 1]
    refine Nat.le_of_not_lt fun hlt => ?_
    have a1 : (ds[k + 1] + 1) * 4294967296 * 4294967296 ≤ (us[i + (k + 2)] * 4294967296 + us[i + (k + 2) - 1]) * 4294967296 + us[i + (k + 2) - 2] := by omega
    have a2 := Nat.mul_le_mul_right (4294967296 ^ k) a1
    have hk := hdx _ (List.getElem_mem (show k < ds.length by omega))
    have a3 : (ds[k + 1] * 4294967296 + ds[k] + 1) * 4294967296 ^ k ≤ (ds[k + 1] + 1) * 4294967296 * 4294967296 ^ k := Nat.mul_le_mul_right _ (by omega)
    rw [Nat.add_mul, Nat.one_mul] at a3
    have a4 : (ds[k + 1] + 1) * 4294967296 * 4294967296 * 4294967296 ^ k = (ds[k + 1] + 1) * 4294967296 * 4294967296 ^ k * 4294967296 := by grind
    have a5 := Nat.mul_le_mul_right 4294967296 (show val ds ≤ (ds[k + 1] + 1) * 4294967296 * 4294967296 ^ k by omega)
    omega
  · exact knuth eN2 hN' eD hD' (show 4294967296 ≤ ds[k + 1] * 4294967296 + ds[k] by omega) (Nat.div_mul_le_self _ _) (by have := Nat.lt_div_mul_add hD0 (a := seg us i (k + 2)); rw [Nat.add_mul, Nat.one_mul]; exact this) hqB hx hx2 hx3
theorem div_of_le {N D x : Nat} (hD : 0 < D) (h1 : N / D ≤ x) (h2 : x * D ≤ N) : x = N / D := by
  have := (Nat.le_div_iff_mul_le hD).2 h2
  omega
theorem div_of_gt {N D x : Nat} (hD : 0 < D) (h1 : x ≤ N / D + 1) (h2 : N < x * D) : x = N / D + 1 := by
  have := (Nat.div_lt_iff_lt_mul hD).2 h2
  omega
theorem hqD_of {N D x : Nat} (h1 : x ≤ N / D + 1) : x * D ≤ N + D := by
  have h2 := Nat.mul_le_mul_right D h1
  rw [Nat.add_mul, Nat.one_mul] at h2
  have := Nat.div_mul_le_self N D
  omega
theorem lt_div_step {N D : Nat} (hD : 0 < D) : N < (N / D + 1) * D := by have := Nat.lt_div_mul_add hD (a := N); rw [Nat.add_mul, Nat.one_mul]; exact this
theorem shr_cell {xs cs : List Nat} {i s : Nat} (hs : s < 32) (hi0 : 0 < i) (hi : i ≤ cs.length) (hx : ∀ x ∈ xs, x < 4294967296) (hix : i ≤ xs.length) (hv : val cs = val (xs.take i) / 2 ^ s) : cs[i - 1] < 2 ^ (32 - s) := by
  have h1 := val_ge_getElem (xs := cs) (j := i - 1) (by omega)
  have h2 := val_take_lt_pow hx hix
  have e : (4294967296 : Nat) = 2 ^ (32 - s) * 2 ^ s := by rw [← Nat.pow_add, Nat.sub_add_cancel (by omega)]
  have hpi : 4294967296 ^ i = 4294967296 ^ (i - 1) * 4294967296 := by rw [← Nat.pow_succ]; congr 1; omega
  have h3 : val (xs.take i) / 2 ^ s < 4294967296 ^ (i - 1) * 2 ^ (32 - s) := by
    rw [Nat.div_lt_iff_lt_mul (Nat.pow_pos (by decide)), Nat.mul_assoc, ← e, ← hpi]; exact h2
  exact Nat.lt_of_mul_lt_mul_left (a := 4294967296 ^ (i - 1)) (by omega)
end Go.Proofs.Ytpnhihljgkohcaa
end
section
namespace Go.Proofs.Ytpnhihljgkohcaa
set_option linter.unusedVariables false
theorem take_trim0 {xs : List Nat} (hv : val (xs.take 0) = val xs) : xs.take 0 = toL (val xs) := by rw [← hv]; simp [val, toL_zero]
theorem take_trim {xs : List Nat} {m : Nat} (hx : ∀ x ∈ xs, x < 4294967296) (h0 : 0 < m) (hm : m ≤ xs.length) (hv : val (xs.take m) = val xs) (hl : xs[m - 1] ≠ 0) : xs.take m = toL (val xs) := by
  have h1 := toL_val (xs.take m) (fun x h => hx x (List.mem_of_mem_take h)) (by
    unfold trimmedB
    rw [List.getLast?_eq_getElem?, List.length_take, Nat.min_eq_left hm, List.getElem?_take, if_pos (by omega), List.getElem?_eq_getElem (by omega)]
    simpa using hl)
  rw [hv] at h1; exact h1.symm
theorem val_snoc (xs : List Nat) (x : Nat) : val (xs ++ [x]) = val xs + 4294967296 ^ xs.length * x := by rw [val_append]; simp [val]
theorem snoc_lt {xs : List Nat} {x : Nat} (h : ∀ x ∈ xs, x < 4294967296) (hx : x < 4294967296) : ∀ y ∈ xs ++ [x], y < 4294967296 := fun y hy => by
  rcases List.mem_append.1 hy with h1 | h1
  · exact h y h1
  · rw [List.mem_singleton.1 h1]; exact hx
theorem getD_lt {xs : List Nat} (h : ∀ x ∈ xs, x < 4294967296) (k : Nat) : xs.getD k 0 < 4294967296 := by
  rcases Nat.lt_or_ge k xs.length with h1 | h1
  · simp only [List.getD_eq_getElem?_getD, List.getElem?_eq_getElem h1, Option.getD_some]; exact h _ (List.getElem_mem h1)
  · simp [h1]
theorem getD_of_lt {xs : List Nat} {k : Nat} (h : k < xs.length) : xs.getD k 0 = xs[k] := by simp [h]
theorem getD_of_ge {xs : List Nat} {k : Nat} (h : xs.length ≤ k) : xs.getD k 0 = 0 := by simp [List.getD_eq_getElem?_getD, List.getElem?_eq_none h]
theorem val_take_eq {xs : List Nat} {k : Nat} (h : val xs < 4294967296 ^ k) : val (xs.take k) = val xs := val_take_lt h
theorem to_step {xs : List Nat} {m : Nat} (h0 : 0 < m) (hm : m ≤ xs.length) : val (xs.drop (m - 1)) = val (xs.drop m) * 4294967296 + xs[m - 1] := by
  rw [val_drop_step (by omega), Nat.sub_add_cancel h0, Nat.mul_comm, Nat.add_comm]
theorem drop_small {xs : List Nat} (hx : ∀ x ∈ xs, x < 4294967296) {m : Nat} (hm : xs.length ≤ m + 1) : val (xs.drop m) < 4294967296 := by
  have h1 := val_lt (xs.drop m) (fun x h => hx x (List.mem_of_mem_drop h))
  have h2 := Nat.pow_le_pow_right (show 0 < 4294967296 by decide) (show (xs.drop m).length ≤ 1 by rw [List.length_drop]; omega)
  omega
theorem val_lt64 {n : Nat} (h : (toL n).length ≤ 2) : n < 18446744073709551616 := by
  have h1 := val_lt (toL n) (toL_lt n)
  rw [val_toL] at h1
  have h2 := Nat.pow_le_pow_right (show 0 < 4294967296 by decide) h
  omega
theorem r1mul_end {Pi Pk S S0 X D a cy : Nat} (hinv : S + Pi * Pk * cy = S0 + Pi * (a * D)) (h0 : S0 = X * D) (hc : cy = 0) : S = (X + Pi * a) * D := by subst hc; grind
/-- Where the row ends nothing is carried any more. -/
theorem r1mul_brk {xs ys : List Nat} {i k S S0 cy : Nat} (hx : ∀ x ∈ xs, x < 4294967296) (hy : ∀ y ∈ ys, y < 4294967296) (hi : i < xs.length) (hk : i + 1 + ys.length ≤ i + k)
    (hinv : S + 4294967296 ^ i * 4294967296 ^ k * cy = S0 + 4294967296 ^ i * (xs[i] * val ys)) (h0 : S0 = val (xs.take i) * val ys) : cy = 0 := by
  have h1 := val_take_lt_pow hx (show i + 1 ≤ xs.length by omega)
  have h2 := val_lt ys hy
  have h3 : S0 + 4294967296 ^ i * (xs[i] * val ys) = val (xs.take (i + 1)) * val ys := by rw [val_take_succ hi, h0]; grind
  have h4 : val (xs.take (i + 1)) * val ys < 4294967296 ^ (i + 1) * 4294967296 ^ ys.length := Nat.mul_lt_mul'' h1 h2
  rw [← Nat.pow_add] at h4
  have h5 := Nat.pow_le_pow_right (show 0 < 4294967296 by decide) hk
  rw [Nat.pow_add 4294967296 i k] at h5
  rcases Nat.eq_zero_or_pos cy with h6 | h6
  · exact h6
  · exfalso
    have := Nat.mul_le_mul_left (4294967296 ^ i * 4294967296 ^ k) h6
    omega
theorem shl1_step {S lo P V t B x hi : Nat} (h : S + P * lo = 2 * V) (hx : x + B * hi = 2 * t + lo) : S + P * x + B * P * hi = 2 * (V + P * t) := by grind
theorem two_val {xs : List Nat} (hx : ∀ x ∈ xs, x < 4294967296) : 2 * val xs < 4294967296 ^ (xs.length + 1) := by
  have := val_lt xs hx
  rw [pow_LB_succ]; omega
theorem carry0 {S lo V P : Nat} (h : S + P * lo = V) (hV : V < P) : lo = 0 := by
  rcases Nat.eq_zero_or_pos lo with h6 | h6
  · exact h6
  · have := Nat.mul_le_mul_left P h6
    omega
/-! ## bit by bit -/
theorem pow32 (j : Nat) : 4294967296 ^ j = 2 ^ (32 * j) := by rw [Nat.pow_mul]
theorem split_bit {xs : List Nat} (hx : ∀ x ∈ xs, x < 4294967296) {j : Nat} (hj : j < xs.length) : val xs / 4294967296 ^ j = xs[j] + 4294967296 * val (xs.drop (j + 1)) := by
  have h1 := val_take_drop xs j
  rw [Nat.min_eq_left (by omega), val_drop_step hj] at h1
  rw [h1, Nat.add_mul_div_left _ _ (pow_LB_pos j), Nat.div_eq_of_lt (val_take_lt_pow hx (by omega)), Nat.zero_add]
theorem bit_val {xs : List Nat} (hx : ∀ x ∈ xs, x < 4294967296) {i : Nat} (hj : i / 32 < xs.length) : xs[i / 32] / 2 ^ (i % 32) % 2 = val xs / 2 ^ i % 2 := by
  have h1 := split_bit hx hj
  have e : 2 ^ i = 4294967296 ^ (i / 32) * 2 ^ (i % 32) := by rw [pow32, ← Nat.pow_add]; congr 1; omega
  have hp : 0 < 2 ^ (i % 32) := Nat.pow_pos (by decide)
  have e2 : (4294967296 : Nat) = 2 ^ (i % 32) * (2 * 2 ^ (31 - i % 32)) := by
    rw [← Nat.mul_assoc, ← Nat.pow_succ, ← Nat.pow_add]
    have : (i % 32).succ + (31 - i % 32) = 32 := by omega
    rw [this]
  rw [e, ← Nat.div_div_eq_div_mul, h1]
  have e3 : 4294967296 * val (xs.drop (i / 32 + 1)) = 2 ^ (i % 32) * (2 * (2 ^ (31 - i % 32) * val (xs.drop (i / 32 + 1)))) := by
    conv => lhs; rw [e2]
    grind
  rw [e3, Nat.add_mul_div_left _ _ hp, Nat.add_mul_mod_self_left]
theorem half_step (A i : Nat) : A / 2 ^ i = 2 * (A / 2 ^ (i + 1)) + A / 2 ^ i % 2 := by
  have h : A / 2 ^ (i + 1) = A / 2 ^ i / 2 := by rw [Nat.pow_succ, Nat.div_div_eq_div_mul]
  rw [h]; omega
/-- A step of the division bit by bit: the remainder, doubled, with the next bit. -/
theorem bit_ge {A b i : Nat} (hb : 0 < b) (h : b ≤ 2 * (A / 2 ^ (i + 1) % b) + A / 2 ^ i % 2) : A / 2 ^ i % b = 2 * (A / 2 ^ (i + 1) % b) + A / 2 ^ i % 2 - b ∧ A / 2 ^ i / b = 2 * (A / 2 ^ (i + 1) / b) + 1 := by
  have h1 := half_step A i
  have h2 := Nat.div_add_mod (A / 2 ^ (i + 1)) b
  have h3 := Nat.mod_lt (A / 2 ^ (i + 1)) hb
  have h4 : A / 2 ^ i % 2 < 2 := Nat.mod_lt _ (by decide)
  generalize A / 2 ^ i % 2 = t at *
  generalize A / 2 ^ (i + 1) = Am at *
  generalize Am % b = r at *
  generalize Am / b = q at *
  have h5 : A / 2 ^ i = b * (2 * q + 1) + (2 * r + t - b) := by
    have e : b * (2 * q + 1) = 2 * (b * q) + b := by grind
    rw [h1, ← h2, e]; omega
  rw [h5, Nat.mul_add_mod, Nat.mul_add_div hb, Nat.mod_eq_of_lt (by omega), Nat.div_eq_of_lt (by omega)]
  exact ⟨rfl, rfl⟩
theorem bit_lt {A b i : Nat} (hb : 0 < b) (h : 2 * (A / 2 ^ (i + 1) % b) + A / 2 ^ i % 2 < b) : A / 2 ^ i % b = 2 * (A / 2 ^ (i + 1) % b) + A / 2 ^ i % 2 ∧ A / 2 ^ i / b = 2 * (A / 2 ^ (i + 1) / b) := by
  have h1 := half_step A i
  have h2 := Nat.div_add_mod (A / 2 ^ (i + 1)) b
  generalize A / 2 ^ i % 2 = t at *
  generalize A / 2 ^ (i + 1) = Am at *
  generalize Am % b = r at *
  generalize Am / b = q at *
  have h5 : A / 2 ^ i = b * (2 * q) + (2 * r + t) := by
    have e : b * (2 * q) = 2 * (b * q) := by grind
    rw [h1, ← h2, e]; omega
  rw [h5, Nat.mul_add_mod, Nat.mul_add_div hb, Nat.mod_eq_of_lt h, Nat.div_eq_of_lt h]
  exact ⟨rfl, rfl⟩
/-- The limb in which a bit is set: the bit was not set. -/
theorem bit_or {qs : List Nat} {i Q : Nat} (hx : ∀ x ∈ qs, x < 4294967296) (hj : i / 32 < qs.length) (hv : val qs = Q * 2 ^ (i + 1)) : qs[i / 32] ||| 2 ^ (i % 32) = qs[i / 32] + 2 ^ (i % 32) ∧ qs[i / 32] + 2 ^ (i % 32) < 4294967296 := by
  have h1 := split_bit hx hj
  have e : 2 ^ (i + 1) = 2 ^ (i % 32 + 1) * 4294967296 ^ (i / 32) := by rw [pow32, ← Nat.pow_add]; congr 1; omega
  rw [hv, e, ← Nat.mul_assoc, Nat.mul_div_cancel _ (pow_LB_pos _)] at h1
  have e2 : (4294967296 : Nat) = 2 ^ (31 - i % 32) * 2 ^ (i % 32 + 1) := by
    rw [← Nat.pow_add]
    have : 31 - i % 32 + (i % 32 + 1) = 32 := by omega
    rw [this]
  have hm : qs[i / 32] % 2 ^ (i % 32 + 1) = 0 := by
    have h2 : (qs[i / 32] + 4294967296 * val (qs.drop (i / 32 + 1))) % 2 ^ (i % 32 + 1) = 0 := by rw [← h1, Nat.mul_mod_left]
    have e3 : 4294967296 * val (qs.drop (i / 32 + 1)) = 2 ^ (i % 32 + 1) * (2 ^ (31 - i % 32) * val (qs.drop (i / 32 + 1))) := by
      conv => lhs; rw [e2]
      grind
    rw [e3, Nat.add_mul_mod_self_left] at h2
    exact h2
  have hd := Nat.div_add_mod qs[i / 32] (2 ^ (i % 32 + 1))
  rw [hm, Nat.add_zero, Nat.mul_comm] at hd
  have hlt : 2 ^ (i % 32) < 2 ^ (i % 32 + 1) := Nat.pow_lt_pow_right (by decide) (by omega)
  have h3 := or_add (a := qs[i / 32] / 2 ^ (i % 32 + 1)) hlt
  rw [hd] at h3
  refine ⟨h3, ?_⟩
  have hq := hx _ (List.getElem_mem hj)
  rw [← h3]
  exact Nat.or_lt_two_pow (n := 32) hq (by exact Nat.pow_lt_pow_right (by decide) (by omega))
theorem bit_set {qs : List Nat} {i Q : Nat} (hj : i / 32 < qs.length) (hv : val qs = Q * 2 ^ (i + 1)) : val (qs.set (i / 32) (qs[i / 32] + 2 ^ (i % 32))) = (2 * Q + 1) * 2 ^ i := by
  have h1 := val_set hj (qs[i / 32] + 2 ^ (i % 32))
  have e : 2 ^ i = 4294967296 ^ (i / 32) * 2 ^ (i % 32) := by rw [pow32, ← Nat.pow_add]; congr 1; omega
  rw [Nat.mul_add, ← e] at h1
  rw [hv, Nat.pow_succ] at h1
  have : (2 * Q + 1) * 2 ^ i = Q * (2 ^ i * 2) + 2 ^ i := by grind
  omega
end Go.Proofs.Ytpnhihljgkohcaa
end
