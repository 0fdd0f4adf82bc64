/- Walks: what the functions compute. -/
import Derived.Test.YtkjllbpfcokalaaGaC
import Derived.Test.YtkjllbpfcokalaaSzA
namespace Go.Proofs.Ytkjllbpfcokalaa
open Go.RowKit
set_option linter.unusedVariables false
set_option linter.unusedSimpArgs false
set_option maxRecDepth 10000

theorem opt_ext {α : Type} {a b : Option α} (h : ∀ k, a = some k ↔ b = some k) : a = b := by
  cases a with
  | none => cases b with
    | none => rfl
    | some y => exact absurd ((h y).2 rfl) (by simp)
  | some x => exact ((h x).1 rfl).symm
section
variable {n t t' : Nat} {z0 v : Int} {L M : List Vec} {rs rs' : List (Ts × Rat)} {ok ok' : Bool}
/-- Of two rows of sums: each one is in the other's span. -/
def Eqv (L M : List Vec) : Prop := (∀ v ∈ L, Sp M v) ∧ (∀ v ∈ M, Sp L v)
theorem Eqv.refl (L : List Vec) : Eqv L L := ⟨fun _ h => .mem h, fun _ h => .mem h⟩
theorem Eqv.sp {L M : List Vec} (h : Eqv L M) (u : Vec) : Sp L u ↔ Sp M u := ⟨fun k => k.trans h.1, fun k => k.trans h.2⟩
theorem PInv.solved (h : PInv n t L rs ok) : ∃ R, Solved n L R ok ∧ rs.length = R.length := h.rank
theorem P_ok (h : PInv n t L rs ok) : ok = true ↔ ∀ k, Sp L (kv n k) → k = 0 := by
  obtain ⟨R, h1, _⟩ := h.rank; exact h1.ok_iff
theorem P_fix (h : PInv (heldG z0) t L rs ok) (k : Rat) : fixT z0 v rs ok = some k ↔ ok = true ∧ 0 ≤ v ∧ v < (heldG z0 : Int) ∧ Sp L (fun i => ev1 v.toNat i + -1 * kv (heldG z0) k i) := by
  cases ok with
  | false => unfold fixT; simp
  | true =>
    by_cases hv : 0 ≤ v ∧ v < (heldG z0 : Int)
    · have h1 := h.fix (v := v.toNat) (by omega) k
      rw [← h1]
      unfold fixT
      constructor
      · intro h2
        split at h2
        · rename_i h3
          injection h2 with h2
          exact ⟨rfl, hv.1, hv.2, List.eq_nil_of_length_eq_zero h3.2.2.2, h2⟩
        · cases h2
      · rintro ⟨_, _, _, h2, h3⟩
        rw [if_pos ⟨rfl, hv.1, hv.2, by rw [h2]; rfl⟩, h3]
    · constructor
      · intro h2
        unfold fixT at h2
        split at h2
        · rename_i h3; exact absurd ⟨h3.2.1, h3.2.2.1⟩ hv
        · cases h2
      · rintro ⟨_, h2, h3, _⟩; exact absurd ⟨h2, h3⟩ hv
theorem P_imp {c : CR} (h : PInv (heldG z0) t L rs ok) : impT z0 rs ok c = true ↔ ok = false ∨ (isC c (heldG z0 : Int) = true ∧ Sp L (cv (heldG z0) (conT c).1 (conT c).2)) := by
  cases ok with
  | false => unfold impT; simp
  | true =>
    unfold impT
    by_cases hc : isC c (heldG z0 : Int) = true
    · obtain ⟨_, _, h4, h5⟩ := isC_spec hc
      rw [← h.imp h4 h5, hc]
      simp [List.length_eq_zero_iff]
    · rw [Bool.not_eq_true] at hc; rw [hc]; simp
theorem PP_ok (h : PInv n t L rs ok) (h' : PInv n t' M rs' ok') (e : Eqv L M) : ok = ok' := by
  rw [Bool.eq_iff_iff, P_ok h, P_ok h']
  exact ⟨fun k x hx => k x ((e.sp _).2 hx), fun k x hx => k x ((e.sp _).1 hx)⟩
theorem PP_rank (h : PInv n t L rs ok) (h' : PInv n t' M rs' ok') (e : Eqv L M) : rs.length = rs'.length := by
  obtain ⟨R, h1, h2⟩ := h.rank
  obtain ⟨R', h3, h4⟩ := h'.rank
  rw [h2, h4]; exact h1.rank_eq h3 e.1 e.2
theorem PP_fix (h : PInv (heldG z0) t L rs ok) (h' : PInv (heldG z0) t' M rs' ok') (e : Eqv L M) : fixT z0 v rs ok = fixT z0 v rs' ok' := opt_ext fun k => by
  rw [P_fix h, P_fix h', PP_ok h h' e, e.sp]
end
/-- Sizes of a sum that is checked. -/
theorem fit_is {q : QR} {L : Nat} (h : q.is = true) (hs : SmQ L q) : Fit q.val L := by
  have e := QR.is_nf h
  have h1 : q.n = toL q.val.num.natAbs := congrArg QR.n e
  have h2 : q.d = toL q.val.den := congrArg QR.d e
  exact ⟨h1 ▸ hs.1, h2 ▸ hs.2⟩
theorem OvC.mono {n t t' : Nat} {c : Ts × Rat} (h : OvC n t c) (ht : t ≤ t') : OvC n t' c := by
  obtain ⟨d, h1, h2, h3⟩ := h
  exact ⟨d, h1, Nat.lt_of_lt_of_le h2 (Nat.pow_le_pow_right (by decide) ht), h3.mono ht⟩
theorem ovT_of {n L N : Nat} {c : Ts × Rat} (h : ∀ x ∈ c.1, Fit x.2 L) (hk : Fit c.2 L) (hN : c.1.length ≤ N) : OvC n (L * (N + 1) + 1) c := by
  have h1 : OvC n (L * (c.1.length + 1) + 1) c := cv_ov h hk
  exact h1.mono (Nat.succ_le_succ (Nat.mul_le_mul_left _ (by omega)))
theorem ovC_of {n L N : Nat} {c : CR} (hs : SmC L c) (hN : c.ts.length ≤ N) (hc : isC c (n : Int) = true) : OvC n (L * (N + 1) + 1) (conT c) := by
  obtain ⟨h1, h2, _, _⟩ := isC_spec hc
  refine ovT_of (fun x hx => ?_) (fit_is h1 hs.2.1) (by simpa [conT] using hN)
  obtain ⟨t, ht, rfl⟩ := List.mem_map.1 hx
  exact fit_is (h2 t ht).2 (hs.2.2 t ht)
theorem bnd_le {t n k : Nat} (h : n ≤ k) : bnd t n ≤ bnd t k := bnd_mono h
theorem heldG_12 {z0 : Int} {m : Nat} (h : z0 ≤ (m : Int)) : heldG z0 ≤ m := by unfold heldG; omega
theorem heldG_eq {n : Nat} (h : n ≤ 64) : heldG (n : Int) = n := by unfold heldG; omega
theorem oks12 {z0 : Int} {cs : List CR} (hs : ∀ c ∈ cs, SmC 150 c) (hz : z0 ≤ 12) : OkS z0 22651 cs := by
  refine ⟨fun c hc => (hs c hc).mono (by decide), fun c hc h => OvC.mono (ovC_of (hs c hc) (hs c hc).1 h) (by omega), ?_, by decide⟩
  have h1 := bnd_12 (t := 22651) (heldG_12 (m := 12) hz)
  omega
theorem sm150 {cs : List CR} (h : ¬ 150 < szCs cs) : ∀ c ∈ cs, SmC 150 c := fun c hc => sm_of_all (L := 150) (by omega) c hc
theorem sm150c {c : CR} (h : ¬ 150 < szCs [c]) : SmC 150 c := sm150 h c (by simp)
def szQs (qs : List QR) : Nat := (qs.map fun q => szQ q + 1).sum
theorem szQs_len (qs : List QR) : qs.length ≤ szQs qs := by
  unfold szQs
  induction qs with
  | nil => simp
  | cons t r ih => simp only [List.map_cons, List.sum_cons, List.length_cons]; omega
theorem all_take {α : Type} {P : α → Prop} {l : List α} {i : Nat} {z : α} (hz : l[i]? = some z) (h : ∀ s ∈ l.take i, P s) (h2 : P z) : ∀ s ∈ l.take (i + 1), P s := take_all hz h h2

end Go.Proofs.Ytkjllbpfcokalaa
