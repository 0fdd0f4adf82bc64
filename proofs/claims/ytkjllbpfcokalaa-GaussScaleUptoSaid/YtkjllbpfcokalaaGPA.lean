/- Walks: what the functions compute. -/
import Derived.Test.YtkjllbpfcokalaaGP
import Derived.Test.YtkjllbpfcokalaaG10C
namespace Go.Proofs.Ytkjllbpfcokalaa
open Go.RowKit
set_option linter.unusedVariables false
set_option linter.unusedSimpArgs false
set_option maxRecDepth 10000

section
variable {n t t' : Nat} {z0 v : Int} {L M : List Vec} {rs rs' : List (Ts × Rat)} {ds ds' : List (List Rat)} {ok ok' : Bool}
theorem A_ok (h : AInv n t L ds ok) : ok = true ↔ ∀ k, Sp L (kv n k) → k = 0 := by
  obtain ⟨R, h1, _⟩ := h.rank; exact h1.ok_iff
theorem A_fix (h : AInv (heldG z0) t L ds ok) (k : Rat) : fixDD z0 v ds ok = some k ↔ ok = true ∧ 0 ≤ v ∧ v < (heldG z0 : Int) ∧ Sp L (fun i => ev1 v.toNat i + -1 * kv (heldG z0) k i) := by
  cases ok with
  | false => unfold fixDD; simp
  | true =>
    unfold fixDD
    by_cases hv : 0 ≤ v ∧ v < (heldG z0 : Int)
    · rw [if_pos ⟨rfl, hv⟩, h.fix (v := v.toNat) (by omega) k]
      exact ⟨fun h2 => ⟨rfl, hv.1, hv.2, h2⟩, fun h2 => h2.2.2.2⟩
    · rw [if_neg (fun h2 => hv h2.2)]
      exact ⟨fun h2 => (by cases h2), fun h2 => absurd ⟨h2.2.1, h2.2.2.1⟩ hv⟩
theorem A_imp {c : CR} (h : AInv (heldG z0) t L ds ok) : impD z0 ds ok c = true ↔ ok = false ∨ (isC c (heldG z0 : Int) = true ∧ Sp L (cv (heldG z0) (conT c).1 (conT c).2)) := by
  cases ok with
  | false => unfold impD; simp
  | true =>
    unfold impD
    by_cases hc : isC c (heldG z0 : Int) = true
    · obtain ⟨_, _, h4, h5⟩ := isC_spec hc
      have h6 := h.imp (rowD_length (heldG z0) (conT c))
      rw [rowD_dv h5] at h6
      rw [← h6, hc]
      simp
    · rw [Bool.not_eq_true] at hc; rw [hc]; simp
theorem PA_ok (h : PInv n t L rs ok) (h' : AInv n t' M ds ok') (e : Eqv L M) : ok = ok' := by
  rw [Bool.eq_iff_iff, P_ok h, A_ok h']
  exact ⟨fun k x hx => k x ((e.sp _).2 hx), fun k x hx => k x ((e.sp _).1 hx)⟩
theorem PA_rank (h : PInv n t L rs ok) (h' : AInv n t' M ds ok') (e : Eqv L M) : rs.length = ds.length := by
  obtain ⟨R, h1, h2⟩ := h.rank
  obtain ⟨R', h3, h4⟩ := h'.rank
  rw [h2, h4]; exact h1.rank_eq h3 e.1 e.2
theorem PA_fix (h : PInv (heldG z0) t L rs ok) (h' : AInv (heldG z0) t' M ds ok') (e : Eqv L M) : fixT z0 v rs ok = fixDD z0 v ds ok' := opt_ext fun k => by
  rw [P_fix h, A_fix h', PA_ok h h' e, e.sp]
theorem PA_imp {c : CR} (h : PInv (heldG z0) t L rs ok) (h' : AInv (heldG z0) t' M ds ok') (e : Eqv L M) : impT z0 rs ok c = impD z0 ds ok' c := by
  rw [Bool.eq_iff_iff, P_imp h, A_imp h', PA_ok h h' e, e.sp]
end

end Go.Proofs.Ytkjllbpfcokalaa
