/- Walks: what the functions compute. -/
import Derived.Test.YtjeodekhamdcmaaLawWi
import Derived.Test.YtjeodekhamdcmaaOpen
namespace Go.Proofs.Ytjeodekhamdcmaa
open Go.RowKit
set_option linter.unusedVariables false
set_option linter.unusedSimpArgs false
set_option maxRecDepth 10000
open Go.ChangeShapes Go.WideShapes Go.ChangeAt Go.RowKit Go.Joins
open Go.ChangeMaps (open_string shut_string)
theorem ratWider_walks : Walks Try.prog Try.f14 14 := by
  intro H enc W base args ds p hval hA hsz
  have hA' : DataW.TrodAll enc Try.prog W 0 (fun _ => true) true [27, 51] args.toList ds p := hA
  obtain ⟨v0, vs0, d0, ds0, p0, q0, hargs, rfl, rfl, h0, r0⟩ := trodAll_cons hA'
  obtain ⟨v1, vs1, d1, ds1, p1, q1, rfl, rfl, rfl, h1, r1⟩ := trodAll_cons r0
  obtain ⟨rfl, rfl, rfl⟩ := trodAll_nil r1
  obtain rfl : args = #[v0, v1] := by cases args; simp_all
  have hw0 : ∀ m ∈ d0.weights Try.prog 27, m ≤ reachBytes := fun m hm => by
    have h9 := List.all_eq_true.1 hsz _ (DataW.weights_mem_each (ts := [27, 51]) (j := 0) rfl rfl m hm)
    simpa using h9
  have hw1 : ∀ m ∈ d1.weights Try.prog 51, m ≤ reachBytes := fun m hm => by
    have h9 := List.all_eq_true.1 hsz _ (DataW.weights_mem_each (ts := [27, 51]) (j := 1) rfl rfl m hm)
    simpa using h9
  obtain ⟨sa, an, ad, xa, ya, rfl, ha, ka, la, ma⟩ := open_Rat (hval 0 27 v0 rfl rfl) h0 hw0
  obtain ⟨n1, rfl, _, _, wf1⟩ := open_int Try.underlying51 (hval 1 51 v1 rfl rfl) h1
  obtain ⟨hn1, hn2⟩ := wf_u32 wf1
  obtain ⟨k, rfl⟩ := Int.eq_ofNat_of_zero_le hn1
  exact c_RatWider rfl ha ka bd0 la ma (by omega)
set_option maxRecDepth 100000 in
theorem ratWider_lifted (os : Os) (started : os.Started) (H : Type) (enc : TypeId × Value → H) :
    ReturnsInHanded {} Try.checked os 14 .any (Rows.ratWiderSpec.pre6 enc Try.prog Try.f14 Rows.ratWiderRow.domain false) (Rows.ratWiderSpec.post enc Try.prog Try.f14 false true false false) := by
  refine returnsInHanded_of_change_sized (C := Try.checked) own_ started (by kernel_rfl) Try.func14
    (ChangeSpec.witness6 (enc := enc) (C := Try.checked) false ⟨#[], #[.agg #[.bool false, .slice none 0 0, .slice none 0 0], .int .u32 0], []⟩ 8 (by kernel_rfl) (by kernel_rfl) (by kernel_rfl) (by kernel_rfl)) ?_
  intro W base args ds gs before hval hW _ hsz _
  refine law_contract (bt := 4) rfl (fun H ds hl => ?_) laidOut_ (by decide +kernel) rfl rfl (by kernel_rfl) ratWider_walks W base args ds gs before hval hW hsz
  match ds, hl with
  | [d0, d1], _ => exact ⟨rfl, rfl, rfl⟩
theorem ratWider_proved : Rows.RatWiderSaid :=
  OpenClaim.holds_of_wide 14 Try.f14 rfl rfl rfl rfl rfl rfl rfl ⟨rfl, rfl, rfl, rfl, rfl⟩ rfl rfl rfl rfl rfl (by kernel_rfl) Try.func14 (by kernel_rfl)
    (of_decide_eq_true (by kernel_rfl)) (by unfold Func.isWrapper; first | (rw [if_pos (by decide +kernel)]; kernel_rfl) | (rw [if_neg (by decide +kernel)]; exact ⟨rfl, rfl⟩))
    (fun os started H enc _ => ratWider_lifted os started H enc)
end Go.Proofs.Ytjeodekhamdcmaa
