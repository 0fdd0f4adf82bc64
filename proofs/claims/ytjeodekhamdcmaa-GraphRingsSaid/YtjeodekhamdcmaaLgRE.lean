/- Walks: what the functions compute. -/
import Derived.Test.YtjeodekhamdcmaaLgR
import Derived.Test.YtjeodekhamdcmaaOpn
namespace Go.Proofs.Ytjeodekhamdcmaa
open Go.RowKit
set_option linter.unusedVariables false
set_option linter.unusedSimpArgs false
set_option maxRecDepth 10000
open Go.ChangeShapes Go.WideShapes Go.ChangeAt Go.RowKit Go.Joins
open Go.ChangeMaps (open_string shut_string)
theorem graphRings_walks : Walks Try.prog Try.f3 3 := by
  intro H enc W base args ds p hval hA hsz
  have hA' : DataW.TrodAll enc Try.prog W 0 (fun _ => true) true [3] args.toList ds p := hA
  obtain ⟨v0, vs0, d0, ds0, p0, q0, hargs, rfl, rfl, h0, r0⟩ := trodAll_cons hA'
  obtain ⟨rfl, rfl, rfl⟩ := trodAll_nil r0
  obtain rfl : args = #[v0] := by cases args; simp_all
  have hw0 : ∀ m ∈ d0.weights Try.prog 3, m ≤ reachBytes := fun m hm => by
    have h9 := List.all_eq_true.1 hsz _ (DataW.weights_mem_each (ts := [3]) (j := 0) rfl rfl m hm)
    simpa using h9
  obtain ⟨z0, rfl, _, _, wf_z0⟩ := open_int Try.underlying3 (hval 0 3 v0 rfl rfl) h0
  exact c_GraphRings
set_option maxRecDepth 100000 in
theorem graphRings_lifted (os : Os) (started : os.Started) (H : Type) (enc : TypeId × Value → H) :
    ReturnsInHanded {} Try.checked os 3 .any (Rows.graphRingsSpec.pre6 enc Try.prog Try.f3 Rows.graphRingsRow.domain false) (Rows.graphRingsSpec.post enc Try.prog Try.f3 false true false false) := by
  refine returnsInHanded_of_change_sized (C := Try.checked) own_ started (by kernel_rfl) Try.func3
    (ChangeSpec.witness6 (enc := enc) (C := Try.checked) false ⟨#[], #[.int .i64 0], []⟩ 8 (by kernel_rfl) (by kernel_rfl) (by kernel_rfl) (by kernel_rfl)) ?_
  intro W base args ds gs before hval hW _ hsz _
  refine law_contract (bt := 4) rfl (fun H ds hl => ?_) laidOut_ (by decide +kernel) rfl rfl (by kernel_rfl) graphRings_walks W base args ds gs before hval hW hsz
  match ds, hl with
  | [d0], _ => exact ⟨rfl, rfl, rfl⟩
theorem graphRings_proved : Rows.GraphRingsSaid :=
  OpenClaim.holds_of_wide 3 Try.f3 rfl rfl rfl rfl rfl rfl rfl ⟨rfl, rfl, rfl, rfl, rfl⟩ rfl rfl rfl rfl rfl (by kernel_rfl) Try.func3 (by kernel_rfl)
    (of_decide_eq_true (by kernel_rfl)) (by unfold Func.isWrapper; first | (rw [if_pos (by decide +kernel)]; kernel_rfl) | (rw [if_neg (by decide +kernel)]; exact ⟨rfl, rfl⟩))
    (fun os started H enc _ => graphRings_lifted os started H enc)
end Go.Proofs.Ytjeodekhamdcmaa
