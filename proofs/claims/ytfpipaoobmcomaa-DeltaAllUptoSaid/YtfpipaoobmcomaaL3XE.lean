/- Walks: what the functions compute. -/
import Derived.Test.YtfpipaoobmcomaaL3X
import Derived.Test.YtfpipaoobmcomaaOpn
namespace Go.Proofs.Ytfpipaoobmcomaa
open Go.RowKit
set_option linter.unusedVariables false
set_option linter.unusedSimpArgs false
set_option maxRecDepth 10000
open Go.ChangeShapes Go.WideShapes Go.ChangeAt Go.RowKit Go.Joins
open Go.ChangeMaps (open_string shut_string)
theorem deltaAll_walks : WalksU Try.prog Try.f5 5 := by
  intro H enc W base args ds p hval hA hk
  have hA' : DataW.TrodAll enc Try.prog W 0 (fun _ => true) true [3, 24] args.toList ds p := hA
  obtain ⟨v0, vs0, d0, ds0, p0, q0, hargs, rfl, rfl, h0, r0⟩ := trodAll_cons hA'
  obtain ⟨v1, vs1, d1, ds1, p1, q1, rfl, rfl, rfl, h1, r1⟩ := trodAll_cons r0
  obtain ⟨rfl, rfl, rfl⟩ := trodAll_nil r1
  obtain rfl : args = #[v0, v1] := by cases args; simp_all
  have hbk := small_all hk
  simp only [Rows.uptoBulkAll] at hbk
  obtain ⟨z0, rfl, _, _, wf_z0⟩ := open_int Try.underlying3 (hval 0 3 v0 rfl rfl) h0
  obtain ⟨zs, hO, szs⟩ := op_Is (hval 1 24 v1 rfl rfl) h1
  exact c_DeltaAll hO
set_option maxRecDepth 100000 in
theorem deltaAll_lifted (os : Os) (started : os.Started) (H : Type) (enc : TypeId × Value → H) (F : Stop.Interp) :
    ReturnsInHanded {} Try.checked os 5 .any ((Rows.OpenSpec.upto Rows.deltaAllSpec).pre6 enc Try.prog Try.f5 Rows.deltaAllUptoRow.domain false) (((Rows.OpenSpec.upto Rows.deltaAllSpec).at F).post enc Try.prog Try.f5 false true false false) := by
  refine returnsInHanded_of_cond (C := Try.checked) (s := Rows.OpenSpec.upto Rows.deltaAllSpec) (k := Rows.uptoSmall) rfl own_ started (by kernel_rfl) Try.func5
    (OpenSpec.witness (enc := enc) (C := Try.checked) (s := Rows.OpenSpec.upto Rows.deltaAllSpec) (k := Rows.uptoSmall) rfl false ⟨#[], #[.int .i64 0, .slice none 0 0], []⟩ 8 (by kernel_rfl) (by kernel_rfl) (by kernel_rfl)
      (x := ([.lit (.int .i64 0), .nil], [], [])) (by kernel_rfl) rfl (by kernel_rfl)) ?_
  intro W base args ds gs before hval hW _ hk _
  refine law_contractU (bt := 4) (s := Rows.deltaAllSpec) rfl (fun H ds hl => ?_) laidOut_ (by decide +kernel) rfl rfl (by kernel_rfl) deltaAll_walks W base args ds gs before hval hW hk
  match ds, hl with
  | [d0, d1], _ => exact ⟨rfl, rfl, rfl⟩
theorem deltaAll_proved : Rows.DeltaAllUptoSaid :=
  OpenClaim.holds_of_cond 5 Try.f5 rfl rfl rfl rfl rfl rfl rfl ⟨rfl, rfl, rfl, rfl, rfl⟩ rfl rfl rfl rfl rfl (by kernel_rfl) Try.func5 (by kernel_rfl)
    (of_decide_eq_true (by kernel_rfl)) (by unfold Func.isWrapper; first | (rw [if_pos (by decide +kernel)]; kernel_rfl) | (rw [if_neg (by decide +kernel)]; exact ⟨rfl, rfl⟩))
    (fun os started H enc _ F => deltaAll_lifted os started H enc F)
end Go.Proofs.Ytfpipaoobmcomaa
