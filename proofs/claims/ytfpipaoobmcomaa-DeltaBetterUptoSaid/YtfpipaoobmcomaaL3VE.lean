/- Walks: what the functions compute. -/
import Derived.Test.YtfpipaoobmcomaaL3V
import Derived.Test.YtfpipaoobmcomaaOpn
namespace Go.Proofs.Ytfpipaoobmcomaa
open Go.RowKit
set_option linter.unusedVariables false
set_option linter.unusedSimpArgs false
set_option maxRecDepth 10000
open Go.ChangeShapes Go.WideShapes Go.ChangeAt Go.RowKit Go.Joins
open Go.ChangeMaps (open_string shut_string)
theorem deltaBetter_walks : WalksU Try.prog Try.f4 4 := by
  intro H enc W base args ds p hval hA hk
  have hA' : DataW.TrodAll enc Try.prog W 0 (fun _ => true) true [22, 24, 3] args.toList ds p := hA
  obtain ⟨v0, vs0, d0, ds0, p0, q0, hargs, rfl, rfl, h0, r0⟩ := trodAll_cons hA'
  obtain ⟨v1, vs1, d1, ds1, p1, q1, rfl, rfl, rfl, h1, r1⟩ := trodAll_cons r0
  obtain ⟨v2, vs2, d2, ds2, p2, q2, rfl, rfl, rfl, h2, r2⟩ := trodAll_cons r1
  obtain ⟨rfl, rfl, rfl⟩ := trodAll_nil r2
  obtain rfl : args = #[v0, v1, v2] := by cases args; simp_all
  have hbk := small_all hk
  simp only [Rows.uptoBulkAll] at hbk
  obtain ⟨cs, hL, hs⟩ := op_Cs (hval 0 22 v0 rfl rfl) h0
  obtain ⟨os, hO, sos⟩ := op_Is (hval 1 24 v1 rfl rfl) h1
  obtain ⟨z0, rfl, _, _, wf_z0⟩ := open_int Try.underlying3 (hval 2 3 v2 rfl rfl) h2
  exact c_DeltaBetter hL hO (by omega)
set_option maxRecDepth 100000 in
theorem deltaBetter_lifted (os : Os) (started : os.Started) (H : Type) (enc : TypeId × Value → H) (F : Stop.Interp) :
    ReturnsInHanded {} Try.checked os 4 .any ((Rows.OpenSpec.upto Rows.deltaBetterSpec).pre6 enc Try.prog Try.f4 Rows.deltaBetterUptoRow.domain false) (((Rows.OpenSpec.upto Rows.deltaBetterSpec).at F).post enc Try.prog Try.f4 false true false false) := by
  refine returnsInHanded_of_cond (C := Try.checked) (s := Rows.OpenSpec.upto Rows.deltaBetterSpec) (k := Rows.uptoSmall) rfl own_ started (by kernel_rfl) Try.func4
    (OpenSpec.witness (enc := enc) (C := Try.checked) (s := Rows.OpenSpec.upto Rows.deltaBetterSpec) (k := Rows.uptoSmall) rfl false ⟨#[], #[.slice none 0 0, .slice none 0 0, .int .i64 0], []⟩ 8 (by kernel_rfl) (by kernel_rfl) (by kernel_rfl)
      (x := ([.nil, .nil, .lit (.int .i64 0)], [], [])) (by kernel_rfl) rfl (by kernel_rfl)) ?_
  intro W base args ds gs before hval hW _ hk _
  refine law_contractU (bt := 4) (s := Rows.deltaBetterSpec) rfl (fun H ds hl => ?_) laidOut_ (by decide +kernel) rfl rfl (by kernel_rfl) deltaBetter_walks W base args ds gs before hval hW hk
  match ds, hl with
  | [d0, d1, d2], _ => exact ⟨rfl, rfl, rfl⟩
theorem deltaBetter_proved : Rows.DeltaBetterUptoSaid :=
  OpenClaim.holds_of_cond 4 Try.f4 rfl rfl rfl rfl rfl rfl rfl ⟨rfl, rfl, rfl, rfl, rfl⟩ rfl rfl rfl rfl rfl (by kernel_rfl) Try.func4 (by kernel_rfl)
    (of_decide_eq_true (by kernel_rfl)) (by unfold Func.isWrapper; first | (rw [if_pos (by decide +kernel)]; kernel_rfl) | (rw [if_neg (by decide +kernel)]; exact ⟨rfl, rfl⟩))
    (fun os started H enc _ F => deltaBetter_lifted os started H enc F)
end Go.Proofs.Ytfpipaoobmcomaa
