/- Walks: what the functions compute. -/
import Derived.Test.YtjeodekhamdcmaaLawOr
import Derived.Test.YtjeodekhamdcmaaOpen
namespace Go.Proofs.Ytjeodekhamdcmaa
open Go.RowKit
set_option linter.unusedVariables false
set_option linter.unusedSimpArgs false
set_option maxRecDepth 10000
open Go.ChangeShapes Go.WideShapes Go.ChangeAt Go.RowKit Go.Joins
open Go.ChangeMaps (open_string shut_string)
theorem ratOrder_walks : Walks Try.prog Try.f12 12 := by
  intro H enc W base args ds p hval hA hsz
  have hA' : DataW.TrodAll enc Try.prog W 0 (fun _ => true) true [27, 27, 27] args.toList ds p := hA
  obtain ⟨v0, vs0, d0, ds0, p0, q0, hargs, rfl, rfl, h0, r0⟩ := trodAll_cons hA'
  obtain ⟨v1, vs1, d1, ds1, p1, q1, rfl, rfl, rfl, h1, r1⟩ := trodAll_cons r0
  obtain ⟨v2, vs2, d2, ds2, p2, q2, rfl, rfl, rfl, h2, r2⟩ := trodAll_cons r1
  obtain ⟨rfl, rfl, rfl⟩ := trodAll_nil r2
  obtain rfl : args = #[v0, v1, v2] := by cases args; simp_all
  have hw0 : ∀ m ∈ d0.weights Try.prog 27, m ≤ reachBytes := fun m hm => by
    have h9 := List.all_eq_true.1 hsz _ (DataW.weights_mem_each (ts := [27, 27, 27]) (j := 0) rfl rfl m hm)
    simpa using h9
  have hw1 : ∀ m ∈ d1.weights Try.prog 27, m ≤ reachBytes := fun m hm => by
    have h9 := List.all_eq_true.1 hsz _ (DataW.weights_mem_each (ts := [27, 27, 27]) (j := 1) rfl rfl m hm)
    simpa using h9
  have hw2 : ∀ m ∈ d2.weights Try.prog 27, m ≤ reachBytes := fun m hm => by
    have h9 := List.all_eq_true.1 hsz _ (DataW.weights_mem_each (ts := [27, 27, 27]) (j := 2) rfl rfl m hm)
    simpa using h9
  obtain ⟨sa, an, ad, xa, ya, rfl, ha, ka, la, ma⟩ := open_Rat (hval 0 27 v0 rfl rfl) h0 hw0
  obtain ⟨sb, bn, bd, xb, yb, rfl, hb, kb, lb, mb⟩ := open_Rat (hval 1 27 v1 rfl rfl) h1 hw1
  obtain ⟨sc, cn, cd, xc, yc, rfl, hc, kc, lc, mc⟩ := open_Rat (hval 2 27 v2 rfl rfl) h2 hw2
  exact c_RatOrder rfl ha ka rfl hb kb rfl hc kc bd0 la ma lb mb lc mc
set_option maxRecDepth 100000 in
theorem ratOrder_lifted (os : Os) (started : os.Started) (H : Type) (enc : TypeId × Value → H) :
    ReturnsInHanded {} Try.checked os 12 .any (Rows.ratOrderSpec.pre6 enc Try.prog Try.f12 Rows.ratOrderRow.domain false) (Rows.ratOrderSpec.post enc Try.prog Try.f12 false true false false) := by
  refine returnsInHanded_of_change_sized (C := Try.checked) own_ started (by kernel_rfl) Try.func12
    (ChangeSpec.witness6 (enc := enc) (C := Try.checked) false ⟨#[], #[.agg #[.bool false, .slice none 0 0, .slice none 0 0], .agg #[.bool false, .slice none 0 0, .slice none 0 0], .agg #[.bool false, .slice none 0 0, .slice none 0 0]], []⟩ 8 (by kernel_rfl) (by kernel_rfl) (by kernel_rfl) (by kernel_rfl)) ?_
  intro W base args ds gs before hval hW _ hsz _
  refine law_contract (bt := 4) rfl (fun H ds hl => ?_) laidOut_ (by decide +kernel) rfl rfl (by kernel_rfl) ratOrder_walks W base args ds gs before hval hW hsz
  match ds, hl with
  | [d0, d1, d2], _ => exact ⟨rfl, rfl, rfl⟩
theorem ratOrder_proved : Rows.RatOrderSaid :=
  OpenClaim.holds_of_wide 12 Try.f12 rfl rfl rfl rfl rfl rfl rfl ⟨rfl, rfl, rfl, rfl, rfl⟩ rfl rfl rfl rfl rfl (by kernel_rfl) Try.func12 (by kernel_rfl)
    (of_decide_eq_true (by kernel_rfl)) (by unfold Func.isWrapper; first | (rw [if_pos (by decide +kernel)]; kernel_rfl) | (rw [if_neg (by decide +kernel)]; exact ⟨rfl, rfl⟩))
    (fun os started H enc _ => ratOrder_lifted os started H enc)
end Go.Proofs.Ytjeodekhamdcmaa
