/- Walks: what the functions compute. -/
import Derived.Test.YthoooolflmbmbaaGreatL5B
import Derived.Test.YthoooolflmbmbaaGreatOpn
namespace Go.Proofs.YthoooolflmbmbaaGreat
open Go.RowKit
set_option linter.unusedVariables false
set_option linter.unusedSimpArgs false
set_option maxRecDepth 10000
open Go.ChangeShapes Go.WideShapes Go.ChangeAt Go.RowKit Go.Joins
open Go.ChangeMaps (open_string shut_string)
theorem solveBest_walks:WalksU Tryz.prog Tryz.f3 3:=by
  intro H enc W base args ds p hval hA hk
  have hA':DataW.TrodAll enc Tryz.prog W 0 (fun _=>true) true [22,23] args.toList ds p:=hA
  obtain ⟨v0,vs0,d0,ds0,p0,q0,hargs,rfl,rfl,h0,r0⟩:=trodAll_cons hA';obtain ⟨v1,vs1,d1,ds1,p1,q1,rfl,rfl,rfl,h1,r1⟩:=trodAll_cons r0;obtain ⟨rfl,rfl,rfl⟩:=trodAll_nil r1
  obtain rfl:args=#[v0,v1]:=by cases args; simp_all
  have hbk:=small_all hk
  simp only [Rows.uptoBulkAll] at hbk
  obtain ⟨cs,hL,hs⟩:=op_Cs (hval 0 22 v0 rfl rfl) h0;obtain ⟨qv,hv,sv⟩:=op_Qs Tryz.underlying23 (hval 1 23 v1 rfl rfl) h1
  change szQs qv≤_ at sv
  exact c_SolveBest hL hv (by omega) (by omega)
set_option maxRecDepth 100000 in
theorem solveBest_lifted (os : Os) (started : os.Started) (H : Type) (enc : TypeId × Value → H) (F : Stop.Interp) :
    ReturnsInHanded {} Tryz.checked os 3 .any ((Rows.OpenSpec.upto Rows.solveBestSpec).pre6 enc Tryz.prog Tryz.f3 Rows.solveBestUptoRow.domain false) (((Rows.OpenSpec.upto Rows.solveBestSpec).at F).post enc Tryz.prog Tryz.f3 false true false false):=by
  refine returnsInHanded_of_cond (C:=Tryz.checked) (s:=Rows.OpenSpec.upto Rows.solveBestSpec) (k:=Rows.uptoSmall) rfl own_ started (by kernel_rfl) Tryz.func3
    (OpenSpec.witness (enc:=enc) (C:=Tryz.checked) (s:=Rows.OpenSpec.upto Rows.solveBestSpec) (k:=Rows.uptoSmall) rfl false ⟨#[],#[.slice none 0 0,.slice none 0 0],[]⟩ 8 (by kernel_rfl) (by kernel_rfl) (by kernel_rfl)
      (x:=([.nil,.nil],[],[])) (by kernel_rfl) rfl (by kernel_rfl)) ?_
  intro W base args ds gs before hval hW _ hk _
  refine law_contractU (bt:=4) (s:=Rows.solveBestSpec) rfl (fun H ds hl=>?_) laidOut_ (by decide +kernel) rfl rfl (by kernel_rfl) solveBest_walks W base args ds gs before hval hW hk
  match ds,hl with
  | [d0,d1],_=>exact ⟨rfl,rfl,rfl⟩
theorem solveBest_proved:Rows.SolveBestUptoSaid :=
  OpenClaim.holds_of_cond 3 Tryz.f3 rfl rfl rfl rfl rfl rfl rfl ⟨rfl,rfl,rfl,rfl,rfl⟩ rfl rfl rfl rfl rfl (by kernel_rfl) Tryz.func3 (by kernel_rfl)
    (of_decide_eq_true (by kernel_rfl)) (by unfold Func.isWrapper; first | (rw [if_pos (by decide +kernel)]; kernel_rfl) | (rw [if_neg (by decide +kernel)]; exact ⟨rfl,rfl⟩))
    (fun os started H enc _ F=>solveBest_lifted os started H enc F)
end Go.Proofs.YthoooolflmbmbaaGreat
