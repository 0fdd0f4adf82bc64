/- Walks: what the functions compute. -/
import Derived.Test.YtedokfpoajfflaaGreatL5D
import Derived.Test.YtedokfpoajfflaaGreatOpn
namespace Go.Proofs.YtedokfpoajfflaaGreat
open Go.RowKit
set_option linter.unusedVariables false
set_option linter.unusedSimpArgs false
set_option maxRecDepth 10000
open Go.ChangeShapes Go.WideShapes Go.ChangeAt Go.RowKit Go.Joins
theorem op_Q1 {H:Type} {enc:TypeId × Value→H} {W:World} {b:Nat} {v:Value} {d:DataW H} {p:List MemPlace} (hv:Value.okWide Tryz.prog W .any b 26 v) (h:DataW.Trod enc Tryz.prog W 0 (fun _=>true) true 26 v d p):∃ q vn vd,v=.agg #[.bool (QR.s q),vn,vd]∧U32 [] W vn q.n∧U32 [] W vd q.d∧szQ q≤Rows.uptoBulk d:=by
  obtain ⟨cs,rfl,hsz⟩:=okWide_struct Tryz.underlying26 hv;obtain ⟨fuel,hf⟩:=h;obtain ⟨q,hr,hs⟩:=op_Q (x:=(d,p)) hf;obtain ⟨vn,vd,h1,h2,h3⟩:=hr
  refine ⟨q,vn,vd,?_,h2,h3,hs⟩
  have:cs.toList=_:=h1
  rw [← this]
open Go.ChangeShapes Go.WideShapes Go.ChangeAt Go.RowKit Go.Joins
open Go.ChangeMaps (open_string shut_string)
theorem solveAdds_walks:WalksU Tryz.prog Tryz.f3 3:=by
  intro H enc W base args ds p hval hA hk
  have hA':DataW.TrodAll enc Tryz.prog W 0 (fun _=>true) true [22,23,3,26] args.toList ds p:=hA
  obtain ⟨v0,vs0,d0,ds0,p0,q0,hargs,rfl,rfl,h0,r0⟩:=trodAll_cons hA';obtain ⟨v1,vs1,d1,ds1,p1,q1,rfl,rfl,rfl,h1,r1⟩:=trodAll_cons r0;obtain ⟨v2,vs2,d2,ds2,p2,q2,rfl,rfl,rfl,h2,r2⟩:=trodAll_cons r1;obtain ⟨v3,vs3,d3,ds3,p3,q3,rfl,rfl,rfl,h3,r3⟩:=trodAll_cons r2;obtain ⟨rfl,rfl,rfl⟩:=trodAll_nil r3
  obtain rfl:args=#[v0,v1,v2,v3]:=by cases args; simp_all
  have hbk:=small_all hk
  simp only [Rows.uptoBulkAll] at hbk
  obtain ⟨cs,hL,hs⟩:=op_Cs (hval 0 22 v0 rfl rfl) h0;obtain ⟨qv,hv,sv⟩:=op_Qs Tryz.underlying23 (hval 1 23 v1 rfl rfl) h1
  change szQs qv≤_ at sv
  obtain ⟨z0,rfl,_,_,wf_z0⟩:=open_int Tryz.underlying3 (hval 2 3 v2 rfl rfl) h2;obtain ⟨q9,vn9,vd9,rfl,hr,kr,hsq⟩:=op_Q1 (hval 3 26 v3 rfl rfl) h3;obtain ⟨A9,a9,rfl⟩:=hr.form;obtain ⟨B9,b9,rfl⟩:=kr.form
  change q9.n.length + q9.d.length≤_ at hsq
  exact c_SolveAdds hL hv rfl hr kr (by omega) (by omega) (by omega)
set_option maxRecDepth 100000 in
theorem solveAdds_lifted (os : Os) (started : os.Started) (H : Type) (enc : TypeId × Value → H) (F : Stop.Interp) :
    ReturnsInHanded {} Tryz.checked os 3 .any ((Rows.OpenSpec.upto Rows.solveAddsSpec).pre6 enc Tryz.prog Tryz.f3 Rows.solveAddsUptoRow.domain false) (((Rows.OpenSpec.upto Rows.solveAddsSpec).at F).post enc Tryz.prog Tryz.f3 false true false false):=by
  refine returnsInHanded_of_cond (C:=Tryz.checked) (s:=Rows.OpenSpec.upto Rows.solveAddsSpec) (k:=Rows.uptoSmall) rfl own_ started (by kernel_rfl) Tryz.func3
    (OpenSpec.witness (enc:=enc) (C:=Tryz.checked) (s:=Rows.OpenSpec.upto Rows.solveAddsSpec) (k:=Rows.uptoSmall) rfl false ⟨#[],#[.slice none 0 0,.slice none 0 0,.int .i64 0,.agg #[.bool false,.slice none 0 0,.slice none 0 0]],[]⟩ 8 (by kernel_rfl) (by kernel_rfl) (by kernel_rfl)
      (x:=([.nil,.nil,.lit (.int .i64 0),.agg [.lit (.bool false),.nil,.nil]],[],[])) (by kernel_rfl) rfl (by kernel_rfl)) ?_
  intro W base args ds gs before hval hW _ hk _
  refine law_contractU (bt:=4) (s:=Rows.solveAddsSpec) rfl (fun H ds hl=>?_) laidOut_ (by decide +kernel) rfl rfl (by kernel_rfl) solveAdds_walks W base args ds gs before hval hW hk
  match ds,hl with
  | [d0,d1,d2,d3],_=>exact ⟨rfl,rfl,rfl⟩
theorem solveAdds_proved:Rows.SolveAddsUptoSaid :=
  OpenClaim.holds_of_cond 3 Tryz.f3 rfl rfl rfl rfl rfl rfl rfl ⟨rfl,rfl,rfl,rfl,rfl⟩ rfl rfl rfl rfl rfl (by kernel_rfl) Tryz.func3 (by kernel_rfl)
    (of_decide_eq_true (by kernel_rfl)) (by unfold Func.isWrapper; first | (rw [if_pos (by decide +kernel)]; kernel_rfl) | (rw [if_neg (by decide +kernel)]; exact ⟨rfl,rfl⟩))
    (fun os started H enc _ F=>solveAdds_lifted os started H enc F)
end Go.Proofs.YtedokfpoajfflaaGreat
