/- Walks: what the functions compute. -/
import Derived.Test.YtjeodekhamdcmaaLawB
import Derived.Test.YtjeodekhamdcmaaLift
namespace Go.Proofs.Ytjeodekhamdcmaa
open Go.RowKit
set_option linter.unusedVariables false
set_option linter.unusedSimpArgs false
set_option maxRecDepth 10000

open Go.ChangeShapes Go.WideShapes Go.ChangeAt Go.RowKit Go.Joins
section
variable {H : Type} {enc : TypeId × Value → H} {W : World}
theorem open_U32 {n : Nat} {c : Value} {x : DataW H × List MemPlace} (h : DataW.trod enc Try.prog W 0 (fun _ => true) true n 25 [c] = some x) :
    ∃ xs, U32 [] W c xs ∧ ((∀ m ∈ x.1.weights Try.prog 25, m ≤ reachBytes) → xs.length * 4 ≤ reachBytes) := by
  rcases open_ints Try.underlying25 Try.underlying51 (by kernel_rfl) h with ⟨hcs, hx⟩ | ⟨a, len, cap, zs, hcs, hb, hl, hm, hz, hx, hcell, hws⟩
  · simp only [List.cons.injEq, and_true] at hcs
    subst hcs
    exact ⟨[], U32.nil, fun _ => by simp⟩
  · simp only [List.cons.injEq, and_true] at hcs
    subst hcs
    simp only [if_true] at hz
    have hwf : ∀ z ∈ zs, 0 ≤ z ∧ z ≤ 4294967295 := fun z hz9 => by
      have := hws z hz9
      simpa [Lit.wf, IntKind.min, IntKind.max, IntKind.signed, IntKind.bits] using this
    have hlen : ((zs.take len).map Int.toNat).length = len := by simp; omega
    refine ⟨(zs.take len).map Int.toNat, ⟨⟨some a, cap, by rw [hlen], by omega, hm, by simp, (fun h => by cases h), fun ad had => ?_⟩, ?_⟩, fun hw => ?_⟩
    · injection had with had; subst had
      refine ⟨(fun _ h => by cases h), fun j u hu => ?_⟩
      rw [List.map_map, List.getElem?_map, Option.map_eq_some_iff] at hu
      obtain ⟨z, hz2, rfl⟩ := hu
      have hj : j < (zs.take len).length := (List.getElem?_eq_some_iff.1 hz2).1
      have hj2 : j < zs.length := by simp at hj; omega
      have hc := hcell j hj2
      rw [List.getElem?_take, if_pos (by simp at hj; omega)] at hz2
      rw [hc]
      have e : zs.getD j 0 = z := by simp [List.getD, hz2]
      have h0 := hwf z (List.mem_of_getElem? hz2)
      rw [e]
      simp; omega
    · intro x hx9
      obtain ⟨z, hz9, rfl⟩ := List.mem_map.1 hx9
      have := hwf z (List.mem_of_mem_take hz9)
      omega
    · subst hx
      have := hw ((lits (H := H) .u32 (zs.take len)).length * 4 + (lits (H := H) .u32 (zs.drop len)).length * 4) (by
        simp only [DataW.weights, Try.underlying25]
        refine List.mem_cons.2 (.inl ?_)
        have e1 : Try.prog.bytesOf 51 = 4 := by kernel_rfl
        rw [e1, Nat.add_mul])
      simp only [lits, List.length_map] at this
      rw [hlen]
      simp at this
      omega
theorem open_Rat {b : Nat} {v : Value} {d : DataW H} {p : List MemPlace} (hv : Value.okWide Try.prog W .any b 27 v) (h : DataW.Trod enc Try.prog W 0 (fun _ => true) true 27 v d p) (hw : ∀ m ∈ d.weights Try.prog 27, m ≤ reachBytes) :
    ∃ s vn vd xs ys, v = .agg #[.bool s, vn, vd] ∧ U32 [] W vn xs ∧ U32 [] W vd ys ∧ xs.length ≤ 140737488355328 ∧ ys.length ≤ 140737488355328 := by
  obtain ⟨c0, c1, c2, y0, y1, y2, m, rfl, rfl, rfl, hy0, hy1, hy2⟩ := open_agg3 Try.underlying27 (by kernel_rfl) (by kernel_rfl) hv h
  obtain ⟨s, hs, _⟩ := DataW.trod_bool Try.underlying4 hy0
  simp only [List.cons.injEq, and_true] at hs
  subst hs
  obtain ⟨xs, h1, w1⟩ := open_U32 hy1
  obtain ⟨ys, h2, w2⟩ := open_U32 hy2
  simp only [DataW.weights, Try.underlying27] at hw
  have hw' : ∀ m ∈ DataW.weightsEach Try.prog [4, 25, 25] [y0.1, y1.1, y2.1], m ≤ reachBytes := hw
  simp only [DataW.weightsEach, List.append_nil, List.mem_append] at hw'
  have e1 := w1 (fun m hm => hw' m (.inr (.inl hm)))
  have e2 := w2 (fun m hm => hw' m (.inr (.inr hm)))
  unfold reachBytes at e1 e2
  exact ⟨s, c1, c2, xs, ys, rfl, h1, h2, by omega, by omega⟩
end
theorem wf_i64 {n : Int} (h : (Lit.int .i64 n).wf = true) : -9223372036854775808 ≤ n ∧ n ≤ 9223372036854775807 := by simpa [Lit.wf, IntKind.min, IntKind.max, IntKind.signed, IntKind.bits] using h
theorem wf_u32 {n : Int} (h : (Lit.int .u32 n).wf = true) : 0 ≤ n ∧ n ≤ 4294967295 := by simpa [Lit.wf, IntKind.min, IntKind.max, IntKind.signed, IntKind.bits] using h
theorem bd0 {W : World} : Bd [] W := fun m h => by cases h

end Go.Proofs.Ytjeodekhamdcmaa
