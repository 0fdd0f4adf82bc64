/- Walks: what the functions compute. -/
import Derived.Test.YtbomlakekdamhaaHist2
import Derived.Test.YtbomlakekdamhaaLift
namespace Go.Proofs.Ytbomlakekdamhaa
open Go.RowKit
set_option linter.unusedVariables false
set_option linter.unusedSimpArgs false
set_option maxRecDepth 10000

open Go.ChangeShapes Go.WideShapes Go.ChangeAt Go.RowKit Go.Joins
open Go.ChangeMaps (open_string shut_string)
section
variable {H : Type} {enc : TypeId × Value → H} {W : World}
theorem open_Strs {n : Nat} {c : Value} {x : DataW H × List MemPlace} (h : DataW.trod enc Try.prog W 0 (fun _ => true) true n 22 [c] = some x) :
    ∃ ss, Strs [] W c ss ∧ ((∀ m ∈ x.1.weights Try.prog 22, m ≤ reachBytes) → ss.length * 16 ≤ reachBytes) := by
  rcases open_strings Try.underlying22 Try.underlying9 (by kernel_rfl) h with ⟨hcs, hx⟩ | ⟨a, len, cap, ss, hcs, hb, hl, hm, hz, hx, hcell, hws⟩
  · simp only [List.cons.injEq, and_true] at hcs
    subst hcs
    exact ⟨[], Strs.nil, fun _ => by simp⟩
  · simp only [List.cons.injEq, and_true] at hcs
    subst hcs
    simp only [if_true] at hz
    have hlen : (ss.take len).length = len := by simp; omega
    refine ⟨ss.take len, ⟨some a, cap, by rw [hlen], by omega, hm, by simp, (fun h => by cases h), fun ad had => ?_⟩, fun hw => ?_⟩
    · injection had with had; subst had
      refine ⟨(fun _ h => by cases h), fun j u hu => ?_⟩
      rw [List.getElem?_map, Option.map_eq_some_iff] at hu
      obtain ⟨s, hs, rfl⟩ := hu
      have hj : j < (ss.take len).length := (List.getElem?_eq_some_iff.1 hs).1
      have hc := hcell j (by omega)
      rw [hc]
      rw [List.getElem?_take, if_pos (by omega)] at hs
      simp [List.getD, hs]
    · subst hx
      have := hw ((strs (H := H) (ss.take len)).length * 16 + (strs (H := H) (ss.drop len)).length * 16) (by
        simp only [DataW.weights, Try.underlying22]
        refine List.mem_cons.2 (.inl ?_)
        have e1 : Try.prog.bytesOf 9 = 16 := by kernel_rfl
        rw [e1, Nat.add_mul])
      simp only [strs, List.length_map] at this
      omega
theorem open_Hist {b : Nat} {v : Value} {d : DataW H} {p : List MemPlace} (hv : Value.okWide Try.prog W .any b 24 v) (h : DataW.Trod enc Try.prog W 0 (fun _ => true) true 24 v d p) (hw : ∀ m ∈ d.weights Try.prog 24, m ≤ reachBytes) :
    ∃ vp vf ps fs, v = .agg #[vp, vf] ∧ Strs [] W vp ps ∧ Strs [] W vf fs ∧ ps.length * 16 ≤ reachBytes ∧ fs.length * 16 ≤ reachBytes := by
  obtain ⟨c0, c1, y0, y1, m, rfl, rfl, rfl, hy0, hy1⟩ := open_agg2 Try.underlying24 (by kernel_rfl) (by kernel_rfl) hv h
  obtain ⟨ps, hp, w1⟩ := open_Strs hy0
  obtain ⟨fs, hf, w2⟩ := open_Strs hy1
  simp only [DataW.weights, Try.underlying24] at hw
  have hw' : ∀ m ∈ DataW.weightsEach Try.prog [22, 22] [y0.1, y1.1], m ≤ reachBytes := hw
  simp only [DataW.weightsEach, List.append_nil, List.mem_append] at hw'
  exact ⟨c0, c1, ps, fs, rfl, hp, hf, w1 (fun m hm => hw' m (.inl hm)), w2 (fun m hm => hw' m (.inr hm))⟩
theorem open_StrsV {b : Nat} {v : Value} {d : DataW H} {p : List MemPlace} (hv : Value.okWide Try.prog W .any b 22 v) (h : DataW.Trod enc Try.prog W 0 (fun _ => true) true 22 v d p) (hw : ∀ m ∈ d.weights Try.prog 22, m ≤ reachBytes) :
    ∃ ss, Strs [] W v ss ∧ ss.length * 16 ≤ reachBytes := by
  obtain ⟨A, l, c, rfl⟩ := okWide_slice Try.underlying22 hv
  obtain ⟨n, h⟩ := h
  obtain ⟨ss, h1, h2⟩ := open_Strs (x := (d, p)) h
  exact ⟨ss, h1, h2 hw⟩
end
theorem bd0 {W : World} : Bd [] W := fun m h => by cases h
theorem reach16 {n : Nat} (h : n * 16 ≤ reachBytes) : n ≤ 8796093021952 := by unfold reachBytes at h; omega

end Go.Proofs.Ytbomlakekdamhaa
