/- Walks: what the functions compute. -/
import Derived.Test.YtkjllbpfcokalaaLpM
namespace Go.Proofs.Ytkjllbpfcokalaa
open Go.RowKit
set_option linter.unusedVariables false
set_option linter.unusedSimpArgs false
set_option maxRecDepth 10000

theorem bnd_8 {t k : Nat} (h : k ≤ 8) : bnd t k ≤ 256 * (t + 3) := by
  have h1 := bnd_mono (t := t) h
  simp only [bnd] at h1; omega
theorem fitC {c : CR} {n L : Nat} (hs : SmC L c) (hc : isC c (n : Int) = true) : (∀ t ∈ (conT c).1, Fit t.2 L) ∧ Fit (conT c).2 L ∧ (conT c).1.length ≤ L := by
  obtain ⟨h1, h2, _, _⟩ := isC_spec hc
  refine ⟨fun x hx => ?_, fit_is h1 hs.2.1, by simpa [conT] using hs.1⟩
  obtain ⟨t, ht, rfl⟩ := List.mem_map.1 hx
  exact fit_is (h2 t ht).2 (hs.2.2 t ht)

end Go.Proofs.Ytkjllbpfcokalaa
