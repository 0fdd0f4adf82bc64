/- Walks: what the functions compute. -/
import Derived.Test.YtkjllbpfcokalaaGP
namespace Go.Proofs.Ytkjllbpfcokalaa
open Go.RowKit
set_option linter.unusedVariables false
set_option linter.unusedSimpArgs false
set_option maxRecDepth 10000

theorem vecs_mem {n : Nat} {cs : List CR} {v : Vec} : v ∈ vecs n cs ↔ ∃ c ∈ cs, isC c (n : Int) = true ∧ cv n (conT c).1 (conT c).2 = v := by
  unfold vecs
  rw [List.mem_map]
  constructor
  · rintro ⟨c, hc, e⟩
    obtain ⟨h1, h2⟩ := List.mem_filter.1 hc
    exact ⟨c, h1, h2, e⟩
  · rintro ⟨c, h1, h2, e⟩
    exact ⟨c, List.mem_filter.2 ⟨h1, h2⟩, e⟩
theorem vecs_sub {n : Nat} {a b : List CR} (h : ∀ c ∈ a, c ∈ b) : ∀ v ∈ vecs n a, Sp (vecs n b) v := fun v hv => by
  obtain ⟨c, h1, h2, h3⟩ := vecs_mem.1 hv
  exact .mem (vecs_mem.2 ⟨c, h c h1, h2, h3⟩)
theorem eqv_mem {n : Nat} {a b : List CR} (h1 : ∀ c ∈ a, c ∈ b) (h2 : ∀ c ∈ b, c ∈ a) : Eqv (vecs n a) (vecs n b) := ⟨vecs_sub h1, vecs_sub h2⟩
theorem szCs_one (c : CR) : szCs [c] = szC c := by simp [szCs]
theorem sm_mono3 {val : List QR} (h : ∀ q ∈ val, SmQ 3 q) : ∀ q ∈ val, SmQ 10000 q := fun q hq => ⟨Nat.le_trans (h q hq).1 (by decide), Nat.le_trans (h q hq).2 (by decide)⟩
theorem hv150 {n : Nat} {c : CR} (hs : SmC 150 c) (h : isC c (n : Int) = true) : OvC n 22651 (conT c) := OvC.mono (ovC_of hs hs.1 h) (by omega)

end Go.Proofs.Ytkjllbpfcokalaa
