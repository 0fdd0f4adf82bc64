/- Walks: what the functions compute. -/
import Derived.Test.YtkjllbpfcokalaaLpT
namespace Go.Proofs.Ytkjllbpfcokalaa
open Go.RowKit
set_option linter.unusedVariables false
set_option linter.unusedSimpArgs false
set_option maxRecDepth 10000

section
variable {n t t' : Nat} {L M : List Vec} {rs rs' : List (Ts × Rat)} {ok ok' : Bool}
theorem PP_ok_mono (h : PInv n t L rs ok) (h' : PInv n t' M rs' ok') (e : ∀ v ∈ L, Sp M v) (hk : ok' = true) : ok = true := (P_ok h).2 fun k x => (P_ok h').1 hk k (x.trans e)
theorem PP_rank_mono (h : PInv n t L rs ok) (h' : PInv n t' M rs' ok') (e : ∀ v ∈ L, Sp M v) : rs.length ≤ rs'.length := by
  obtain ⟨R, h1, h2⟩ := h.rank
  obtain ⟨R', h3, h4⟩ := h'.rank
  rw [h2, h4]; exact h1.rank_le h3 e
end
theorem vecs_app (n : Nat) (a b : List CR) : vecs n (a ++ b) = vecs n a ++ vecs n b := by simp [vecs]
theorem sub_app {n : Nat} {a b : List CR} : ∀ v ∈ vecs n a, Sp (vecs n (a ++ b)) v := vecs_sub (fun c h => by simp [h])
theorem eqv_more {n : Nat} {cs : List CR} {c : CR} (h : isC c (n : Int) = true → Sp (vecs n cs) (cv n (conT c).1 (conT c).2)) : Eqv (vecs n cs) (vecs n (cs ++ [c])) := ⟨sub_app, fun v hv => by
  rw [vecs_app] at hv
  rcases List.mem_append.1 hv with h1 | h1
  · exact .mem h1
  · obtain ⟨x, h2, h3, h4⟩ := vecs_mem.1 h1
    rw [List.mem_singleton.1 h2] at h3 h4
    rw [← h4]; exact h h3⟩
theorem oks_more {z0 : Int} {cs : List CR} {c : CR} (hsm : ∀ x ∈ cs, SmC 150 x) (hsc : SmC 150 c) (hz : z0 ≤ 12) : OkS z0 22651 (cs ++ [c]) := oks12 (fun x hx => by
  rcases List.mem_append.1 hx with h9 | h9
  · exact hsm x h9
  · rw [List.mem_singleton.1 h9]; exact hsc) hz

end Go.Proofs.Ytkjllbpfcokalaa
