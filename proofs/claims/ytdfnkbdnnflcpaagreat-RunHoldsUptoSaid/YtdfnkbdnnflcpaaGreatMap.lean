/- Maps of integers to true, as sets. Nothing of a program in sight. -/
import Derived.Test.YtdfnkbdnnflcpaaGreatClos
import Derived.Carry
namespace Go.Proofs.YtdfnkbdnnflcpaaGreat
open Go.RowKit
set_option linter.unusedVariables false
set_option linter.unusedSimpArgs false
def MapI (w : World) (g : Nat) (T : List Int) : Prop := ∃ (es : Array MapEntry) (clk : Nat), w.heap[g]? = some (.map es clk) ∧ (∀ e ∈ es.toList, ∃ x, e.key = .int .i64 x ∧ e.val = .bool true ∧ x ∈ T) ∧ ∀ x ∈ T, ∃ e ∈ es.toList, e.key = .int .i64 x
theorem MapI.mod {w w' : World} {g : Nat} {G : List Nat} {T' : List Int} (h : MapI w g T') (hm : Mod G w w') (hg : g ∉ G) : MapI w' g T' := by
  obtain ⟨es, clk, h1, h2, h3⟩ := h
  have hlt : g < w.heap.size := by
    rcases Nat.lt_or_ge g w.heap.size with h4 | h4
    · exact h4
    · rw [Array.getElem?_eq_none h4] at h1; cases h1
  exact ⟨es, clk, by rw [hm.block g hlt hg]; exact h1, h2, h3⟩
section
variable {P : Program} {n : Nat} {Q : Exit → Act → World → Prop} {ops : Array Oper} {S : World → Prop} {T : List Nat} {fuel : Nat} {listed : Array Bool} {d : Nat} {op : Op} {ty : TypeId} {pos : String} {after : Array Edge} {e : Env} {w : World}
end
theorem MapI.lt {w : World} {g : Nat} {T' : List Int} (h : MapI w g T') : g < w.heap.size := by
  obtain ⟨es, clk, h1, _⟩ := h
  rcases Nat.lt_or_ge g w.heap.size with h4 | h4
  · exact h4
  · rw [Array.getElem?_eq_none h4] at h1; cases h1
theorem MapI.gr {w w' : World} {g : Nat} {T' : List Int} (h : MapI w g T') (hm : Mod [] w w') : MapI w' g T' := h.mod hm (by simp)
theorem MapI.ownfar {w w' : World} {g : Nat} {v : Value} {T' : List Int} (h : MapI w g T') (hm : Mod (ownL v) w w') (hno : v.ownBlock ≠ some g) : MapI w' g T' := h.mod hm (by unfold ownL; simpa using hno)
theorem MapI.ne_ {w w' : World} {g g' t : Nat} {cs : Array Value} {T' : List Int} (h : MapI w g T') (hN : New w w' g' t cs) : g ≠ g' := by
  have := h.lt; have := hN.eq; omega
theorem MapI.congr {w : World} {g : Nat} {T T' : List Int} (h : MapI w g T) (e : ∀ x, x ∈ T ↔ x ∈ T') : MapI w g T' := by
  obtain ⟨es, clk, h1, h2, h3⟩ := h
  exact ⟨es, clk, h1, fun e' he => let ⟨x, a, b, c⟩ := h2 e' he; ⟨x, a, b, (e x).1 c⟩, fun x hx => h3 x ((e x).2 hx)⟩
def MapV (w : World) (v : Value) (T : List Int) : Prop := (∃ g, v = .map (some g) ∧ MapI w g T) ∨ (v = .map none ∧ T = [])
theorem MapV.gr {w w' : World} {v : Value} {T' : List Int} (h : MapV w v T') (hm : Mod [] w w') : MapV w' v T' := by
  rcases h with ⟨g, h1, h2⟩ | h
  · exact .inl ⟨g, h1, h2.gr hm⟩
  · exact .inr h
theorem MapV.far {w w' : World} {g' : Nat} {v : Value} {T' : List Int} (h : MapV w v T') (hm : Mod [g'] w w') (hne : v ≠ .map (some g')) : MapV w' v T' := by
  rcases h with ⟨g, rfl, h2⟩ | h
  · exact .inl ⟨g, rfl, h2.mod hm (by simp only [List.mem_singleton]; intro e; exact hne (by rw [e]))⟩
  · exact .inr h
theorem MapV.of {w : World} {g : Nat} {T' : List Int} (h : MapI w g T') : MapV w (.map (some g)) T' := .inl ⟨g, rfl, h⟩
section
variable {P : Program} {w : World} {g : Nat} {T : List Int} {t kt et : TypeId} {x : Int}
end
def mapT (P : Program) (t : TypeId) : Prop := ∃ kt et, P.underlying t = some (.map kt et) ∧ P.underlying kt = some (.int .i64) ∧ ∀ w, (zeroValue et).run P w = .ok (.bool false) w
section
variable {P : Program} {n : Nat} {Q : Exit → Act → World → Prop} {ops : Array Oper} {rest : List Oper} {e : Env} {w : World} {d : Nat} {ty : TypeId} {pos : String} {after : Array Edge} {x y : Operand} {t : TypeId} {g : Nat} {T : List Int} {k : Int}
end
end Go.Proofs.YtdfnkbdnnflcpaaGreat
