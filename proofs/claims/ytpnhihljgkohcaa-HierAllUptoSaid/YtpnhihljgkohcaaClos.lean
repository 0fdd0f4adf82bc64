/- Function values, zeros that are appended to nothing, capacities. Nothing of a program in sight. -/
import Derived.Test.YtpnhihljgkohcaaNorm
import Derived.Lib.AppendZeros
namespace Go.Proofs.Ytpnhihljgkohcaa
open Go.RowKit
set_option linter.unusedVariables false
set_option linter.unusedSimpArgs false
section
variable {P : Program} {n : Nat} {Q : Exit → Act → World → Prop} {ops : Array Oper} {rest : List Oper} {e : Env} {w : World} {d : Nat} {ty : TypeId} {pos : String} {after : Array Edge} {x y : Operand} {t : TypeId}
theorem R1.makeFunc {fn : Fn} {xs ys : List Operand} {us vs : List Value} (hx : evl e xs = some us) (hy : evl e ys = some vs) : R1 P e (.makeFunc fn xs.toArray ys.toArray) ty w (.func fn us.toArray vs.toArray) := fun n a d pos after g ha => by
  have h1 := ha.evals hx
  have h2 := ha.evals hy
  simp [execOp, Instr.makeFunc, h1, h2]
theorem R1.cap {el : TypeId} {s : Nat} {A : Option Addr} {l c : Nat} (hx : ev e x = some (.slice A l c)) (ht : sliceT P t = some (el, s)) :
    R1 P e (.call ⟨.builtin .cap, [x].toArray, [t].toArray⟩) ty w (.int .i64 c) := fun n a d pos after g ha => by
  have h1 := (sliceT.spec ht).1
  simp [execOp, resolve, invoke, builtin, ha.eval hx, Builtin.cap_, run_underlying h1, goInt]
/-- A call of a function value. -/
theorem L.callV {f : FuncId} {xs : List Operand} {vs us : List Value} {ats : Array TypeId} {R : Value → World → Prop} (hf : ev e x = some (.func (.func f) #[] us.toArray)) (hx : evl e xs = some vs) (hr : Ret P f (vs ++ us).toArray w R) (hd : Nat.blt d n = true)
    (h : ∀ v w', R v w' → L P n Q ops rest ((d, v) :: e) w') : L P n Q ops (⟨some d, .call ⟨.value x, xs.toArray, ats⟩, ty, pos, after, none⟩ :: rest) e w :=
  fun a ha => wpList_plain rfl fun K hK => by
    obtain ⟨fn, h1, h2, h3⟩ := hr.able
    have hv : xs.map a.eval = vs := ha.evals hx
    have h3' : fn.name ≠ "runtime.NumGoroutine" := by simpa using h3
    have h2' : fn.body ≠ none := by intro hh; simp [hh] at h2
    have : (execOp a.eval ⟨some d, .call ⟨.value x, xs.toArray, ats⟩, ty, pos, after, none⟩).run P w = .ok (.enter f (vs ++ us).toArray) w := by
      simp [execOp, resolve, ha.eval hf, Deferred.ofValue, invoke, callFunc, h1, h2', h3', hv]
    unfold Oper.wp
    rw [this, Oper.upon_enter]
    exact hr.run.mono fun en w' ⟨v, he, hv⟩ => by subst he; exact hK _ _ (h v w' hv _ (ha.put hd v))
/-- 'append([]T(nil), make([]T, m)...)'. -/
theorem L.appendZ {tn el : TypeId} {s by_ m : Nat} {z : Value} (hx : ev e x = some (.slice none 0 0)) (hy : ev e y = some (.int .i64 (m : Int))) (ht : sliceT P t = some (el, s)) (hi : intT P tn = some .i64) (hz : zeroT P el = some (z, s, by_)) (h0 : 0 < m) (hb : m * by_ ≤ 140737488355328) (hm : m ≤ maxLen) (hd : Nat.blt d n = true)
    (h : ∀ g c cs w', New w w' g el cs → m ≤ c → c ≤ maxLen → cs.size = c * s → L P n Q ops rest ((d, .slice (some ⟨g, 0, none⟩) m c) :: e) w') :
    L P n Q ops (⟨some d, .call ⟨.builtin .append, [x, y].toArray, [t, tn].toArray⟩, ty, pos, after, none⟩ :: rest) e w :=
  fun a ha => wpList_plain rfl fun K hK => by
    obtain ⟨hu, ⟨i, hi1, hs⟩, hpos⟩ := sliceT.spec ht
    obtain ⟨i', hi', hz1, hz2, hz3, hz4⟩ := zeroT.spec hz
    have hii : i' = i := by rw [hi'] at hi1; injection hi1
    subst hii
    have hm' : m ≤ 9223372036854775807 := by unfold maxLen at hm; omega
    have hr := Go.Lib.run_append_nil_zeros (P := P) w t tn ty el i' z .i64 .i64 hu (intT.spec hi) hi' hz1 m h0 (by omega) (by omega) (by rw [hz3]; omega)
    have hc1 := grownCap_ge w m 0 el
    have hc2 := grownCap_le_maxLen w m 0 el hm
    unfold Oper.wp
    have : (execOp a.eval ⟨some d, .call ⟨.builtin .append, [x, y].toArray, [t, tn].toArray⟩, ty, pos, after, none⟩).run P w = .ok (.value (.slice (some ⟨w.heap.size, 0, none⟩) m (grownCap w m 0 el))) (w.drew.alloc (.cells (Builtin.zeroCells z.cells m ++ Builtin.zeroCells z.cells (grownCap w m 0 el - m)) el)) := by
      simp [execOp, resolve, invoke, builtin, ha.eval hx, ha.eval hy, hr]
    rw [this]
    have hN := New.of_alloc w.drew el (Builtin.zeroCells z.cells m ++ Builtin.zeroCells z.cells (grownCap w m 0 el - m))
    refine hK _ _ (h w.heap.size (grownCap w m 0 el) _ _ ⟨rfl, hN.size, (Mod.drew w).trans hN.mod, hN.blk⟩ hc1 hc2 ?_ _ (ha.put hd _))
    simp only [Builtin.zeroCells, Array.size_append, Array.size_map, Array.size_range, hz4]
    rw [← Nat.add_mul]; congr 1; omega
end
theorem own_lit {w : World} {B el s g : Nat} {cs : List Value} (hb : Blk w g el cs.toArray) (hge : B ≤ g) (hl : cs.length = s) : w.ownsRow B el s (.slice (some ⟨g, 0, none⟩) 1 1) 1 cs :=
  ⟨by omega, .inr ⟨g, 1, cs.toArray, rfl, hge, hb, Nat.le_refl _, by decide, by simp; omega, by simp [List.take_of_length_le, hl]⟩⟩
end Go.Proofs.Ytpnhihljgkohcaa
