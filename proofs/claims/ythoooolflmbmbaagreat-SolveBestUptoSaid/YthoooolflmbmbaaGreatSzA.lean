/- Walks: what the functions compute. -/
import Derived.Test.YthoooolflmbmbaaGreatAff
import Derived.Test.YthoooolflmbmbaaGreatOwnI
namespace Go.Proofs.YthoooolflmbmbaaGreat
open Go.RowKit
set_option linter.unusedVariables false
set_option linter.unusedSimpArgs false
set_option maxRecDepth 10000
def szQ (q:QR):Nat:=q.n.length + q.d.length
def szT (t:TR):Nat:=1 + szQ t.c
def szTs (ts:List TR):Nat:=(ts.map szT).sum
def szC (c:CR):Nat:=2 + szQ c.k + szTs c.ts
def szCs (cs:List CR):Nat:=(cs.map szC).sum
theorem sum_take_succ {α:Type} (f:α→Nat) {l:List α} {i:Nat} {z:α} (h:l[i]?=some z):((l.take (i + 1)).map f).sum=((l.take i).map f).sum + f z:=by
  obtain ⟨hi,rfl⟩:=List.getElem?_eq_some_iff.1 h
  rw [List.take_succ_eq_append_getElem hi,List.map_append,List.sum_append_nat]; rfl
theorem sum_take_le {α:Type} (f:α→Nat) (l:List α) (i:Nat):((l.take i).map f).sum≤(l.map f).sum:=by
  conv=>rhs; rw [← List.take_append_drop i l,List.map_append,List.sum_append_nat]
  exact Nat.le_add_right _ _
theorem sum_elem_le {α:Type} (f:α→Nat) {l:List α} {i:Nat} {z:α} (h:l[i]?=some z):((l.take i).map f).sum + f z≤(l.map f).sum:=by
  rw [← sum_take_succ f h]; exact sum_take_le f l _
theorem sum_mem_le {α:Type} (f:α→Nat) {l:List α} {z:α} (h:z∈l):f z≤(l.map f).sum:=by
  obtain ⟨i,hi,rfl⟩:=List.mem_iff_getElem.1 h
  exact Nat.le_trans (Nat.le_add_left _ _) (sum_elem_le f (List.getElem?_eq_getElem hi))
theorem ts_len (ts:List TR):ts.length≤szTs ts:=by
  unfold szTs
  induction ts with
  | nil=>simp
  | cons t r ih=>simp only [List.map_cons,List.sum_cons,List.length_cons,szT]; omega
theorem cs_len (cs:List CR):2 * cs.length≤szCs cs:=by
  unfold szCs
  induction cs with
  | nil=>simp
  | cons t r ih=>simp only [List.map_cons,List.sum_cons,List.length_cons,szC]; omega
theorem sm_of_sz {c:CR} {L:Nat} (h:szC c≤L):SmC L c:=by
  unfold szC at h
  have:=ts_len c.ts
  refine ⟨by omega,⟨by unfold szQ at h; omega,by unfold szQ at h; omega⟩,fun t ht=>?_⟩
  have h2:szT t≤szTs c.ts:=sum_mem_le szT ht
  unfold szT szQ at h2
  exact ⟨by omega,by omega⟩
theorem sm_of_all {cs:List CR} {L:Nat} (h:szCs cs≤L):∀ c∈cs,SmC L c:=fun c hc=>sm_of_sz (Nat.le_trans (sum_mem_le szC hc) h)
theorem SmC.mono {c:CR} {L L':Nat} (h:SmC L c) (hl:L≤L'):SmC L' c:=⟨Nat.le_trans h.1 hl,⟨Nat.le_trans h.2.1.1 hl,Nat.le_trans h.2.1.2 hl⟩,fun t ht=>⟨Nat.le_trans (h.2.2 t ht).1 hl,Nat.le_trans (h.2.2 t ht).2 hl⟩⟩
end Go.Proofs.YthoooolflmbmbaaGreat
