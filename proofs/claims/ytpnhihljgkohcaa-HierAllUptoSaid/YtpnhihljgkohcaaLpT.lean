/- Several texts in one. -/
import Derived.Test.YtpnhihljgkohcaaGaC
import Derived.Test.YtpnhihljgkohcaaSzA
section
namespace Go.Proofs.Ytpnhihljgkohcaa
open Go.RowKit
set_option linter.unusedVariables false
set_option linter.unusedSimpArgs false
set_option maxRecDepth 10000

section
variable {n t t' : Nat} {z0 v : Int} {L M : List Vec} {rs rs' : List (Ts × Rat)} {ok ok' : Bool}
/-- Of two rows of sums: each one is in the other's span. -/
def Eqv (L M : List Vec) : Prop := (∀ v ∈ L, Sp M v) ∧ (∀ v ∈ M, Sp L v)
theorem Eqv.refl (L : List Vec) : Eqv L L := ⟨fun _ h => .mem h, fun _ h => .mem h⟩
theorem PInv.solved (h : PInv n t L rs ok) : ∃ R, Solved n L R ok ∧ rs.length = R.length := h.rank
theorem P_ok (h : PInv n t L rs ok) : ok = true ↔ ∀ k, Sp L (kv n k) → k = 0 := by
  obtain ⟨R, h1, _⟩ := h.rank; exact h1.ok_iff
end
/-- Sizes of a sum that is checked. -/
theorem fit_is {q : QR} {L : Nat} (h : q.is = true) (hs : SmQ L q) : Fit q.val L := by
  have e := QR.is_nf h
  have h1 : q.n = toL q.val.num.natAbs := congrArg QR.n e
  have h2 : q.d = toL q.val.den := congrArg QR.d e
  exact ⟨h1 ▸ hs.1, h2 ▸ hs.2⟩
theorem OvC.mono {n t t' : Nat} {c : Ts × Rat} (h : OvC n t c) (ht : t ≤ t') : OvC n t' c := by
  obtain ⟨d, h1, h2, h3⟩ := h
  exact ⟨d, h1, Nat.lt_of_lt_of_le h2 (Nat.pow_le_pow_right (by decide) ht), h3.mono ht⟩
theorem ovT_of {n L N : Nat} {c : Ts × Rat} (h : ∀ x ∈ c.1, Fit x.2 L) (hk : Fit c.2 L) (hN : c.1.length ≤ N) : OvC n (L * (N + 1) + 1) c := by
  have h1 : OvC n (L * (c.1.length + 1) + 1) c := cv_ov h hk
  exact h1.mono (Nat.succ_le_succ (Nat.mul_le_mul_left _ (by omega)))
theorem ovC_of {n L N : Nat} {c : CR} (hs : SmC L c) (hN : c.ts.length ≤ N) (hc : isC c (n : Int) = true) : OvC n (L * (N + 1) + 1) (conT c) := by
  obtain ⟨h1, h2, _, _⟩ := isC_spec hc
  refine ovT_of (fun x hx => ?_) (fit_is h1 hs.2.1) (by simpa [conT] using hN)
  obtain ⟨t, ht, rfl⟩ := List.mem_map.1 hx
  exact fit_is (h2 t ht).2 (hs.2.2 t ht)
theorem heldG_12 {z0 : Int} {m : Nat} (h : z0 ≤ (m : Int)) : heldG z0 ≤ m := by unfold heldG; omega
theorem heldG_eq {n : Nat} (h : n ≤ 64) : heldG (n : Int) = n := by unfold heldG; omega
theorem oks12 {z0 : Int} {cs : List CR} (hs : ∀ c ∈ cs, SmC 150 c) (hz : z0 ≤ 12) : OkS z0 22651 cs := by
  refine ⟨fun c hc => (hs c hc).mono (by decide), fun c hc h => OvC.mono (ovC_of (hs c hc) (hs c hc).1 h) (by omega), ?_, by decide⟩
  have h1 := bnd_12 (t := 22651) (heldG_12 (m := 12) hz)
  omega
theorem sm150 {cs : List CR} (h : ¬ 150 < szCs cs) : ∀ c ∈ cs, SmC 150 c := fun c hc => sm_of_all (L := 150) (by omega) c hc
def szQs (qs : List QR) : Nat := (qs.map fun q => szQ q + 1).sum
theorem szQs_len (qs : List QR) : qs.length ≤ szQs qs := by
  unfold szQs
  induction qs with
  | nil => simp
  | cons t r ih => simp only [List.map_cons, List.sum_cons, List.length_cons]; omega
theorem all_take {α : Type} {P : α → Prop} {l : List α} {i : Nat} {z : α} (hz : l[i]? = some z) (h : ∀ s ∈ l.take i, P s) (h2 : P z) : ∀ s ∈ l.take (i + 1), P s := take_all hz h h2

end Go.Proofs.Ytpnhihljgkohcaa
end
section
namespace Go.Proofs.Ytpnhihljgkohcaa
open Go.RowKit
set_option linter.unusedVariables false
set_option linter.unusedSimpArgs false
set_option maxRecDepth 10000

def knA : CR := ⟨0, [⟨0, QR.nf ((1 : Int) : Rat)⟩, ⟨1, QR.nf ((1 : Int) : Rat)⟩], QR.nf ((-3 : Int) : Rat)⟩
def knB : CR := ⟨0, [⟨0, QR.nf ((1 : Int) : Rat)⟩, ⟨1, QR.nf ((-1 : Int) : Rat)⟩], QR.nf ((-1 : Int) : Rat)⟩
theorem nf_is (q : Rat) : (QR.nf q).is = true := by
  unfold QR.is isN QR.nf
  simp only [rv_toL]
  simp
theorem nf_sm2 {z : Int} (h : z.natAbs < 4294967296) : SmQ 2 (QR.nf ((z : Int) : Rat)) := by
  constructor
  · show (toL ((z : Int) : Rat).num.natAbs).length ≤ 2
    rw [Rat.num_intCast]
    by_cases h0 : z.natAbs = 0
    · rw [h0, toL_zero]; decide
    · rw [toL_small h0 h]; simp
  · show (toL ((z : Int) : Rat).den).length ≤ 2
    rw [Rat.den_intCast, toL_1]; decide
theorem nf_len {z : Int} (h0 : z.natAbs ≠ 0) (h : z.natAbs < 4294967296) : (QR.nf ((z : Int) : Rat)).n.length = 1 := by
  show (toL ((z : Int) : Rat).num.natAbs).length = 1
  rw [Rat.num_intCast, toL_small h0 h]; rfl
def vkA : Vec := cv 2 [(0, ((1 : Int) : Rat)), (1, ((1 : Int) : Rat))] ((-3 : Int) : Rat)
def vkB : Vec := cv 2 [(0, ((1 : Int) : Rat)), (1, ((-1 : Int) : Rat))] ((-1 : Int) : Rat)
end Go.Proofs.Ytpnhihljgkohcaa
end
section
namespace Go.Proofs.Ytpnhihljgkohcaa
open Go.RowKit
set_option linter.unusedVariables false
set_option linter.unusedSimpArgs false
set_option maxRecDepth 10000

theorem vecs_mem {n : Nat} {cs : List CR} {v : Vec} : v ∈ vecs n cs ↔ ∃ c ∈ cs, isC c (n : Int) = true ∧ cv n (conT c).1 (conT c).2 = v := by
  unfold vecs
  rw [List.mem_map]
  constructor
  · rintro ⟨c, hc, e⟩
    obtain ⟨h1, h2⟩ := List.mem_filter.1 hc
    exact ⟨c, h1, h2, e⟩
  · rintro ⟨c, h1, h2, e⟩
    exact ⟨c, List.mem_filter.2 ⟨h1, h2⟩, e⟩
theorem vecs_sub {n : Nat} {a b : List CR} (h : ∀ c ∈ a, c ∈ b) : ∀ v ∈ vecs n a, Sp (vecs n b) v := fun v hv => by
  obtain ⟨c, h1, h2, h3⟩ := vecs_mem.1 hv
  exact .mem (vecs_mem.2 ⟨c, h c h1, h2, h3⟩)
theorem sm_mono3 {val : List QR} (h : ∀ q ∈ val, SmQ 3 q) : ∀ q ∈ val, SmQ 10000 q := fun q hq => ⟨Nat.le_trans (h q hq).1 (by decide), Nat.le_trans (h q hq).2 (by decide)⟩
end Go.Proofs.Ytpnhihljgkohcaa
end
