/- Walks: what the functions compute. -/
import Derived.Test.YtkjllbpfcokalaaLkA
import Derived.Test.YtkjllbpfcokalaaLpM
import Derived.Test.YtkjllbpfcokalaaSc8
namespace Go.Proofs.Ytkjllbpfcokalaa
open Go.RowKit
set_option linter.unusedVariables false
set_option linter.unusedSimpArgs false
set_option maxRecDepth 10000

theorem RKs_of {c : CR} {n : Nat} (hC : isC c (n : Int) = true) {M : List Nat} {w : World} {T A B : Option Addr} {t a b : Nat} (h0 : Lay rdT M w (.slice T c.ts.length t) c.ts) (h1 : U32 M w (.slice A c.k.n.length a) c.k.n) (h2 : U32 M w (.slice B c.k.d.length b) c.k.d) :
    RKs M w (.agg #[.int .i64 c.st, .slice T c.ts.length t, .bool c.k.s, .slice A c.k.n.length a, .slice B c.k.d.length b]) c.st (conT c).1 (conT c).2 := by
  obtain ⟨h3, h4, _, _⟩ := isC_spec hC
  obtain ⟨st, ts, k⟩ := c
  simp only at *
  obtain ⟨A', a', B', b', e, h5, h6⟩ := rdP_of ⟨_, _, rfl, h1, h2⟩ h3
  simp only [List.cons.injEq, Value.bool.injEq, and_true] at e
  obtain ⟨e1, e2, e3⟩ := e
  rw [e1, e2, e3]
  have hl : ts.length = (ts.map tv).length := by simp
  refine ⟨T, t, A', a', B', b', ?_, ?_, h5, h6⟩
  · show Value.agg #[_, Value.slice T ts.length t, _, _, _] = Value.agg #[_, Value.slice T (ts.map tv).length t, _, _, _]
    rw [← hl]; rfl
  · show Lay rdN M w (.slice T (ts.map tv).length t) (ts.map tv)
    rw [← hl]
    exact h0.conv rfl (fun cs a ha hr => rdN_of hr (h4 a ha).1 (h4 a ha).2)
/-- A sum so often. -/
def scC (x : Rat) (c : CR) : CR := ⟨c.st, (scaleT (conT c).1 x).map (fun t => (⟨(t.1 : Int), QR.nf t.2⟩ : TR)), QR.nf ((conT c).2 * x)⟩
def scs (x : Rat) (n : Nat) (cs : List CR) : List CR := (cs.filter fun c => isC c (n : Int)).map (scC x)
theorem conT_sc (x : Rat) (c : CR) : conT (scC x c) = (scaleT (conT c).1 x, (conT c).2 * x) := by
  have e : ∀ l : Ts, (l.map (fun t => (⟨(t.1 : Int), QR.nf t.2⟩ : TR))).map tv = l := fun l => by
    rw [List.map_map]
    conv => rhs; rw [← List.map_id l]
    apply List.map_congr_left
    intro t _
    show (((t.1 : Int)).toNat, (QR.nf t.2).val) = t
    rw [QR.nf_val, Int.toNat_natCast]
  show (((scaleT (conT c).1 x).map _).map tv, (QR.nf ((conT c).2 * x)).val) = _
  rw [e, QR.nf_val]
theorem isT_of {n : Int} : ∀ {l : Ts} {least : Int}, Nice l → (∀ t ∈ l, least ≤ (t.1 : Int) ∧ (t.1 : Int) < n) → isT n least (l.map (fun t => (⟨(t.1 : Int), QR.nf t.2⟩ : TR))) = true
  | [], _, _, _ => rfl
  | t :: l, least, h, hb => by
    simp only [List.map_cons, isT, Bool.and_eq_true, decide_eq_true_eq]
    refine ⟨(hb t (by simp)).1, (hb t (by simp)).2, nf_is _, ?_, isT_of h.tail (fun s hs => ⟨?_, (hb s (by simp [hs])).2⟩)⟩
    · have h1 : t.2 ≠ 0 := h.ne t (by simp)
      show (toL t.2.num.natAbs).length ≠ 0
      intro h2
      apply h1
      have h3 : t.2.num.natAbs = 0 := by
        rcases Nat.eq_zero_or_pos t.2.num.natAbs with h4 | h4
        · exact h4
        · rw [toL_pos (by omega)] at h2; simp at h2
      exact Rat.num_eq_zero.1 (Int.natAbs_eq_zero.1 h3)
    · have := h.head s hs; omega
theorem isC_sc {n : Nat} {c : CR} (x : Rat) (h : isC c (n : Int) = true) : isC (scC x c) (n : Int) = true := by
  obtain ⟨_, _, h4, h5⟩ := isC_spec h
  simp only [isC, Bool.and_eq_true, decide_eq_true_eq] at h
  refine isC_true h.1 h.2.1 (nf_is _) (isT_of (scaleT_nice h4 x) (fun t ht => ⟨by omega, ?_⟩))
  have := scaleT_below h5 t ht
  omega
theorem vecs_sc (x : Rat) (n : Nat) (cs : List CR) : vecs n (scs x n cs) = (vecs n cs).map (fun v i => x * v i) := by
  have h1 : (scs x n cs).filter (fun c => isC c (n : Int)) = scs x n cs := List.filter_eq_self.2 (fun c hc => by
    obtain ⟨d, hd, rfl⟩ := List.mem_map.1 hc
    exact isC_sc x (List.mem_filter.1 hd).2)
  unfold vecs
  rw [h1]
  unfold scs
  rw [List.map_map, List.map_map]
  apply List.map_congr_left
  intro c hc
  obtain ⟨_, _, h4, h5⟩ := isC_spec (List.mem_filter.1 hc).2
  funext i
  show cv n (conT (scC x c)).1 (conT (scC x c)).2 i = x * cv n (conT c).1 (conT c).2 i
  rw [conT_sc]
  simp only [cv]
  split
  · grind
  · rw [scaleT_coef h4]; grind
theorem eqv_sc {x : Rat} (hx : ¬ x = 0) (n : Nat) (cs : List CR) : Eqv (vecs n (scs x n cs)) (vecs n cs) := by
  rw [vecs_sc]; exact ⟨(Sp.scaled hx).2, (Sp.scaled hx).1⟩
theorem scs_yes {x : Rat} {n : Nat} {cs : List CR} {i : Nat} {z : CR} (hz : cs[i]? = some z) (h : isC z (n : Int) = true) : scs x n (cs.take (i + 1)) = scs x n (cs.take i) ++ [scC x z] := by
  obtain ⟨hi, rfl⟩ := List.getElem?_eq_some_iff.1 hz
  unfold scs
  rw [List.take_succ_eq_append_getElem hi, List.filter_append, List.map_append, List.filter_cons_of_pos (by exact h)]; rfl
theorem scs_no {x : Rat} {n : Nat} {cs : List CR} {i : Nat} {z : CR} (hz : cs[i]? = some z) (h : isC z (n : Int) = false) : scs x n (cs.take (i + 1)) = scs x n (cs.take i) := by
  obtain ⟨hi, rfl⟩ := List.getElem?_eq_some_iff.1 hz
  unfold scs
  rw [List.take_succ_eq_append_getElem hi, List.filter_append, List.map_append, List.filter_cons_of_neg (by simp [h])]; simp
theorem scs_len (x : Rat) (n : Nat) (cs : List CR) : (scs x n cs).length ≤ cs.length := by
  unfold scs; rw [List.length_map]; exact List.length_filter_le _ _
theorem fitC {c : CR} {n L : Nat} (hs : SmC L c) (hc : isC c (n : Int) = true) : (∀ t ∈ (conT c).1, Fit t.2 L) ∧ Fit (conT c).2 L ∧ (conT c).1.length ≤ L := by
  obtain ⟨h1, h2, _, _⟩ := isC_spec hc
  refine ⟨fun x hx => ?_, fit_is h1 hs.2.1, by simpa [conT] using hs.1⟩
  obtain ⟨t, ht, rfl⟩ := List.mem_map.1 hx
  exact fit_is (h2 t ht).2 (hs.2.2 t ht)
theorem oks_sc {z0 : Int} {n : Nat} {cs : List CR} {x : Rat} (hs : ∀ c ∈ cs, SmC 150 c) (hz : z0 ≤ 12) (hx : Fit x 4) : OkS z0 23255 (scs x n cs) := by
  have key : ∀ c ∈ scs x n cs, (∀ t ∈ (conT c).1, Fit t.2 154) ∧ Fit (conT c).2 154 ∧ (conT c).1.length ≤ 150 ∧ SmC 1099511627776 c := fun c hc => by
    obtain ⟨d, hd, rfl⟩ := List.mem_map.1 hc
    obtain ⟨h1, h2⟩ := List.mem_filter.1 hd
    obtain ⟨h3, h4, h5⟩ := fitC (hs d h1) h2
    have hl := scaleT_len (conT d).1 x
    have h6 : ∀ t ∈ scaleT (conT d).1 x, Fit t.2 154 := fun t ht => by
      unfold scaleT at ht
      obtain ⟨s, hs1, hs2⟩ := List.mem_filterMap.1 ht
      split at hs2
      · cases hs2
      · injection hs2 with hs2; subst hs2
        exact (h3 s hs1).mul hx
    rw [conT_sc]
    refine ⟨h6, h4.mul hx, by dsimp only; omega, ?_⟩
    have h7 := h4.mul hx
    refine ⟨?_, ⟨Nat.le_trans h7.1 (by decide), Nat.le_trans h7.2 (by decide)⟩, fun t ht => ?_⟩
    · show ((scaleT (conT d).1 x).map _).length ≤ _
      rw [List.length_map]; omega
    · obtain ⟨s, h8, rfl⟩ := List.mem_map.1 ht
      exact ⟨Nat.le_trans (h6 s h8).1 (by decide), Nat.le_trans (h6 s h8).2 (by decide)⟩
  refine ⟨fun c hc => (key c hc).2.2.2, fun c hc _ => OvC.mono (ovT_of (key c hc).1 (key c hc).2.1 (key c hc).2.2.1) (by decide), ?_, by decide⟩
  have h1 := bnd_12 (t := 23255) (heldG_12 (m := 12) hz)
  omega
theorem lay_sc {M : List Nat} {w : World} {T : Option Addr} {t : Nat} {l : Ts} (h : Lay rdN M w (.slice T l.length t) l) : Lay rdT M w (.slice T l.length t) (l.map (fun t => (⟨(t.1 : Int), QR.nf t.2⟩ : TR))) := h.conv rfl (fun cs a _ hr => by
  obtain ⟨A, a', B, b', e, h1, h2⟩ := hr
  exact ⟨_, e, _, _, rfl, h1, h2⟩)
theorem rdC_sc {M : List Nat} {w : World} {c : CR} {x : Rat} {T A B : Option Addr} {t a b : Nat} (h : Lay rdN M w (.slice T (scaleT (conT c).1 x).length t) (scaleT (conT c).1 x)) (h1 : U32 M w (.slice A (toL ((conT c).2 * x).num.natAbs).length a) (toL ((conT c).2 * x).num.natAbs)) (h2 : U32 M w (.slice B (toL ((conT c).2 * x).den).length b) (toL ((conT c).2 * x).den)) :
    rdC.rd M w [.int .i64 c.st, .slice T (scaleT (conT c).1 x).length t, .bool (decide (((conT c).2 * x).num < 0)), .slice A (toL ((conT c).2 * x).num.natAbs).length a, .slice B (toL ((conT c).2 * x).den).length b] (scC x c) :=
  rdC_mk (c := scC x c) (lay_sc h) h1 h2

theorem fillQ1s (s : Bool) (A : Option Addr) (n c : Nat) (B : Option Addr) (m d : Nat) : Instr.fill (fun i => some (i * 3, 3)) ((Array.range (1 * 3)).map ((Value.agg #[.bool false, .slice none 0 0, .slice none 0 0]).cells[· % (Value.agg #[.bool false, .slice none 0 0, .slice none 0 0]).cells.size]!)) [(0, .agg #[.bool s, .slice A n c, .slice B m d])] = some #[.bool s, .slice A n c, .slice B m d] := by kernel_rfl
end Go.Proofs.Ytkjllbpfcokalaa
