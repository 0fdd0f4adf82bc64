/- Walks: what the functions compute. -/
import Derived.Test.YtkjllbpfcokalaaLkA
import Derived.Test.YtkjllbpfcokalaaLpSb
import Derived.Test.YtkjllbpfcokalaaGaH
namespace Go.Proofs.Ytkjllbpfcokalaa
open Go.RowKit
set_option linter.unusedVariables false
set_option linter.unusedSimpArgs false
set_option maxRecDepth 10000

/-- The same, but 0 at values. -/
def mtC (val : List QR) (c : CR) : CR := ⟨c.st, c.ts, QR.nf (QR.val c.k - atG val c.ts (QR.val c.k))⟩
def valF (val : List QR) (i : Nat) : Rat := valOf val (i : Int)
theorem atG_atT (val : List QR) : ∀ (l : List TR) (k : Rat), (∀ t ∈ l, 0 ≤ t.v) → atG val l k = atT (valF val) (l.map tv) k
  | [], _, _ => rfl
  | t :: l, k, h => by
    have h0 := h t (by simp)
    have e : valF val (tv t).1 = valOf val t.v := by unfold valF tv; dsimp only; rw [Int.toNat_of_nonneg h0]
    simp only [atG, List.map_cons, atT]
    rw [atG_atT val l _ (fun s hs => h s (by simp [hs])), e]; rfl
theorem atT_add (f : Nat → Rat) : ∀ (l : Ts) (k x : Rat), atT f l (k + x) = atT f l k + x
  | [], _, _ => rfl
  | t :: l, k, x => by
    simp only [atT]
    rw [← atT_add f l]; congr 1; grind
theorem conT_mt (val : List QR) (c : CR) : conT (mtC val c) = ((conT c).1, QR.val c.k - atG val c.ts (QR.val c.k)) := by
  show ((c.ts.map tv), (QR.nf _).val) = _
  rw [QR.nf_val]; rfl
theorem isC_mt {n : Int} {val : List QR} {c : CR} (h : isC c n = true) : isC (mtC val c) n = true := by
  simp only [isC, Bool.and_eq_true, decide_eq_true_eq] at h
  exact isC_true h.1 h.2.1 (nf_is _) h.2.2.2
theorem mt_at {n : Nat} {val : List QR} {c : CR} (h : isC c (n : Int) = true) : atv n (valF val) (cv n (conT (mtC val c)).1 (conT (mtC val c)).2) = 0 := by
  obtain ⟨_, h2, h4, h5⟩ := isC_spec h
  rw [conT_mt]
  dsimp only
  rw [← atT_eq h4 h5, atG_atT val c.ts _ (fun t ht => (h2 t ht).1)]
  have e := atT_add (valF val) (conT c).1 (QR.val c.k) (-(atT (valF val) (c.ts.map tv) (QR.val c.k)))
  rw [show QR.val c.k - atT (valF val) (c.ts.map tv) (QR.val c.k) = QR.val c.k + -(atT (valF val) (c.ts.map tv) (QR.val c.k)) by grind, e]
  show atT (valF val) (c.ts.map tv) (QR.val c.k) + -(atT (valF val) (c.ts.map tv) (QR.val c.k)) = 0
  grind
theorem mt_vecs {n : Nat} {val : List QR} {cs : List CR} (h : ∀ c ∈ cs, isC c (n : Int) = true) : ∀ v ∈ vecs n (cs.map (mtC val)), atv n (valF val) v = 0 := fun v hv => by
  obtain ⟨d, h1, _, h3⟩ := vecs_mem.1 hv
  obtain ⟨c, h4, rfl⟩ := List.mem_map.1 h1
  rw [← h3]; exact mt_at (h c h4)
theorem vecs_len (n : Nat) (cs : List CR) : (vecs n cs).length ≤ cs.length := by
  unfold vecs; rw [List.length_map]; exact List.length_filter_le _ _
section
variable {val : List QR} {cs : List CR} {t : Nat} {rs : List (Ts × Rat)} {ok : Bool} {n : Nat}
theorem mt_ok (h : PInv n t (vecs n (cs.map (mtC val))) rs ok) (hall : ∀ c ∈ cs, isC c (n : Int) = true) : ok = true := (P_ok h).2 fun k hk => by
  have h1 := Sp.at_ (mt_vecs hall) hk
  rwa [atv_kv] at h1
theorem mt_fix {v : Int} {x : Rat} {b : Bool} (hn : heldG (n : Int) = n) (h : PInv (heldG (n : Int)) t (vecs (heldG (n : Int)) (cs.map (mtC val))) rs ok) (hall : ∀ c ∈ cs, isC c (n : Int) = true) (hx : x = (fixT (n : Int) v rs ok).getD 0) (hb : b = (fixT (n : Int) v rs ok).isSome) (hbt : b = true) : 0 ≤ v ∧ v < (n : Int) ∧ x = valOf val v := by
  rw [hbt] at hb
  obtain ⟨k, hk⟩ := Option.isSome_iff_exists.1 hb.symm
  obtain ⟨_, h2, h3, h4⟩ := (P_fix h k).1 hk
  rw [hn] at h3 h4
  rw [hn] at h
  refine ⟨h2, h3, ?_⟩
  have h1 := Sp.at_ (mt_vecs hall) h4
  rw [atv_add, atv_kv, atv_ev (by omega)] at h1
  have e : valF val v.toNat = valOf val v := by unfold valF; rw [Int.toNat_of_nonneg h2]
  rw [e] at h1
  rw [hx, hk]
  show k = _
  grind
theorem mt_imp {c : CR} (hn : heldG (n : Int) = n) (h : PInv (heldG (n : Int)) t (vecs (heldG (n : Int)) (cs.map (mtC val))) rs ok) (hall : ∀ c ∈ cs, isC c (n : Int) = true) (hi : impT (n : Int) rs ok c = true) : atG val c.ts (QR.val c.k) = 0 := by
  have h1 := (P_imp h).1 hi
  rw [hn] at h h1
  have h2 := mt_ok h hall
  rcases h1 with h1 | ⟨h1, h3⟩
  · rw [h1] at h2; cases h2
  · obtain ⟨_, h5, h6, h7⟩ := isC_spec h1
    have h4 := Sp.at_ (mt_vecs hall) h3
    rw [← atT_eq h6 h7] at h4
    rw [atG_atT val c.ts _ (fun t ht => (h5 t ht).1)]
    exact h4
theorem mt_rank (h : PInv n t (vecs n (cs.map (mtC val))) rs ok) : rs.length ≤ n := by
  obtain ⟨R, h1, h2⟩ := h.rank
  rw [h2]; exact h1.rank_n
end
theorem mt_fit {M N8 : List Nat} {w : World} {vt vn vd vv : Value} {c : CR} {val : List QR} (ht : Lay rdT M w vt c.ts) (h : U32 M w vn c.k.n) (k : U32 M w vd c.k.d) (hv : Lay rdQ N8 w vv val) (hsm : SmC 150 c) (hsv : ∀ q ∈ val, SmQ 3 q) : Fit (atG val c.ts (QR.val c.k)) 45601 :=
  (atG_fit (L := 151) (fun v => (valOf_fit hv hsv v).mono (by decide)) c.ts (fit_ts ht hsm.2.2) (fit_sm h k hsm.2.1)).mono (by
    have h1 : c.ts.length * (2 * 151 + 1) ≤ 150 * (2 * 151 + 1) := Nat.mul_le_mul_right _ hsm.1
    omega)
theorem oks_mt {z0 : Int} {n : Nat} {cs : List CR} {val : List QR} (hs : ∀ c ∈ cs, SmC 150 c) (hf : ∀ c ∈ cs, Fit (QR.val c.k - atG val c.ts (QR.val c.k)) 45753) (hall : ∀ c ∈ cs, isC c (n : Int) = true) (hz : z0 ≤ 8) : OkS z0 6908704 (cs.map (mtC val)) := by
  refine ⟨fun c hc => ?_, fun c hc _ => ?_, ?_, by decide⟩
  · obtain ⟨d, hd, rfl⟩ := List.mem_map.1 hc
    have h1 := hs d hd
    exact ⟨Nat.le_trans h1.1 (by decide), ⟨Nat.le_trans (hf d hd).1 (by decide), Nat.le_trans (hf d hd).2 (by decide)⟩, fun t ht => ⟨Nat.le_trans (h1.2.2 t ht).1 (by decide), Nat.le_trans (h1.2.2 t ht).2 (by decide)⟩⟩
  · obtain ⟨d, hd, rfl⟩ := List.mem_map.1 hc
    obtain ⟨h1, _, h3⟩ := fitC (hs d hd) (hall d hd)
    rw [conT_mt]
    exact OvC.mono (ovT_of (L := 45753) (N := 150) (fun x hx => (h1 x hx).mono (by decide)) (hf d hd) h3) (by decide)
  · have h1 := bnd_8 (t := 6908704) (heldG_12 (m := 8) hz)
    omega
theorem map_take_yes {α β : Type} {f : α → β} {l : List α} {i : Nat} {z : α} (hz : l[i]? = some z) : (l.take (i + 1)).map f = (l.take i).map f ++ [f z] := by
  obtain ⟨hi, rfl⟩ := List.getElem?_eq_some_iff.1 hz
  rw [List.take_succ_eq_append_getElem hi, List.map_append]; rfl

end Go.Proofs.Ytkjllbpfcokalaa
