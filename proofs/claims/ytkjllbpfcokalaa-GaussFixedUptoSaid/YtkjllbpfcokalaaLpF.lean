/- Walks: what the functions compute. -/
import Derived.Test.YtkjllbpfcokalaaLkA
import Derived.Test.YtkjllbpfcokalaaLpM
namespace Go.Proofs.Ytkjllbpfcokalaa
open Go.RowKit
set_option linter.unusedVariables false
set_option linter.unusedSimpArgs false
set_option maxRecDepth 10000

theorem bnd_8 {t k : Nat} (h : k ≤ 8) : bnd t k ≤ 256 * (t + 3) := by
  have h1 := bnd_mono (t := t) h
  simp only [bnd] at h1; omega
theorem Sp.split {L : List Vec} {d u : Vec} (h : Sp (L ++ [d]) u) : ∃ a y, Sp L a ∧ u = fun i => a i + y * d i := by
  induction h with
  | zero => exact ⟨_, 0, .zero, by funext i; grind⟩
  | add x hu hv ih =>
    obtain ⟨a, y, h1, rfl⟩ := ih
    rcases List.mem_append.1 hv with h2 | h2
    · exact ⟨_, y, .add x h1 h2, by funext i; grind⟩
    · rw [List.mem_singleton.1 h2]; exact ⟨a, y + x, h1, by funext i; grind⟩
theorem Fit.one {c : Nat} (h : 2 ≤ c) : Fit (((1 : Int)) : Rat) c := (Fit.int (by decide) (by decide)).mono h
theorem P_fixfit {z0 v : Int} {t : Nat} {L : List Vec} {rs : List (Ts × Rat)} {ok : Bool} (h : PInv (heldG z0) t L rs ok) : Fit ((fixT z0 v rs ok).getD 0) (bnd t (heldG z0) + 2) := by
  unfold fixT
  split
  · rename_i h1
    obtain ⟨R, D, h1', h2, h3⟩ := h
    have hr := h2.rank_n
    have hT := bnd_mono (t := t) hr
    have hn := heldG_le z0
    have hv : v.toNat < heldG z0 := by omega
    obtain ⟨e, a1, a2, a3⟩ := ov_one (n := heldG z0) (v := v.toNat) hv (Nat.le_refl 1)
    have h1'' : Reps (heldG z0) (t + bnd t (heldG z0) + 1) (rs ++ []) R := by rw [List.append_nil]; exact h1'
    have h5 := left_fit (by omega) h1'' h2.good h3 (one_nice _) (one_below hv) a1 a2 a3
    exact h5.2.mono (by omega)
  · have h9 : Fit (((0 : Int)) : Rat) 2 := Fit.int (by decide) (by decide)
    exact Fit.mono h9 (by omega)
/-- That a variable and a number are 0 together. -/
def fxC (v : Int) (x : Rat) : CR := ⟨0, [⟨v, QR.nf ((1 : Int) : Rat)⟩], QR.nf x⟩
theorem conT_fx (v : Int) (x : Rat) : conT (fxC v x) = ([(v.toNat, ((1 : Int) : Rat))], x) := by
  show ([(_, (QR.nf _).val)], (QR.nf _).val) = _
  rw [QR.nf_val, QR.nf_val]
theorem isC_fx {v : Int} {n : Nat} (x : Rat) (h0 : 0 ≤ v) (h1 : v < (n : Int)) : isC (fxC v x) (n : Int) = true := by
  show (decide ((0 : Int) ≤ 0) && (decide ((0 : Int) ≤ 4) && ((QR.nf x).is && (decide (0 ≤ v) && (decide (v < (n : Int)) && ((QR.nf ((1 : Int) : Rat)).is && (decide ((QR.nf ((1 : Int) : Rat)).n.length ≠ 0) && true))))))) = true
  rw [nf_is, nf_is, nf_len (by decide) (by decide), decide_eq_true h0, decide_eq_true h1]; decide
theorem fx_cv {n V : Nat} (hV : V < n) (x : Rat) : cv n [(V, ((1 : Int) : Rat))] x = fun i => ev1 V i + -1 * kv n (-x) i := by
  funext i
  simp only [cv, coef, ev1, kv]
  by_cases h : i = n
  · rw [if_pos h, if_pos h, if_neg (by omega)]; grind
  · rw [if_neg h, if_neg h]
    by_cases h2 : i = V
    · subst h2; simp; grind
    · rw [if_neg h2, if_neg (fun e => h2 e.symm)]; grind
theorem vecs_fx {v : Int} {n : Nat} {cs : List CR} (x : Rat) (h0 : 0 ≤ v) (h1 : v < (n : Int)) : vecs n (cs ++ [fxC v x]) = vecs n cs ++ [fun i => ev1 v.toNat i + -1 * kv n (-x) i] := by
  rw [vecs_app]; congr 1
  unfold vecs
  rw [List.filter_cons_of_pos (by exact isC_fx x h0 h1)]
  simp only [List.filter_nil, List.map_cons, List.map_nil]
  rw [conT_fx, fx_cv (by omega)]
theorem fx_imp {z0 v : Int} {t t2 : Nat} {L : List Vec} {rs rs2 : List (Ts × Rat)} {ok ok2 o : Bool} {x : Rat} (h : PInv (heldG z0) t L rs ok) (h2 : PInv (heldG z0) t2 L rs2 ok2) (h0 : 0 ≤ v) (h1 : v < (heldG z0 : Int)) (hok : ok = true) (hx : x = (fixT z0 v rs ok).getD 0) (ho : o = (fixT z0 v rs ok).isSome) : impT z0 rs2 ok2 (fxC v (-x)) = o := by
  have e := PP_ok h h2 (Eqv.refl L)
  rw [Bool.eq_iff_iff, P_imp h2, conT_fx]
  dsimp only
  rw [fx_cv (by omega), Rat.neg_neg]
  constructor
  · rintro (h9 | ⟨_, h9⟩)
    · rw [← e, hok] at h9; cases h9
    · have h8 := (P_fix h x).2 ⟨hok, h0, h1, h9⟩
      rw [ho, h8]; rfl
  · intro h9
    rw [ho] at h9
    obtain ⟨k, hk⟩ := Option.isSome_iff_exists.1 h9
    have : x = k := by rw [hx, hk]; rfl
    exact .inr ⟨isC_fx _ h0 h1, by rw [this]; exact ((P_fix h k).1 hk).2.2.2⟩
theorem fx_with {z0 v : Int} {t t2 : Nat} {cs : List CR} {rs rs2 : List (Ts × Rat)} {ok ok2 o : Bool} {x : Rat} (h : PInv (heldG z0) t (vecs (heldG z0) cs) rs ok) (h2 : PInv (heldG z0) t2 (vecs (heldG z0) (cs ++ [fxC v (-x + (((1 : Int)) : Rat))])) rs2 ok2) (h0 : 0 ≤ v) (h1 : v < (heldG z0 : Int)) (hok : ok = true) (hx : x = (fixT z0 v rs ok).getD 0) (ho : o = (fixT z0 v rs ok).isSome) : ok2 = !o := by
  rw [vecs_fx _ h0 h1] at h2
  cases hf : fixT z0 v rs ok with
  | some k =>
    rw [ho, hf]
    have hs := ((P_fix h k).1 hf).2.2.2
    have hx' : x = k := by rw [hx, hf]; rfl
    cases ok2 with
    | false => rfl
    | true =>
      have hk1 := Sp.sub 1 (Sp.mem (L := vecs (heldG z0) cs ++ [fun i => ev1 v.toNat i + -1 * kv (heldG z0) (-(-x + (((1 : Int)) : Rat))) i]) (List.mem_append_right _ (List.mem_singleton.2 rfl))) (hs.trans (fun u hu => .mem (by simp [hu])))
      have h9 := (P_ok h2).1 rfl 1 (by
        have e : kv (heldG z0) 1 = vsub (fun i => ev1 v.toNat i + -1 * kv (heldG z0) (-(-x + (((1 : Int)) : Rat))) i) (fun i => ev1 v.toNat i + -1 * kv (heldG z0) k i) 1 := by
          funext i; simp only [vsub, kv]; rw [hx']; split <;> grind
        rw [e]; exact hk1)
      exact absurd h9 (by decide)
  | none =>
    rw [ho, hf]
    show ok2 = true
    refine (P_ok h2).2 fun j hj => ?_
    obtain ⟨a, y, h3, h4⟩ := hj.split
    by_cases hy : y = 0
    · have h5 : a = kv (heldG z0) j := by funext i; have h6 := congrFun h4 i; rw [hy] at h6; grind
      exact (P_ok h).1 hok j (h5 ▸ h3)
    · exfalso
      have h5 := Sp.scale (-1 / y) h3
      have h6 := (P_fix h (x - 1 + j / y)).2 ⟨hok, h0, h1, by
        have e : (fun i => ev1 v.toNat i + -1 * kv (heldG z0) (x - 1 + j / y) i) = fun i => (-1 / y) * a i := by
          funext i
          have h7 := congrFun h4 i
          by_cases hi : i = heldG z0
          · simp only [kv, if_pos hi] at h7 ⊢; grind
          · simp only [kv, if_neg hi] at h7 ⊢; grind
        rw [e]; exact h5⟩
      rw [hf] at h6; cases h6
theorem oks8 {z0 : Int} {cs : List CR} (hs : ∀ c ∈ cs, SmC 150 c) (hz : z0 ≤ 8) : OkS z0 11600000 cs := by
  refine ⟨fun c hc => (hs c hc).mono (by decide), fun c hc h => OvC.mono (ovC_of (hs c hc) (hs c hc).1 h) (by omega), ?_, by decide⟩
  have h1 := bnd_8 (t := 11600000) (heldG_12 (m := 8) hz)
  omega
theorem fx_fit {z0 v : Int} {L : List Vec} {rs : List (Ts × Rat)} {ok : Bool} {x : Rat} (h : PInv (heldG z0) 22651 L rs ok) (hz : z0 ≤ 8) (hx : x = (fixT z0 v rs ok).getD 0) : Fit (-x) 5799426 ∧ Fit (-x + (((1 : Int)) : Rat)) 5799990 := by
  have h1 : Fit x 5799426 := by
    rw [hx]; exact (P_fixfit h).mono (by have h1 := bnd_8 (t := 22651) (heldG_12 (m := 8) hz); omega)
  exact ⟨h1.neg, (Fit.add h1.neg (Fit.one (c := 2) (by decide))).mono (by decide)⟩
theorem fx_ov {n : Nat} {v : Int} {x : Rat} (h : Fit x 5799990) : OvC n 11600000 (conT (fxC v x)) := by
  rw [conT_fx]
  exact OvC.mono (ovT_of (L := 5799990) (N := 1) (fun y hy => by
    rw [List.mem_singleton.1 hy]; exact Fit.one (by decide)) h (by simp)) (by decide)
theorem fx_sm {v : Int} {x : Rat} (h : Fit x 5799990) : SmC 1099511627776 (fxC v x) :=
  ⟨by show 1 ≤ 1099511627776; decide, ⟨Nat.le_trans h.1 (by decide), Nat.le_trans h.2 (by decide)⟩, fun t ht => by
    rw [List.mem_singleton.1 ht]
    exact ⟨Nat.le_trans (nf_sm2 (z := 1) (by decide)).1 (by decide), Nat.le_trans (nf_sm2 (z := 1) (by decide)).2 (by decide)⟩⟩
theorem oks_fx {z0 v : Int} {cs : List CR} {x : Rat} (hs : ∀ c ∈ cs, SmC 150 c) (hz : z0 ≤ 8) (h : Fit x 5799990) : OkS z0 11600000 (cs ++ [fxC v x]) := by
  have o := oks8 hs hz
  refine ⟨fun c hc => ?_, fun c hc hi => ?_, o.bn, o.t1⟩
  · rcases List.mem_append.1 hc with h9 | h9
    · exact o.sm c h9
    · rw [List.mem_singleton.1 h9]; exact fx_sm h
  · rcases List.mem_append.1 hc with h9 | h9
    · exact o.ov c h9 hi
    · rw [List.mem_singleton.1 h9]; exact fx_ov h

end Go.Proofs.Ytkjllbpfcokalaa
