/- Several texts in one. -/
import Derived.Test.YtdfnkbdnnflcpaaGreatRuD
import Derived.Test.YtdfnkbdnnflcpaaGreatDeG
import Derived.Test.YtdfnkbdnnflcpaaGreatL4K
section
namespace Go.Proofs.YtdfnkbdnnflcpaaGreat
open Go.RowKit
set_option linter.unusedVariables false
set_option linter.unusedSimpArgs false
set_option maxRecDepth 10000
def setAll (wa : List Int) (l : List Nat) : List Int := l.foldl (fun w i => w.set i (-1)) wa
theorem setAll_len (l : List Nat) : ∀ wa : List Int, (setAll wa l).length = wa.length := by
  induction l with
  | nil => intro wa; rfl
  | cons i r ih => intro wa; show (setAll (wa.set i (-1)) r).length = _; rw [ih]; simp
theorem set_get (wa : List Int) (i j : Nat) (hj : j < wa.length) : (wa.set i (-1)).getD j 0 = if j = i then -1 else wa.getD j 0 := by
  rw [List.getD_eq_getElem?_getD, List.getElem?_set]
  by_cases h : i = j
  · subst h; simp [hj]
  · rw [if_neg h, if_neg (fun e => h e.symm)]; simp [List.getD_eq_getElem?_getD]
theorem setAll_get (l : List Nat) : ∀ (wa : List Int) (j : Nat), j < wa.length → (setAll wa l).getD j 0 = if j ∈ l then -1 else wa.getD j 0 := by
  induction l with
  | nil => intro wa j hj; simp [setAll]
  | cons i r ih =>
    intro wa j hj
    show (setAll (wa.set i (-1)) r).getD j 0 = _
    rw [ih _ j (by simpa using hj), set_get wa i j hj]
    by_cases h1 : j ∈ r
    · simp [h1]
    · by_cases h2 : j = i <;> simp [h1, h2]
theorem ordF_ready (cs : List CR) (os : List Int) : ∀ (f : Nat) (wa : List Int) (k i : Nat), (ordF cs os f wa)[k]? = some i → rdW cs os (setAll wa ((ordF cs os f wa).take k)) i = true
  | 0, wa, k, i, h => by simp [ordF] at h
  | f + 1, wa, k, i, h => by
    rw [ordF] at h ⊢
    cases hf : (List.range os.length).find? (rdW cs os wa) with
    | none => rw [hf] at h; simp at h
    | some j =>
      rw [hf] at h
      cases k with
      | zero =>
        simp only [List.getElem?_cons_zero, Option.some.injEq] at h
        subst h
        exact (List.find?_range_eq_some.1 hf).1
      | succ k =>
        simp only [List.getElem?_cons_succ] at h
        have := ordF_ready cs os f _ k i h
        simpa [setAll] using this
theorem ordT_end (cs : List CR) (os : List Int) : ∀ (f : Nat) (wa : List Int), wa.length = os.length → pend wa < f → ∀ j, j < os.length → rdW cs os (setAll wa (ordF cs os f wa)) j = false
  | 0, wa, _, h => by omega
  | f + 1, wa, hl, h => by
    intro j hj
    rw [ordF]
    cases hf : (List.range os.length).find? (rdW cs os wa) with
    | none =>
      rw [List.find?_range_eq_none] at hf
      have := hf j (by simpa using hj)
      simpa [setAll] using this
    | some i =>
      rw [List.find?_range_eq_some] at hf
      have hi : i < os.length := by simpa using hf.2.1
      have h1 : wa.getD i 0 ≠ -1 := by
        have := hf.1
        unfold rdW at this
        simp only [Bool.and_eq_true, decide_eq_true_eq] at this
        exact this.1
      have h2 := pend_set h1 (by omega)
      exact ordT_end cs os f (wa.set i (-1)) (by simpa using hl) (by omega) j hj
theorem plan_spec {n : Nat} {cs : List CR} {os : List Int} (h : ChB (n : Int) cs os = true) :
    (∀ k i, (ordT cs os os)[k]? = some i → i < cs.length ∧ 0 ≤ os.getD i 0 ∧ i ∉ (ordT cs os os).take k ∧ ∀ t ∈ (cs.getD i c0R).ts, ∀ j, j < cs.length → j ≠ i → os.getD j 0 = t.v → j ∈ (ordT cs os os).take k) ∧
    (∀ i, i < cs.length → 0 ≤ os.getD i 0 → i ∈ ordT cs os os) := by
  obtain ⟨g1, g2, g3, g4, g5, g6⟩ := ChB_true h
  have hC := cho_of h
  have huniq : ∀ i j, i < cs.length → j < cs.length → 0 ≤ os.getD i 0 → os.getD i 0 = os.getD j 0 → i = j := fun i j hi hj h0 he => by
    rcases Nat.lt_trichotomy i j with hij | hij | hij
    · rcases (g5 j hj).2 with h11 | h11
      · omega
      · exact absurd he (h11.2 i hij)
    · exact hij
    · rcases (g5 i hi).2 with h11 | h11
      · omega
      · exact absurd he.symm (h11.2 j hij)
  constructor
  · intro k i hk
    obtain ⟨a1, a2, a3, a4⟩ := ordT_at (n := (n : Int)) g5 g4 hk
    have hr := ordF_ready cs os _ os k i hk
    unfold rdW at hr
    simp only [Bool.and_eq_true, decide_eq_true_eq, Bool.not_eq_true'] at hr
    obtain ⟨r1, r2⟩ := hr
    rw [setAll_get _ _ _ (by omega)] at r1
    refine ⟨a1, a3, fun hm => r1 (if_pos hm), fun t ht j hj hne he => ?_⟩
    have hv := isC_all a2 t ht
    have h3 := List.any_eq_false.1 r2 t ht
    simp only [Bool.and_eq_true, decide_eq_true_eq, not_and] at h3
    have hto : t.v ≠ os.getD i 0 := fun e => hne (huniq j i hj a1 (by omega) (by omega))
    have h4 := h3 hto
    by_cases hm : j ∈ (ordT cs os os).take k
    · exact hm
    · exfalso
      apply h4
      have h5 : (setAll os ((ordT cs os os).take k)).getD j 0 = t.v := by rw [setAll_get _ _ _ (by omega), if_neg hm, he]
      rw [← h5, ← getD_at (by rw [setAll_len]; omega)]
      exact List.getElem_mem _
  · have hend := ordT_end cs os (pend os + 1) os rfl (by omega)
    have step : ∀ i, i < cs.length → 0 ≤ os.getD i 0 → i ∉ ordT cs os os → ∃ j, j < cs.length ∧ 0 ≤ os.getD j 0 ∧ j ∉ ordT cs os os ∧ Eg (wsOf n cs) (outF os) i j := fun i hi h0 hno => by
      have hr := hend i (by omega)
      unfold rdW at hr
      rw [setAll_get _ _ _ (by omega)] at hr
      change (decide ((if i ∈ ordT cs os os then (-1 : Int) else os.getD i 0) ≠ -1) && _) = false at hr
      rw [if_neg hno, decide_eq_true (by omega), Bool.true_and, Bool.not_eq_false'] at hr
      obtain ⟨t, ht, h1⟩ := List.any_eq_true.1 hr
      simp only [Bool.and_eq_true, decide_eq_true_eq] at h1
      obtain ⟨h2, h3⟩ := h1
      have hv := isC_all (g5 i hi).1 t ht
      obtain ⟨j, hj, he⟩ := List.mem_iff_getElem.1 h3
      have hj2 : j < os.length := by rw [setAll_len] at hj; exact hj
      rw [getD_at hj, setAll_get _ _ _ hj2] at he
      change (if j ∈ ordT cs os os then (-1 : Int) else os.getD j 0) = t.v at he
      by_cases hm : j ∈ ordT cs os os
      · rw [if_pos hm] at he; omega
      · rw [if_neg hm] at he
        refine ⟨j, by omega, by omega, hm, vsOf (cs.getD i c0R), t.v.toNat, ?_, List.mem_map.2 ⟨t, ht, rfl⟩, ?_, ?_⟩
        · have h7 := (g5 i hi).1
          unfold wsOf
          rw [List.getElem?_map, List.getElem?_eq_getElem hi]
          have e : cs.getD i c0R = cs[i] := by simp [List.getD_eq_getElem?_getD, hi]
          rw [e] at h7 ⊢
          simp only [Option.map_some, wOf, if_pos h7]
        · rw [outF_some, List.getElem?_eq_getElem hj2, getD_at hj2]; congr 1; omega
        · intro e9
          have h8 := outF_some.1 e9
          rw [List.getElem?_eq_getElem (by omega), getD_at (by omega)] at h8
          injection h8 with h8
          omega
    have key : ∀ m i, i < cs.length → 0 ≤ os.getD i 0 → i ∉ ordT cs os os → hgt (wsOf n cs) (outF os) i < m → False := fun m => by
      induction m with
      | zero => intro i hi h0 hno hm; omega
      | succ m ih =>
        intro i hi h0 hno hm
        obtain ⟨j, j1, j2, j3, j4⟩ := step i hi h0 hno
        have := hgt_lt hC.F hC.T j4
        exact ih j j1 j2 j3 (by omega)
    intro i hi h0
    by_cases hm : i ∈ ordT cs os os
    · exact hm
    · exact (key _ i hi h0 hm (Nat.lt_succ_self _)).elim
end Go.Proofs.YtdfnkbdnnflcpaaGreat
end
section
namespace Go.Proofs.YtdfnkbdnnflcpaaGreat
open Go.RowKit
set_option linter.unusedVariables false
set_option linter.unusedSimpArgs false
set_option maxRecDepth 10000
theorem isT_once {n : Int} : ∀ {ts : List TR} {least : Int}, isT n least ts = true → ∀ {v : Int}, ts.any (fun t => decide (t.v = v)) = true →
    ∃ p t r, ts = p ++ t :: r ∧ t.v = v ∧ (∀ x ∈ p, x.v ≠ v) ∧ (∀ x ∈ r, x.v ≠ v) ∧ t.c.val ≠ 0
  | [], _, _, v, h => by cases h
  | t :: r, least, h, v, hv => by
    simp only [isT, Bool.and_eq_true, decide_eq_true_eq] at h
    obtain ⟨h1, h2, h3, h4, h5⟩ := h
    have lo : ∀ {ts : List TR} {least : Int}, isT n least ts = true → ∀ x ∈ ts, least ≤ x.v := fun {ts} => by
      induction ts with
      | nil => intro least _ x hx; cases hx
      | cons t r ih =>
        intro least h x hx
        simp only [isT, Bool.and_eq_true, decide_eq_true_eq] at h
        rcases List.mem_cons.1 hx with rfl | hx
        · exact h.1
        · have := ih h.2.2.2.2 x hx; omega
    by_cases e : t.v = v
    · refine ⟨[], t, r, rfl, e, (fun x hx => by cases hx), fun x hx => ?_, fun h8 => h4 ?_⟩
      · have := lo h5 x hx; omega
      · have h9 := QR.is_nf h3
        rw [h9, h8]
        show (toL (0 : Rat).num.natAbs).length = 0
        rw [show (0 : Rat).num = 0 from rfl]; simp [toL_zero]
    · rw [List.any_cons, decide_eq_false e, Bool.false_or] at hv
      obtain ⟨p, t', r', h6, h7, h8, h9, h10⟩ := isT_once h5 hv
      refine ⟨t :: p, t', r', by rw [h6]; rfl, h7, fun x hx => ?_, h9, h10⟩
      rcases List.mem_cons.1 hx with rfl | hx
      · exact e
      · exact h8 x hx
theorem atG_ext {a b : List QR} : ∀ {ts : List TR} {x : Rat}, (∀ t ∈ ts, valOf a t.v = valOf b t.v) → atG a ts x = atG b ts x
  | [], _, _ => rfl
  | t :: r, x, h => by
    rw [atG, atG, h t (by simp)]
    exact atG_ext (fun s hs => h s (by simp [hs]))
theorem atG_plus (a : List QR) : ∀ (ts : List TR) (x y : Rat), atG a ts (x + y) = atG a ts x + y
  | [], _, _ => rfl
  | t :: r, x, y => by
    rw [atG, atG, ← atG_plus a r]
    congr 1
    grind
theorem othT_split {p r : List TR} {t : TR} {v : Int} (ht : t.v = v) (hp : ∀ x ∈ p, x.v ≠ v) (hr : ∀ x ∈ r, x.v ≠ v) : othT (p ++ t :: r) v = p ++ r := by
  have e : ∀ {l : List TR}, (∀ x ∈ l, x.v ≠ v) → l.filter (fun t => decide (t.v ≠ v)) = l := fun {l} h => List.filter_eq_self.2 (fun x hx => decide_eq_true (h x hx))
  unfold othT
  rw [List.filter_append, e hp, List.filter_cons, if_neg (by simp [ht]), e hr]
theorem byQ_split {p r : List TR} {t : TR} {v : Int} (ht : t.v = v) (hp : ∀ x ∈ p, x.v ≠ v) (hr : ∀ x ∈ r, x.v ≠ v) : byQ (p ++ t :: r) v = t.c := by
  have e : ∀ (l : List TR) (b : QR), (∀ x ∈ l, x.v ≠ v) → l.foldl (fun b t => if t.v = v then t.c else b) b = b := fun l => by
    induction l with
    | nil => intro b _; rfl
    | cons s l ih => intro b h; rw [List.foldl_cons, if_neg (h s (by simp))]; exact ih b (fun x hx => h x (by simp [hx]))
  unfold byQ
  rw [List.foldl_append, List.foldl_cons, if_pos ht, e r _ hr]
theorem told_holds {c : CR} {n v : Int} {a b : List QR} (hc : isC c n = true) (hv : hasV c v = true) (h1 : valOf b v = toldV c v a) (h2 : ∀ t ∈ c.ts, t.v ≠ v → valOf b t.v = valOf a t.v) : atG b c.ts (QR.val c.k) = 0 := by
  have h3 : isT n 0 c.ts = true := by
    unfold isC at hc
    simp only [Bool.and_eq_true, decide_eq_true_eq] at hc
    exact hc.2.2.2
  obtain ⟨p, t, r, e1, e2, e3, e4, e5⟩ := isT_once h3 hv
  have e6 : atG b (p ++ r) (QR.val c.k) = atG a (p ++ r) (QR.val c.k) := atG_ext (fun s hs => by
    rcases List.mem_append.1 hs with hs | hs
    · exact h2 s (by rw [e1]; simp [hs]) (e3 s hs)
    · exact h2 s (by rw [e1]; simp [hs]) (e4 s hs))
  have e7 : atG b c.ts (QR.val c.k) = atG b (p ++ r) (QR.val c.k) + t.c.val * valOf b v := by
    rw [e1, atG_app, atG, atG_plus, ← atG_app, e2]
  rw [e7, e6, h1]
  unfold toldV
  rw [e1, othT_split e2 e3 e4, byQ_split e2 e3 e4]
  show _ + t.c.val * (-(atG a (p ++ r) (QR.val c.k)) / t.c.val) = 0
  have e8 : t.c.val ≠ 0 := e5
  generalize t.c.val = q at e8
  generalize atG a (p ++ r) (QR.val c.k) = s
  have e9 : q * (-s / q) = -s := by
    rw [Rat.div_def, ← Rat.mul_assoc, Rat.mul_comm q (-s), Rat.mul_assoc, Rat.mul_inv_cancel _ e8, Rat.mul_one]
  rw [e9]; grind
theorem run_far (cs : List CR) (os : List Int) : ∀ (L : List Nat) (vs : List QR), (runL cs os L vs).2.2 = 0 → (runL cs os L vs).1.length = vs.length ∧ ∀ v : Nat, (∀ i ∈ L, (os.getD i 0).toNat ≠ v) → (runL cs os L vs).1[v]? = vs[v]?
  | [], vs, _ => ⟨rfl, fun v _ => rfl⟩
  | i :: L, vs, h => by
    rw [runL] at h ⊢
    by_cases hl : largeB (toldV (cs.getD i c0R) (os.getD i 0) vs) = true
    · rw [if_pos hl] at h; exact absurd h (by show ¬ ((8 : Int) = 0); decide)
    · rw [if_neg hl] at h ⊢
      obtain ⟨h1, h2⟩ := run_far cs os L _ h
      refine ⟨by rw [h1]; simp, fun v hv => ?_⟩
      rw [h2 v (fun j hj => hv j (by simp [hj])), List.getElem?_set_ne (hv i (by simp))]
theorem run_app (cs : List CR) (os : List Int) : ∀ (P R : List Nat) (vs : List QR), (runL cs os (P ++ R) vs).2.2 = 0 → ∃ vs1, runL cs os (P ++ R) vs = runL cs os R vs1 ∧ vs1.length = vs.length
  | [], R, vs, _ => ⟨vs, rfl, rfl⟩
  | i :: P, R, vs, h => by
    rw [List.cons_append, runL] at h ⊢
    by_cases hl : largeB (toldV (cs.getD i c0R) (os.getD i 0) vs) = true
    · rw [if_pos hl] at h; exact absurd h (by show ¬ ((8 : Int) = 0); decide)
    · rw [if_neg hl] at h ⊢
      obtain ⟨vs1, h1, h2⟩ := run_app cs os P R _ h
      exact ⟨vs1, h1, by rw [h2]; simp⟩
theorem runZ_yes {cs : List CR} {os : List Int} {val : List QR} (h : (runZ cs os val).2.2 = 0) : ChB (val.length : Int) cs os = true ∧ runZ cs os val = runL cs os (ordT cs os os) (nvL val) := by
  unfold runZ at h ⊢
  by_cases hc : ChB (val.length : Int) cs os = true
  · rw [if_pos hc]; exact ⟨hc, rfl⟩
  · rw [if_neg hc] at h; exact absurd h (by show ¬ ((1 : Int) = 0); decide)
theorem valOf_at {a b : List QR} {v : Int} (h0 : 0 ≤ v) (h : a[v.toNat]? = b[v.toNat]?) : valOf a v = valOf b v := by
  unfold valOf
  rw [if_neg (by omega), if_neg (by omega), h]
theorem run_len {cs : List CR} {os : List Int} {val : List QR} (h : (runZ cs os val).2.2 = 0) : (runZ cs os val).1.length = val.length := by
  obtain ⟨_, h2⟩ := runZ_yes h
  rw [h2] at h ⊢
  rw [(run_far cs os _ _ h).1, nvL_len]
theorem run_stays {cs : List CR} {os : List Int} {val : List QR} (h : (runZ cs os val).2.2 = 0) {v : Nat} (hv : ∀ i, i < cs.length → os.getD i 0 ≠ (v : Int)) : (runZ cs os val).1[v]? = (nvL val)[v]? := by
  obtain ⟨hc, h2⟩ := runZ_yes h
  rw [h2] at h ⊢
  refine (run_far cs os _ _ h).2 v (fun i hi e => ?_)
  obtain ⟨k, hk, rfl⟩ := List.mem_iff_getElem.1 hi
  obtain ⟨p1, p2, _⟩ := (plan_spec hc).1 k _ (List.getElem?_eq_getElem hk)
  exact hv _ p1 (by omega)
theorem toldV_ext {c : CR} {v : Int} {a b : List QR} (h : ∀ t ∈ c.ts, t.v ≠ v → valOf a t.v = valOf b t.v) : toldV c v a = toldV c v b := by
  unfold toldV
  rw [atG_ext (fun t ht => by
    unfold othT at ht
    obtain ⟨h1, h2⟩ := List.mem_filter.1 ht
    exact h t h1 (of_decide_eq_true h2))]
theorem run_fix {cs : List CR} {os : List Int} {val : List QR} (h : (runZ cs os val).2.2 = 0) {i : Nat} (hi : i < cs.length) (h0 : 0 ≤ os.getD i 0) : largeB (toldV (cs.getD i c0R) (os.getD i 0) (runZ cs os val).1) = false ∧ (runZ cs os val).1[(os.getD i 0).toNat]? = some (QR.nf (toldV (cs.getD i c0R) (os.getD i 0) (runZ cs os val).1)) ∧ isC (cs.getD i c0R) (val.length : Int) = true ∧ hasV (cs.getD i c0R) (os.getD i 0) = true := by
  obtain ⟨hc, h2⟩ := runZ_yes h
  rw [h2] at h ⊢
  obtain ⟨_, _, _, hol, h5, _⟩ := ChB_true hc
  obtain ⟨c1, c2⟩ := h5 i hi
  have c3 : hasV (cs.getD i c0R) (os.getD i 0) = true := by
    rcases c2 with c2 | c2
    · omega
    · exact c2.1
  have c4 := hasV_lt c1 c3
  obtain ⟨k, hk, he⟩ := List.mem_iff_getElem.1 ((plan_spec hc).2 i hi h0)
  have hki : (ordT cs os os)[k]? = some i := by rw [List.getElem?_eq_getElem hk, he]
  obtain ⟨p1, p2, p3, p4⟩ := (plan_spec hc).1 k i hki
  have hpl : ordT cs os os = (ordT cs os os).take k ++ i :: (ordT cs os os).drop (k + 1) := by
    rw [← he, ← List.drop_eq_getElem_cons hk, List.take_append_drop]
  have later : ∀ j ∈ (ordT cs os os).drop (k + 1), j ∉ (ordT cs os os).take k ∧ j ≠ i ∧ j < cs.length ∧ 0 ≤ os.getD j 0 := fun j hj => by
    obtain ⟨m, hm, hme⟩ := List.mem_iff_getElem.1 hj
    rw [List.length_drop] at hm
    rw [List.getElem_drop] at hme
    have hjm : (ordT cs os os)[k + 1 + m]? = some j := by rw [List.getElem?_eq_getElem (by omega), hme]
    obtain ⟨q1, q2, q3, _⟩ := (plan_spec hc).1 _ _ hjm
    refine ⟨fun h9 => q3 ?_, fun h9 => q3 ?_, q1, q2⟩
    · exact List.mem_of_mem_take (i := k) (by rw [List.take_take, Nat.min_eq_left (by omega)]; exact h9)
    · rw [h9, List.mem_take_iff_getElem]; exact ⟨k, by omega, he⟩
  have one : ∀ j, j < cs.length → 0 ≤ os.getD j 0 → j ≠ i → os.getD j 0 ≠ os.getD i 0 := fun j hj hj0 hji e => by
    rcases Nat.lt_or_ge j i with h9 | h9
    · rcases c2 with c2 | c2
      · omega
      · exact c2.2 j h9 e
    · rcases (h5 j hj).2 with c5 | c5
      · omega
      · exact c5.2 i (by omega) e.symm
  generalize hP : (ordT cs os os).take k = P at hpl later p4
  generalize hR : (ordT cs os os).drop (k + 1) = R at hpl later
  rw [hpl] at h ⊢
  obtain ⟨vs1, r1, r2⟩ := run_app cs os _ _ _ h
  rw [r1] at h ⊢
  rw [runL] at h ⊢
  by_cases hl : largeB (toldV (cs.getD i c0R) (os.getD i 0) vs1) = true
  · rw [if_pos hl] at h; exact absurd h (by show ¬ ((8 : Int) = 0); decide)
  · rw [if_neg hl] at h ⊢
    obtain ⟨f1, f2⟩ := run_far cs os _ _ h
    have g1 : (runL cs os R (vs1.set (os.getD i 0).toNat (QR.nf (toldV (cs.getD i c0R) (os.getD i 0) vs1)))).1[(os.getD i 0).toNat]? = some (QR.nf (toldV (cs.getD i c0R) (os.getD i 0) vs1)) := by
      rw [f2 _ (fun j hj e => by
        obtain ⟨l1, l2, l3, l4⟩ := later j hj
        exact one j l3 l4 l2 (by omega)), List.getElem?_set_self (by rw [r2, nvL_len]; omega)]
    have g2 : toldV (cs.getD i c0R) (os.getD i 0) (runL cs os R (vs1.set (os.getD i 0).toNat (QR.nf (toldV (cs.getD i c0R) (os.getD i 0) vs1)))).1 = toldV (cs.getD i c0R) (os.getD i 0) vs1 := toldV_ext (fun t ht hne => by
      have ht0 := isC_all c1 t ht
      refine valOf_at ht0.1 ?_
      rw [f2 _ (fun j hj e => by
        obtain ⟨l1, l2, l3, l4⟩ := later j hj
        exact l1 (p4 t ht j l3 l2 (by omega))), List.getElem?_set_ne (by omega)])
    rw [g2]
    exact ⟨by simpa using hl, g1, c1, c3⟩
theorem run_holds {cs : List CR} {os : List Int} {val : List QR} (h : (runZ cs os val).2.2 = 0) {i : Nat} (hi : i < cs.length) (h0 : 0 ≤ os.getD i 0) : atG (runZ cs os val).1 (cs.getD i c0R).ts (QR.val (cs.getD i c0R).k) = 0 := by
  obtain ⟨g1, g2, g3, g4⟩ := run_fix h hi h0
  exact told_holds (a := (runZ cs os val).1) g3 g4 (by rw [valOf_some h0 g2, QR.nf_val]) (fun t _ _ => rfl)
theorem chb_set {z : Int} {cs : List CR} {os : List Int} (h : ChB z cs os = true) : ChB z cs (setZ z cs os) = true := by
  obtain ⟨h1, h2, _⟩ := ChB_true h
  obtain ⟨n, rfl⟩ : ∃ n : Nat, z = (n : Int) := ⟨z.toNat, by omega⟩
  have e : setZ (n : Int) cs os = setlZ n cs os := by unfold setZ; rw [if_pos h, Int.toNat_natCast]
  rw [e]
  exact ChoZ.back h (setlZ_cho (ChoZ.of h)).c
theorem out_lt {n i : Nat} {cs : List CR} {os : List Int} (h : ChB (n : Int) cs os = true) (hi : i < cs.length) (h0 : ¬ os.getD i 0 < 0) : ∃ v : Nat, os.getD i 0 = (v : Int) ∧ v < n ∧ who os v = some i := by
  obtain ⟨_, _, _, hl, h5, _⟩ := ChB_true h
  obtain ⟨h6, h7⟩ := h5 i hi
  rcases h7 with h7 | h7
  · omega
  · have h8 := hasV_lt h6 h7.1
    refine ⟨(os.getD i 0).toNat, by omega, by omega, who_at (by omega) (by omega) (fun j hj => by have := h7.2 j hj; omega)⟩
def toldS (os : List Int) (i v : Nat) : Prop := ∃ j, j < i ∧ os.getD j 0 = (v : Int)
instance (os : List Int) (i v : Nat) : Decidable (toldS os i v) := by unfold toldS; infer_instance
theorem toldS_no {os : List Int} {i : Nat} (h : os.getD i 0 < 0) (v : Nat) : toldS os (i + 1) v ↔ toldS os i v := by
  constructor
  · rintro ⟨j, h1, h2⟩
    rcases Nat.lt_or_ge j i with h3 | h3
    · exact ⟨j, h3, h2⟩
    · have : j = i := by omega
      subst this; omega
  · rintro ⟨j, h1, h2⟩; exact ⟨j, by omega, h2⟩
theorem toldS_yes {os : List Int} {i x : Nat} (h : os.getD i 0 = (x : Int)) (v : Nat) : toldS os (i + 1) v ↔ v = x ∨ toldS os i v := by
  constructor
  · rintro ⟨j, h1, h2⟩
    rcases Nat.lt_or_ge j i with h3 | h3
    · exact .inr ⟨j, h3, h2⟩
    · have : j = i := by omega
      subst this; left; omega
  · rintro (rfl | ⟨j, h1, h2⟩)
    · exact ⟨i, by omega, h⟩
    · exact ⟨j, by omega, h2⟩
theorem toldB_set {os : List Int} {n i x : Nat} {bs : List Bool} (hl : n = bs.length) (hbs : ∀ v, v < n → bs.getD v false = decide (toldS os i v)) (h : os.getD i 0 = (x : Int)) (hx : x < n) : ∀ v, v < n → (bs.set x true).getD v false = decide (toldS os (i + 1) v) := fun v hv => by
  rw [List.getD_eq_getElem?_getD, List.getElem?_set]
  by_cases e : x = v
  · subst e
    rw [if_pos rfl, if_pos (by omega)]
    exact (decide_eq_true ((toldS_yes h _).2 (.inl rfl))).symm
  · rw [if_neg e, ← List.getD_eq_getElem?_getD, hbs v hv, decide_eq_decide, toldS_yes h]
    exact ⟨.inr, fun h9 => h9.resolve_left (fun h8 => e h8.symm)⟩
theorem stay_eq {cs : List CR} {os : List Int} {val : List QR} (h : (runZ cs os val).2.2 = 0) {v : Nat} (hv : ¬ toldS os cs.length v) {a b : QR} (ha : (runZ cs os val).1[v]? = some a) (hb : val[v]? = some b) : a.val = b.val := by
  have h1 := run_stays h (v := v) (fun i hi e => hv ⟨i, hi, e⟩)
  rw [ha] at h1
  unfold nvL at h1
  rw [List.getElem?_map, hb] at h1
  simp only [Option.map_some, Option.some.injEq] at h1
  rw [h1, QR.nf_val]
end Go.Proofs.YtdfnkbdnnflcpaaGreat
end
section
namespace Go.Proofs.YtdfnkbdnnflcpaaGreat
open Go.RowKit
set_option linter.unusedVariables false
set_option linter.unusedSimpArgs false
set_option maxRecDepth 10000
theorem c_Holds10 {M : List Nat} {w : World} {c : CR} {vt vn vd : Value} (ht : Lay rdT M w vt c.ts) (h : U32 M w vn c.k.n) (k : U32 M w vd c.k.d) {N8 : List Nat} {vv : Value} {val : List QR} (hv : Lay rdQ N8 w vv val) (hbd : Bd M w) (hsm : SmC 10000 c) (hsv : ∀ q ∈ val, SmQ 10000 q) :
    Ret Tryz.prog 10 #[.agg #[.int .i64 c.st, vt, .bool c.k.s, vn, vd], vv] w (fun r w' => r = .bool (decide (atG val c.ts (QR.val c.k) = 0)) ∧ Mod [] w w') := by
 obtain ⟨T9, t9, rfl⟩ := ht.form
 obtain ⟨A9, c9, rfl⟩ := h.form
 obtain ⟨B9, e9, rfl⟩ := k.form
 refine Ret.of (vs := [.agg #[.int .i64 c.st, .slice T9 c.ts.length t9, .bool c.k.s, .slice A9 c.k.n.length c9, .slice B9 c.k.d.length e9], vv]) (n := 9) Tryz.func10 rfl rfl rfl rfl ?_
 have hm0 : Mod [] w w := Mod.refl _ _
 refine W.seq <| W.region <| L.box rfl rfl ?_
 intro g2 w1 hN2
 replace ht := ht.new hN2
 replace h := h.new hN2
 replace k := k.new hN2
 replace hv := hv.new hN2
 replace hbd := hbd.new hN2
 replace hm0 := hm0.trans (hN2.mod.mono (by simp))
 have hb2 := hN2.blk
 clear hN2
 refine L.v (R1.assign rfl) rfl <| L.nil <| X.seq <| W.seq <| W.region <| L.v (R1.loadBox rfl hb2 tyG42) rfl <| L.v (R1.move rfl) rfl <| L.call rfl (c_ref8_At ht h k hv hbd hsm hsv) rfl ?_
 rintro _ w2 ⟨⟨A7, c7, B7, e7, rfl, hn7, hd7⟩, hm2⟩
 replace ht := ht.gr hm2
 replace h := h.gr hm2
 replace k := k.gr hm2
 replace hv := hv.gr hm2
 replace hbd := hbd.gr hm2
 replace hm0 := hm0.trans hm2
 clear hm2
 have F7 := at_fit ht h k hv hsm hsv
 refine L.call rfl (c_ref2_Zero (q := (atG val c.ts (QR.val c.k))) (rv_toL _) hn7 hd7 hbd (Nat.le_trans F7.1 (by decide)) (Nat.le_trans F7.2 (by decide))) rfl ?_
 rintro _ w3 ⟨rfl, hm3⟩
 replace hm0 := hm0.trans hm3
 clear hm3
 refine L.v (R1.assign rfl) rfl <| L.nil <| X.seq <| W.ret <| X.result1 rfl (.tmp rfl .nil) ?_
 exact ⟨rfl, hm0⟩
theorem c_r13_SettleL {M : List Nat} {w : World} {vl vo : Value} {cs : List CR} {os : List Int} {z0 : Int} (hL : Lay rdC M w vl cs) (hO : Lay rdI M w vo os) (hbd : Bd M w) (hsm : ∀ c ∈ cs, SmC 1099511627776 c) (hol : os.length ≤ 1000000) : Ret Tryz.prog 6 #[vl, vo, .int .i64 z0] w (fun r w' => ∃ v, r = .tuple #[v, .bool (ChB z0 cs os)] ∧ Lay rdI [] w' v (setZ z0 cs os) ∧ Mod [] w w') := (c_r13_Settle hL hO hbd hsm hol).mono fun r w' ⟨v, h1, h2, h3⟩ => ⟨v, h1, Lay.of_Z h2 (by simp), h3⟩
set_option maxHeartbeats 1000000 in
theorem c_RunHolds {w : World} {vl vv : Value} {cs : List CR} {val : List QR} (hL : Lay rdC [] w vl cs) (hv : Lay rdQ [] w vv val) (hb : szCs cs ≤ 4194304) (hbv : szQs val ≤ 4194304) :
    Ret Tryz.prog 3 #[vl, vv] w (fun r w' => r = .bool true ∧ Mod [] w w') := by
 have hbd : Bd [] w := fun m hm => by cases hm
 obtain ⟨TL, tL, rfl⟩ := hL.form
 obtain ⟨TV, tV, rfl⟩ := hv.form
 have hmaxL := hL.max; unfold maxLen at hmaxL
 have hmaxV := hv.max; unfold maxLen at hmaxV
 refine Ret.of (vs := [.slice TL cs.length tL, .slice TV val.length tV]) (n := 141) Tryz.func3 rfl rfl rfl rfl ?_
 have hm0 : Mod [] w w := Mod.refl _ _
 refine W.seq <| W.region <| L.v (R1.assign rfl) rfl <| L.nil <| X.seq <| W.seq <| W.region <| L.v (R1.move rfl) rfl <| L.v (R1.lenLay rfl hv tyS23) rfl <| L.v (R1.assign rfl) rfl <| L.nil ?_
 refine X.seq <| W.seq <| W.seq <| W.region <| L.v (R1.move rfl) rfl <| L.call rfl (c_heavy_pantographlaw14 hL hb) rfl ?_
 rintro _ w1 ⟨rfl, hm1⟩
 replace hL := hL.gr hm1
 replace hv := hv.gr hm1
 replace hbd := hbd.gr hm1
 replace hm0 := hm0.trans hm1
 clear hm1
 refine L.v (R1.move rfl) rfl ?_
 cases hgd23 : (decide (150 < szCs cs))
 ·
  have hcc_ := hgd23
  refine L.on rfl rfl rfl (R1.move rfl) rfl <| L.callOn rfl rfl rfl rfl (c_many_pantographlaw14 hv hbv) rfl ?_
  rintro _ w2 ⟨b25, rfl, hb25, hm2⟩
  replace hL := hL.gr hm2
  replace hv := hv.gr hm2
  replace hbd := hbd.gr hm2
  replace hm0 := hm0.trans hm2
  clear hm2
  refine L.v (R1.pickF rfl rfl) rfl <| L.v (R1.move rfl) rfl ?_
  cases hgd27 : b25
  ·
   have hcc_ := hgd27
   refine L.on rfl rfl rfl (R1.move rfl) rfl <| L.on rfl rfl rfl (R1.lenLay rfl hL tyS22) rfl <| L.on rfl rfl rfl ((R1.gt rfl rfl).asB (c := (decide ((12 : Int) < (cs.length : Int)))) (rfl)) rfl <| L.v (R1.pickF rfl rfl) rfl <| L.v (R1.move rfl) rfl ?_
   cases hgd32 : (decide ((12 : Int) < (cs.length : Int)))
   ·
    have hcc_ := hgd32
    refine L.on rfl rfl rfl (R1.move rfl) rfl <| L.on rfl rfl rfl ((R1.lt rfl rfl).asB (c := (decide ((val.length : Int) < 1))) (rfl)) rfl <| L.v (R1.pickF rfl rfl) rfl <| L.nil <| X.seq <| W.cond rfl ?_ ?_
    ·
     intro hc35
     have hcc_ := hc35
     refine W.seq <| W.region <| L.v (R1.assign rfl) rfl <| L.nil <| X.seq <| W.ret <| X.thenRet <| X.result1 rfl (.tmp rfl .nil) ?_
     exact ⟨rfl, hm0⟩
    ·
     intro hc35
     have hcc_ := hc35
     have hsm := sm150 (by simpa using hgd23)
     obtain ⟨hsv, hvl⟩ := (by first | exact hb25 rfl | exact hb25 hgd27 : (∀ q ∈ val, SmQ 3 q) ∧ val.length ≤ 100)
     have hsmL : ∀ c ∈ cs, SmC 1099511627776 c := fun c hc => smC_up (hsm c hc) (by decide)
     have hcl : cs.length ≤ 12 := by have h9 := of_decide_eq_false hgd32; omega
     refine W.skip <| X.seq <| W.seq <| W.region <| L.v (R1.assign rfl) rfl <| L.nil <| X.seq <| W.seq <| W.seq <| W.region <| L.v (R1.assign rfl) rfl ?_
     refine L.nil <| X.seq <| W.block <| W.loop (ι := Nat × Value) (fun (i, u) => [(0, .slice TL cs.length tL), (1, .slice TV val.length tV), (5, .int .i64 ((val.length : Nat) : Int)), (6, u), (7, .int .i64 ((i : Nat) : Int))]) (fun (i, u) w_ => Lay rdC (ownL u ++ []) w_ (.slice TL cs.length tL) cs ∧ Lay rdQ (ownL u ++ []) w_ (.slice TV val.length tV) val ∧ w_.ownsRow w.heap.size 3 1 u i (intsZ (List.replicate i (-1))) ∧ i ≤ cs.length ∧ Bd (ownL u ++ []) w_ ∧ Mod [] w w_) (fun (i, u) => cs.length - i) (0, .slice none 0 0) ?_ ?_ ?_
     · exact ⟨rfl, rfl, rfl, rfl, rfl, trivial⟩
     ·
      exact ⟨hL.sub (by intro b hb; first | exact hb | (simp only [mq] at hb ⊢; grind)), hv.sub (by intro b hb; first | exact hb | (simp only [mq] at hb ⊢; grind)), own_nil _ _ _ _, Nat.zero_le _, hbd.sub (by intro b hb; first | exact hb | (simp only [mq] at hb ⊢; grind)), hm0⟩
     ·
      rintro ⟨i, u⟩ w3 ⟨hL, hv, ho, hi, hbd, hm0⟩
      refine W.seq <| W.seq <| W.region <| L.v (R1.move rfl) rfl <| L.v (R1.move rfl) rfl <| L.v (R1.lenLay rfl hL tyS22) rfl <| L.v (R1.lt rfl rfl) rfl <| L.nil <| X.seq <| W.cond rfl ?_ ?_
      ·
       intro hc39
       try simp only [bq, ne_eq] at hc39
       refine W.skip <| X.seq <| W.seq <| W.block <| W.region <| L.v (R1.move rfl) rfl <| L.build1 rfl rfl tyS26 tyZ3 rfl ?_
       intro g43 w4 hN43
       replace hL := hL.gr hN43.mod
       replace hv := hv.gr hN43.mod
       replace ho := own_gr ho hN43.mod (by simp)
       replace hbd := hbd.gr hN43.mod
       replace hm0 := hm0.trans hN43.mod
       have hrow : Sl [] w4 1 (.slice (some ⟨g43, 0, none⟩) 1 1) 1 [.int .i64 (-1)] := Sl.of_blk hN43.blk 0 (Nat.le_refl _) (by decide) rfl (by simp) (fun j hj => by simp)
       clear hN43
       refine L.append rfl rfl ho hrow (by simp [Value.oneCell']) tyS26 tyZ3 (by omega) (by unfold maxLen; omega) hm0.size rfl ?_
       intro v44 w5 ho44' hG44
       replace hL := hL.grew2 hG44 (by first | exact mem_own | (intro b hb; simp [hb]))
       replace hv := hv.grew2 hG44 (by first | exact mem_own | (intro b hb; simp [hb]))
       replace hbd := hbd.grew2 hG44 (by first | exact mem_own | (intro b hb; simp [hb]))
       replace hm0 := Mod.oldOwn hm0 hG44.mod ho
       replace ho := ho44'; clear ho44'
       clear hG44
       refine L.v (R1.assign rfl) rfl <| L.nil <| X.blockEnd <| X.seq <| W.region <| L.v (R1.move rfl) rfl <| L.v (R1.addI (b := 1) rfl rfl (by omega)) rfl <| L.v (R1.assign rfl) rfl <| L.nil <| X.next (i + 1, v44) ?_ ?_ ?_
       · exact ⟨rfl, rfl, rfl, rfl, rfl, trivial⟩
       ·
        exact ⟨hL.sub (by intro b hb; first | exact hb | (simp only [mq] at hb ⊢; grind)), hv.sub (by intro b hb; first | exact hb | (simp only [mq] at hb ⊢; grind)), own_congr ho rfl (by simp [intsZ, List.replicate_succ']), by omega, hbd.sub (by intro b hb; first | exact hb | (simp only [mq] at hb ⊢; grind)), hm0⟩
       · first | omega | (dsimp only; omega)
      ·
       intro hc39
       try simp only [bq, ne_eq] at hc39
       obtain rfl : i = cs.length := by omega
       have hO := Lay.of_Z (M := []) ho (by simp)
       have hol : (List.replicate cs.length (-1)).length ≤ 1000000 := by rw [List.length_replicate]; omega
       refine W.exit <| X.thenExit <| X.nextExit <| X.here <| X.seq <| W.seq <| W.region <| L.v (R1.move rfl) rfl <| L.v (R1.move rfl) rfl <| L.v (R1.move rfl) rfl <| L.call rfl (c_r13_SettleL (hL.sub (M' := []) (fun b hb => by cases hb)) (hO.sub (M' := []) (fun b hb => by cases hb)) (hbd.sub (M' := []) (fun b hb => by cases hb)) hsmL hol) rfl ?_
       rintro _ w6 ⟨v49, rfl, hR, hm6⟩
       replace hL := hL.gr hm6
       replace hv := hv.gr hm6
       replace hbd := hbd.gr hm6
       replace hm0 := hm0.trans hm6
       clear hm6
       refine L.v (R1.move rfl) rfl <| L.v (R1.extract rfl rfl) rfl <| L.v (R1.extract rfl rfl) rfl <| L.v (R1.assign rfl) rfl <| L.v (R1.assign rfl) rfl <| L.nil <| X.seq <| W.seq <| W.seq <| W.region <| L.v (R1.move rfl) rfl ?_
       refine L.v (R1.not rfl) rfl <| L.nil <| X.seq <| W.cond rfl ?_ ?_
       ·
        intro hc53
        simp only [Bool.not_eq_true', Bool.not_eq_false'] at hc53
        refine W.seq <| W.region <| L.call rfl (c_known14) rfl ?_
        rintro _ w7 ⟨rfl, hm7⟩
        replace hm0 := hm0.trans hm7
        clear hm7
        refine L.v (R1.assign rfl) rfl <| L.nil <| X.seq <| W.ret <| X.thenRet <| X.result1 rfl (.tmp rfl .nil) ?_
        exact ⟨rfl, hm0⟩
       ·
        intro hc53
        simp only [Bool.not_eq_true', Bool.not_eq_false'] at hc53
        have hCh := chb_set hc53
        have hC := ChoZ.of hCh
        have hol2 := hC.len
        refine W.skip <| X.seq <| W.seq <| W.region <| L.v (R1.move rfl) rfl <| L.v (R1.move rfl) rfl <| L.v (R1.move rfl) rfl <| L.call rfl (c_Run (hL.sub (M' := []) (fun b hb => by cases hb)) (hR.sub (M' := []) (fun b hb => by cases hb)) (hv.sub (M' := []) (fun b hb => by cases hb)) (hbd.sub (M' := []) (fun b hb => by cases hb)) hsm hsv) rfl ?_
        rintro _ w8 ⟨v59, rfl, hQ, hm8⟩
        replace hL := hL.gr hm8
        replace hv := hv.gr hm8
        replace hbd := hbd.gr hm8
        replace hm0 := hm0.trans hm8
        replace hR := hR.gr hm8
        clear hm8
        refine L.v (R1.move rfl) rfl <| L.v (R1.extract rfl rfl) rfl <| L.v (R1.extract rfl rfl) rfl <| L.v (R1.extract rfl rfl) rfl <| L.v (R1.assign rfl) rfl <| L.v (R1.assign rfl) rfl <| L.v (R1.assign rfl) rfl <| L.nil <| X.seq <| W.seq <| W.seq ?_
        refine W.region <| L.v (R1.move rfl) rfl <| L.v ((R1.ne rfl rfl).asB (c := (decide ((runZ cs (setZ (val.length : Int) cs (List.replicate cs.length (-1))) val).2.2 ≠ 0))) (rfl)) rfl <| L.nil <| X.seq <| W.cond rfl ?_ ?_
        ·
         intro hc64
         try simp only [bq, ne_eq] at hc64
         refine W.seq <| W.region <| L.v (R1.move rfl) rfl <| L.v (R1.move rfl) rfl <| L.v (R1.move rfl) rfl <| L.call rfl (c_r14_Run (hL.sub (M' := []) (fun b hb => by cases hb)) (hR.sub (M' := []) (fun b hb => by cases hb)) (hv.sub (M' := []) (fun b hb => by cases hb)) (hbd.sub (M' := []) (fun b hb => by cases hb)) hsm hsv) rfl ?_
         rintro _ w9 ⟨v69, rfl, hQ2, hm9⟩
         replace hm0 := hm0.trans hm9
         clear hm9
         refine L.v (R1.move rfl) rfl <| L.v (R1.extract rfl rfl) rfl <| L.v (R1.extract rfl rfl) rfl <| L.v (R1.extract rfl rfl) rfl <| L.v (R1.assign rfl) rfl <| L.v (R1.assign rfl) rfl <| L.v (R1.assign rfl) rfl <| L.nil <| X.seq <| W.seq <| W.region ?_
         refine L.v (R1.move rfl) rfl <| L.v (R1.move rfl) rfl <| L.v ((R1.eq rfl rfl).asB (c := true) (decide_eq_true rfl)) rfl <| L.v (R1.move rfl) rfl <| L.callOn rfl rfl rfl rfl (c_known14) rfl ?_
         rintro _ w10 ⟨rfl, hm10⟩
         replace hm0 := hm0.trans hm10
         clear hm10
         refine L.v (R1.pickT rfl rfl) rfl <| L.v (R1.assign rfl) rfl <| L.nil <| X.seq <| W.ret <| X.thenRet <| X.result1 rfl (.tmp rfl .nil) ?_
         exact ⟨rfl, hm0⟩
        ·
         intro hc64
         try simp only [bq, ne_eq] at hc64
         have hok : (runZ cs (setZ (val.length : Int) cs (List.replicate cs.length (-1))) val).2.2 = 0 := by simpa using hc64
         have hrl := run_len hok
         have hsZ := runZ_sm cs (setZ (val.length : Int) cs (List.replicate cs.length (-1))) hv hsv
         refine W.skip <| X.seq <| W.seq <| W.region <| L.v (R1.move rfl) rfl <| L.makeSlice (m := val.length) rfl rfl rfl rfl tyS35 tyZ4 (by omega) (by unfold maxLen; omega) rfl ?_
         intro g80 w11 hN80
         have hoT := own_madeB (B := w.heap.size) hN80 hm0.size (by unfold maxLen; omega)
         replace hL := hL.new hN80
         replace hv := hv.new hN80
         replace hbd := hbd.new hN80
         replace hm0 := hm0.trans (hN80.mod.mono (by simp))
         replace hR := hR.new hN80
         replace hQ := hQ.new hN80
         clear hN80
         obtain ⟨v80, hv_v80⟩ : ∃ v, v = Value.slice (some ⟨g80, 0, none⟩) val.length val.length := ⟨_, rfl⟩
         have hol_v80 : ownL v80 = [g80] := by rw [hv_v80]; rfl
         rw [← hv_v80] at hoT ⊢
         replace hL := hL.sub (of_cons hol_v80)
         replace hv := hv.sub (of_cons hol_v80)
         replace hbd := hbd.sub (of_cons hol_v80)
         replace hR := hR.sub (of_cons hol_v80)
         replace hQ := hQ.sub (of_cons hol_v80)
         clear hv_v80 hol_v80
         refine L.v (R1.assign rfl) rfl <| L.nil <| X.seq <| W.seq <| W.seq <| W.region <| L.v (R1.assign rfl) rfl <| L.nil <| X.seq <| W.block <| W.loop (ι := Nat × List Bool) (fun (i, bs) => [(0, .slice TL cs.length tL), (1, .slice TV val.length tV), (5, .int .i64 ((val.length : Nat) : Int)), (8, v49), (10, v59), (16, v80), (17, .int .i64 ((i : Nat) : Int))]) (fun (i, bs) w_ => Lay rdC (ownL v80 ++ []) w_ (.slice TL cs.length tL) cs ∧ Lay rdQ (ownL v80 ++ []) w_ (.slice TV val.length tV) val ∧ Lay rdI (ownL v80 ++ []) w_ v49 (setZ (val.length : Int) cs (List.replicate cs.length (-1))) ∧ Lay rdQ (ownL v80 ++ []) w_ v59 (runZ cs (setZ (val.length : Int) cs (List.replicate cs.length (-1))) val).1 ∧ Bd (ownL v80 ++ []) w_ ∧ w_.ownsRow w.heap.size 4 1 v80 val.length (boolsV bs) ∧ (∀ v, v < val.length → bs.getD v false = decide (toldS (setZ (val.length : Int) cs (List.replicate cs.length (-1))) i v)) ∧ i ≤ cs.length ∧ Mod [] w w_) (fun (i, bs) => cs.length - i) (0, List.replicate val.length false) ?_ ?_ ?_
         · exact ⟨rfl, rfl, rfl, rfl, rfl, rfl, rfl, trivial⟩
         ·
          exact ⟨hL.sub (by intro b hb; first | exact hb | (simp only [mq] at hb ⊢; grind)), hv.sub (by intro b hb; first | exact hb | (simp only [mq] at hb ⊢; grind)), hR.sub (by intro b hb; first | exact hb | (simp only [mq] at hb ⊢; grind)), hQ.sub (by intro b hb; first | exact hb | (simp only [mq] at hb ⊢; grind)), hbd.sub (by intro b hb; first | exact hb | (simp only [mq] at hb ⊢; grind)), hoT, (fun v hv => by rw [decide_eq_false (by rintro ⟨j, hj, _⟩; omega)]; simp [List.getD_eq_getElem?_getD, hv]), Nat.zero_le _, hm0⟩
         ·
          rintro ⟨i, bs⟩ w12 ⟨hL, hv, hR, hQ, hbd, hoT, hbs, hi, hm0⟩
          refine W.seq <| W.seq <| W.region <| L.v (R1.move rfl) rfl <| L.v (R1.move rfl) rfl <| L.v (R1.lenLay rfl hL tyS22) rfl <| L.v (R1.lt rfl rfl) rfl <| L.nil <| X.seq <| W.cond rfl ?_ ?_
          ·
           intro hc84
           try simp only [bq, ne_eq] at hc84
           refine W.skip <| X.seq <| W.seq <| W.block <| W.seq <| W.seq <| W.region <| L.v (R1.move rfl) rfl <| L.v (R1.move rfl) rfl <| L.v (R1.atLay (j := i) rfl rfl hR tyS26 rfl (by omega)) rfl <| L.v (R1.loadLI rfl hR tyP3 (by omega) (getD_at _)) rfl ?_
           refine L.v (R1.ge rfl rfl) rfl <| L.nil <| X.seq <| W.cut (ι := List Bool) (fun bs2 => [(0, .slice TL cs.length tL), (1, .slice TV val.length tV), (5, .int .i64 ((val.length : Nat) : Int)), (8, v49), (10, v59), (16, v80), (17, .int .i64 ((i : Nat) : Int))]) (fun bs2 w_ => Lay rdC (ownL v80 ++ []) w_ (.slice TL cs.length tL) cs ∧ Lay rdQ (ownL v80 ++ []) w_ (.slice TV val.length tV) val ∧ Lay rdI (ownL v80 ++ []) w_ v49 (setZ (val.length : Int) cs (List.replicate cs.length (-1))) ∧ Lay rdQ (ownL v80 ++ []) w_ v59 (runZ cs (setZ (val.length : Int) cs (List.replicate cs.length (-1))) val).1 ∧ Bd (ownL v80 ++ []) w_ ∧ w_.ownsRow w.heap.size 4 1 v80 val.length (boolsV bs2) ∧ (∀ v, v < val.length → bs2.getD v false = decide (toldS (setZ (val.length : Int) cs (List.replicate cs.length (-1))) (i + 1) v)) ∧ Mod [] w w_) ?_ ?_
           ·
            refine W.cond rfl ?_ ?_
            ·
             intro hc91
             try simp only [bq, ne_eq] at hc91
             obtain ⟨v, hvq, hvn, hwho⟩ := out_lt hCh (show i < cs.length by omega) (by omega)
             refine W.region <| L.v (R1.move rfl) rfl <| L.v (R1.move rfl) rfl <| L.v (R1.move rfl) rfl <| L.v (R1.atLay (j := i) rfl rfl hR tyS26 rfl (by omega)) rfl <| L.v (R1.loadLI rfl hR tyP3 (by omega) (getD_at _)) rfl <| L.v (R1.atOwn (i := v) rfl rfl hoT tyS35 hvq hvn) rfl <| L.storeBo rfl rfl hoT hvn tyP4 ?_
             intro w13 hoT' hm13
             replace hL := hL.mod hm13 (by first | exact mem_own | (intro b hb; simp [hb]))
             replace hv := hv.mod hm13 (by first | exact mem_own | (intro b hb; simp [hb]))
             replace hR := hR.mod hm13 (by first | exact mem_own | (intro b hb; simp [hb]))
             replace hQ := hQ.mod hm13 (by first | exact mem_own | (intro b hb; simp [hb]))
             replace hbd := hbd.gr hm13
             replace hm0 := Mod.oldOwn hm0 hm13 hoT
             clear hm13
             replace hoT := hoT'; clear hoT'
             refine L.nil <| X.join (bs.set v true) ?_ ?_
             · exact ⟨rfl, rfl, rfl, rfl, rfl, rfl, rfl, trivial⟩
             ·
              have hlb : val.length = bs.length := by have h9 := own_lenB hoT; rw [List.length_set] at h9; exact h9
              exact ⟨hL.sub (by intro b hb; first | exact hb | (simp only [mq] at hb ⊢; grind)), hv.sub (by intro b hb; first | exact hb | (simp only [mq] at hb ⊢; grind)), hR.sub (by intro b hb; first | exact hb | (simp only [mq] at hb ⊢; grind)), hQ.sub (by intro b hb; first | exact hb | (simp only [mq] at hb ⊢; grind)), hbd.sub (by intro b hb; first | exact hb | (simp only [mq] at hb ⊢; grind)), hoT, (toldB_set hlb hbs hvq hvn), hm0⟩
            ·
             intro hc91
             try simp only [bq, ne_eq] at hc91
             refine W.skip <| X.join bs ?_ ?_
             · exact ⟨rfl, rfl, rfl, rfl, rfl, rfl, rfl, trivial⟩
             ·
              exact ⟨hL.sub (by intro b hb; first | exact hb | (simp only [mq] at hb ⊢; grind)), hv.sub (by intro b hb; first | exact hb | (simp only [mq] at hb ⊢; grind)), hR.sub (by intro b hb; first | exact hb | (simp only [mq] at hb ⊢; grind)), hQ.sub (by intro b hb; first | exact hb | (simp only [mq] at hb ⊢; grind)), hbd.sub (by intro b hb; first | exact hb | (simp only [mq] at hb ⊢; grind)), hoT, (fun v hv => by rw [hbs v hv, decide_eq_decide]; exact (toldS_no (by omega) v).symm), hm0⟩
           ·
            rintro bs2 wj ⟨hL, hv, hR, hQ, hbd, hoT, hbs, hm0⟩
            refine X.seq <| W.seq <| W.region <| L.v (R1.move rfl) rfl <| L.v (R1.move rfl) rfl <| L.v (R1.atLay (j := i) rfl rfl hR tyS26 rfl (by omega)) rfl <| L.v (R1.loadLI rfl hR tyP3 (by omega) (getD_at _)) rfl <| L.v ((R1.ge rfl rfl).asB (c := (decide (0 ≤ (setZ (val.length : Int) cs (List.replicate cs.length (-1))).getD i 0))) (rfl)) rfl <| L.v (R1.move rfl) rfl ?_
            cases hgd103 : (decide (0 ≤ (setZ (val.length : Int) cs (List.replicate cs.length (-1))).getD i 0))
            ·
             try simp only [bq, ne_eq] at hgd103
             refine L.off rfl rfl rfl rfl rfl <| L.off rfl rfl rfl rfl rfl <| L.off rfl rfl rfl rfl rfl <| L.off rfl rfl rfl rfl rfl <| L.off rfl rfl rfl rfl rfl <| L.off rfl rfl rfl rfl rfl <| L.off rfl rfl rfl rfl rfl <| L.v (R1.pickF rfl rfl) rfl <| L.nil <| X.seq <| W.condF rfl ?_
             refine W.skip <| X.blockEnd <| X.seq <| W.region <| L.v (R1.move rfl) rfl <| L.v (R1.addI (b := 1) rfl rfl (by omega)) rfl <| L.v (R1.assign rfl) rfl <| L.nil <| X.next (i + 1, bs2) ?_ ?_ ?_
             · exact ⟨rfl, rfl, rfl, rfl, rfl, rfl, rfl, trivial⟩
             ·
              exact ⟨hL.sub (by intro b hb; first | exact hb | (simp only [mq] at hb ⊢; grind)), hv.sub (by intro b hb; first | exact hb | (simp only [mq] at hb ⊢; grind)), hR.sub (by intro b hb; first | exact hb | (simp only [mq] at hb ⊢; grind)), hQ.sub (by intro b hb; first | exact hb | (simp only [mq] at hb ⊢; grind)), hbd.sub (by intro b hb; first | exact hb | (simp only [mq] at hb ⊢; grind)), hoT, hbs, by omega, hm0⟩
             · first | omega | (dsimp only; omega)
            ·
             try simp only [bq, ne_eq] at hgd103
             refine L.on rfl rfl rfl (R1.move rfl) rfl <| L.on rfl rfl rfl (R1.move rfl) rfl <| L.on rfl rfl rfl (R1.atLay (j := i) rfl rfl hL tyS22 rfl (by omega)) rfl ?_
             obtain ⟨z107, cs107, hz107, hE107, vt107, ds107, rfl, ht107, vn107, vd107, rfl, hn107, hd107⟩ := Lay.elemQ hL (j := i) (by omega)
             obtain ⟨T107, t107, rfl⟩ := ht107.form
             obtain ⟨A107, c107, rfl⟩ := hn107.form
             obtain ⟨B107, e107, rfl⟩ := hd107.form
             refine L.on rfl rfl rfl (R1.loadE rfl hE107 tyG42) rfl <| L.on rfl rfl rfl (R1.move rfl) rfl <| L.callOn rfl rfl rfl rfl (c_Holds10 ht107 hn107 hd107 hQ (hbd.sub (by intro b hb; first | exact hb | (simp only [mq] at hb ⊢; grind))) ((hsm _ (List.mem_of_getElem? hz107)).mono (by decide)) hsZ) rfl ?_
             rintro _ w14 ⟨rfl, hm14⟩
             replace hL := hL.gr hm14
             replace hv := hv.gr hm14
             replace hR := hR.gr hm14
             replace hQ := hQ.gr hm14
             replace hbd := hbd.gr hm14
             replace hoT := own_gr hoT hm14 (by simp)
             replace hm0 := hm0.trans hm14
             clear hm14
             refine L.on rfl rfl rfl ((R1.not rfl).asB (c := false) (by rw [decide_eq_true (by have h9 := run_holds hok (show i < cs.length by omega) hgd103; rwa [getD_of_get hz107] at h9)]; rfl)) rfl <| L.v (R1.pickT rfl rfl) rfl <| L.nil <| X.seq <| W.condF rfl <| W.skip <| X.blockEnd <| X.seq <| W.region <| L.v (R1.move rfl) rfl <| L.v (R1.addI (b := 1) rfl rfl (by omega)) rfl ?_
             refine L.v (R1.assign rfl) rfl <| L.nil <| X.next (i + 1, bs2) ?_ ?_ ?_
             · exact ⟨rfl, rfl, rfl, rfl, rfl, rfl, rfl, trivial⟩
             ·
              exact ⟨hL.sub (by intro b hb; first | exact hb | (simp only [mq] at hb ⊢; grind)), hv.sub (by intro b hb; first | exact hb | (simp only [mq] at hb ⊢; grind)), hR.sub (by intro b hb; first | exact hb | (simp only [mq] at hb ⊢; grind)), hQ.sub (by intro b hb; first | exact hb | (simp only [mq] at hb ⊢; grind)), hbd.sub (by intro b hb; first | exact hb | (simp only [mq] at hb ⊢; grind)), hoT, hbs, by omega, hm0⟩
             · first | omega | (dsimp only; omega)
          ·
           intro hc84
           try simp only [bq, ne_eq] at hc84
           obtain rfl : i = cs.length := by omega
           refine W.exit <| X.thenExit <| X.nextExit <| X.here <| X.seq <| W.seq <| W.seq <| W.region <| L.v (R1.assign rfl) rfl <| L.nil <| X.seq ?_
           refine W.block <| W.loop (ι := Nat) (fun v => [(0, .slice TL cs.length tL), (1, .slice TV val.length tV), (5, .int .i64 ((val.length : Nat) : Int)), (8, v49), (10, v59), (16, v80), (18, .int .i64 ((v : Nat) : Int))]) (fun v w_ => Lay rdC (ownL v80 ++ []) w_ (.slice TL cs.length tL) cs ∧ Lay rdQ (ownL v80 ++ []) w_ (.slice TV val.length tV) val ∧ Lay rdI (ownL v80 ++ []) w_ v49 (setZ (val.length : Int) cs (List.replicate cs.length (-1))) ∧ Lay rdQ (ownL v80 ++ []) w_ v59 (runZ cs (setZ (val.length : Int) cs (List.replicate cs.length (-1))) val).1 ∧ Bd (ownL v80 ++ []) w_ ∧ w_.ownsRow w.heap.size 4 1 v80 val.length (boolsV bs) ∧ v ≤ val.length ∧ Mod [] w w_) (fun v => val.length - v) 0 ?_ ?_ ?_
           · exact ⟨rfl, rfl, rfl, rfl, rfl, rfl, rfl, trivial⟩
           ·
            exact ⟨hL.sub (by intro b hb; first | exact hb | (simp only [mq] at hb ⊢; grind)), hv.sub (by intro b hb; first | exact hb | (simp only [mq] at hb ⊢; grind)), hR.sub (by intro b hb; first | exact hb | (simp only [mq] at hb ⊢; grind)), hQ.sub (by intro b hb; first | exact hb | (simp only [mq] at hb ⊢; grind)), hbd.sub (by intro b hb; first | exact hb | (simp only [mq] at hb ⊢; grind)), hoT, Nat.zero_le _, hm0⟩
           ·
            rintro v w15 ⟨hL, hv, hR, hQ, hbd, hoT, hvi, hm0⟩
            refine W.seq <| W.seq <| W.region <| L.v (R1.move rfl) rfl <| L.v (R1.move rfl) rfl <| L.v (R1.lt rfl rfl) rfl <| L.nil <| X.seq <| W.cond rfl ?_ ?_
            ·
             intro hc114
             try simp only [bq, ne_eq] at hc114
             refine W.skip <| X.seq <| W.seq <| W.block <| W.seq <| W.drawW (T := []) rfl (by decide +kernel) (NoHang.then (NoHang.block (NoHang.then (NoHang.next (NoHang.block (NoHang.then NoHang.post)))))) (fun w16 hm16 => ?_)
             replace hL := hL.gr hm16
             replace hv := hv.gr hm16
             replace hR := hR.gr hm16
             replace hQ := hQ.gr hm16
             replace hbd := hbd.gr hm16
             replace hoT := own_gr hoT hm16 (by simp)
             replace hm0 := hm0.trans hm16
             have hS1 : Mod [] w16 w16 := Mod.refl _ _
             clear hm16
             have hv_s := hv
             have hQ_s := hQ
             have hoT_s := hoT
             refine D.take 0 rfl (by decide +kernel) (fun w_ hS => (R1.move rfl)) hS1 rfl <| D.take 1 rfl (by decide +kernel) (fun w_ hS => (R1.lenLay rfl (Lay.gr hQ_s hS) tyS23)) hS1 rfl <| D.take 2 rfl (by decide +kernel) (fun w_ hS => (R1.move rfl)) hS1 rfl <| D.take 3 rfl (by decide +kernel) (fun w_ hS => ((R1.ne rfl rfl).asB (c := false) (by rw [hrl]; simp))) hS1 rfl <| D.take 4 rfl (by decide +kernel) (fun w_ hS => (R1.move rfl)) hS1 rfl <| D.takeOn 5 rfl rfl rfl rfl (by decide +kernel) (fun w_ hS => (R1.move rfl)) hS1 rfl <| D.takeOn 6 rfl rfl rfl rfl (by decide +kernel) (fun w_ hS => (R1.move rfl)) hS1 rfl <| D.takeOn 7 rfl rfl rfl rfl (by decide +kernel) (fun w_ hS => (R1.atOwn (i := v) rfl rfl (own_gr hoT_s hS (by simp)) tyS35 rfl (by omega))) hS1 rfl <| D.takeOn 8 rfl rfl rfl rfl (by decide +kernel) (fun w_ hS => (R1.ldBo rfl (own_gr hoT_s hS (by simp)) (by omega) tyP4)) hS1 rfl <| D.takeOn 9 rfl rfl rfl rfl (by decide +kernel) (fun w_ hS => (R1.not rfl)) hS1 rfl <| D.takeOn 10 rfl rfl rfl rfl (by decide +kernel) (fun w_ hS => (R1.move rfl)) hS1 rfl ?_
             cases hgd127 : (!(bs.getD v false))
             ·
              simp only [Bool.not_eq_true', Bool.not_eq_false'] at hgd127
              refine D.off 11 rfl rfl rfl rfl rfl (by decide +kernel) hS1 rfl <| D.off 12 rfl rfl rfl rfl rfl (by decide +kernel) hS1 rfl <| D.off 13 rfl rfl rfl rfl rfl (by decide +kernel) hS1 rfl <| D.off 14 rfl rfl rfl rfl rfl (by decide +kernel) hS1 rfl <| D.off 15 rfl rfl rfl rfl rfl (by decide +kernel) hS1 rfl <| D.off 16 rfl rfl rfl rfl rfl (by decide +kernel) hS1 rfl <| D.off 17 rfl rfl rfl rfl rfl (by decide +kernel) hS1 rfl <| D.off 18 rfl rfl rfl rfl rfl (by decide +kernel) hS1 rfl <| D.off 19 rfl rfl rfl rfl rfl (by decide +kernel) hS1 rfl <| D.off 20 rfl rfl rfl rfl rfl (by decide +kernel) hS1 rfl <| D.takeOn 21 rfl rfl rfl rfl (by decide +kernel) (fun w_ hS => (R1.pickF rfl rfl)) hS1 rfl ?_
              refine D.take 22 rfl (by decide +kernel) (fun w_ hS => (R1.pickF rfl rfl)) hS1 rfl <| D.done (by decide +kernel) ?_ _
              refine X.seq <| W.condF rfl <| W.skip <| X.blockEnd <| X.seq <| W.region <| L.v (R1.move rfl) rfl <| L.v (R1.addI (b := 1) rfl rfl (by omega)) rfl <| L.v (R1.assign rfl) rfl <| L.nil <| X.next (v + 1) ?_ ?_ ?_
              · exact ⟨rfl, rfl, rfl, rfl, rfl, rfl, rfl, trivial⟩
              ·
               exact ⟨hL.sub (by intro b hb; first | exact hb | (simp only [mq] at hb ⊢; grind)), hv.sub (by intro b hb; first | exact hb | (simp only [mq] at hb ⊢; grind)), hR.sub (by intro b hb; first | exact hb | (simp only [mq] at hb ⊢; grind)), hQ.sub (by intro b hb; first | exact hb | (simp only [mq] at hb ⊢; grind)), hbd.sub (by intro b hb; first | exact hb | (simp only [mq] at hb ⊢; grind)), hoT, by omega, hm0⟩
              · first | omega | (dsimp only; omega)
             ·
              simp only [Bool.not_eq_true', Bool.not_eq_false'] at hgd127
              refine D.takeOn 11 rfl rfl rfl rfl (by decide +kernel) (fun w_ hS => (R1.move rfl)) hS1 rfl <| D.takeOn 12 rfl rfl rfl rfl (by decide +kernel) (fun w_ hS => (R1.move rfl)) hS1 rfl <| D.takeOn 13 rfl rfl rfl rfl (by decide +kernel) (fun w_ hS => (R1.atLay (j := v) rfl rfl (Lay.gr hQ_s hS) tyS23 rfl (by omega))) hS1 rfl ?_
              obtain ⟨z131, cs131, hz131, hE131, vn131, vd131, rfl, hn131, hd131⟩ := Lay.elemQ hQ_s (j := v) (by omega)
              obtain ⟨A131, c131, rfl⟩ := hn131.form
              obtain ⟨B131, e131, rfl⟩ := hd131.form
              replace hn131 := hn131.gr hS1
              replace hd131 := hd131.gr hS1
              refine D.takeOn 14 rfl rfl rfl rfl (by decide +kernel) (fun w_ hS => (R1.loadE rfl (SlE.gr hE131 hS) tyG40)) hS1 rfl <| D.takeOn 15 rfl rfl rfl rfl (by decide +kernel) (fun w_ hS => (R1.move rfl)) hS1 rfl <| D.takeOn 16 rfl rfl rfl rfl (by decide +kernel) (fun w_ hS => (R1.move rfl)) hS1 rfl <| D.takeOn 17 rfl rfl rfl rfl (by decide +kernel) (fun w_ hS => (R1.atLay (j := v) rfl rfl (Lay.gr hv_s hS) tyS23 rfl (by omega))) hS1 rfl ?_
              obtain ⟨z135, cs135, hz135, hE135, vn135, vd135, rfl, hn135, hd135⟩ := Lay.elemQ hv_s (j := v) (by omega)
              obtain ⟨A135, c135, rfl⟩ := hn135.form
              obtain ⟨B135, e135, rfl⟩ := hd135.form
              replace hn135 := hn135.gr hS1
              replace hd135 := hd135.gr hS1
              refine D.takeOn 18 rfl rfl rfl rfl (by decide +kernel) (fun w_ hS => (R1.loadE rfl (SlE.gr hE135 hS) tyG40)) hS1 rfl <| D.one 19 rfl (by decide +kernel) (fun hX => ?_)
              refine L.callOn rfl rfl rfl rfl ((c_ref2_Same (qa := (QR.val z131)) (qb := (QR.val z135)) rfl rfl hn131 hd131 hn135 hd135 hbd (Nat.le_trans (hsZ _ (List.mem_of_getElem? hz131)).1 (by decide)) (Nat.le_trans (hsZ _ (List.mem_of_getElem? hz131)).2 (by decide)) (Nat.le_trans (hsv _ (List.mem_of_getElem? hz135)).1 (by decide)) (Nat.le_trans (hsv _ (List.mem_of_getElem? hz135)).2 (by decide))).mono (R' := fun r w' => r = .bool true ∧ Mod [] w16 w') (fun r w' h9 => ⟨h9.1.trans (congrArg Value.bool (decide_eq_true (stay_eq hok (v := v) (by rw [hbs v (by omega)] at hgd127; exact of_decide_eq_false hgd127) hz131 hz135))), h9.2⟩)) rfl ?_
              rintro _ w17 ⟨rfl, hm17⟩
              replace hL := hL.gr hm17
              replace hv := hv.gr hm17
              replace hR := hR.gr hm17
              replace hQ := hQ.gr hm17
              replace hbd := hbd.gr hm17
              replace hoT := own_gr hoT hm17 (by simp)
              replace hm0 := hm0.trans hm17
              replace hS1 := hS1.trans hm17
              clear hm17
              refine L.nil (hX _ _ ⟨.inr hS1, ?_⟩)
              refine D.takeOn 20 rfl rfl rfl rfl (by decide +kernel) (fun w_ hS => ((R1.not rfl).asB (c := false) rfl)) hS1 rfl <| D.takeOn 21 rfl rfl rfl rfl (by decide +kernel) (fun w_ hS => (R1.pickT rfl rfl)) hS1 rfl <| D.take 22 rfl (by decide +kernel) (fun w_ hS => (R1.pickF rfl rfl)) hS1 rfl <| D.done (by decide +kernel) ?_ _
              refine X.seq <| W.condF rfl <| W.skip <| X.blockEnd <| X.seq <| W.region <| L.v (R1.move rfl) rfl <| L.v (R1.addI (b := 1) rfl rfl (by omega)) rfl <| L.v (R1.assign rfl) rfl <| L.nil <| X.next (v + 1) ?_ ?_ ?_
              · exact ⟨rfl, rfl, rfl, rfl, rfl, rfl, rfl, trivial⟩
              ·
               exact ⟨hL.sub (by intro b hb; first | exact hb | (simp only [mq] at hb ⊢; grind)), hv.sub (by intro b hb; first | exact hb | (simp only [mq] at hb ⊢; grind)), hR.sub (by intro b hb; first | exact hb | (simp only [mq] at hb ⊢; grind)), hQ.sub (by intro b hb; first | exact hb | (simp only [mq] at hb ⊢; grind)), hbd.sub (by intro b hb; first | exact hb | (simp only [mq] at hb ⊢; grind)), hoT, by omega, hm0⟩
              · first | omega | (dsimp only; omega)
            ·
             intro hc114
             try simp only [bq, ne_eq] at hc114
             obtain rfl : v = val.length := by omega
             refine W.exit <| X.thenExit <| X.nextExit <| X.here <| X.seq <| W.seq <| W.region <| L.call rfl (c_known14) rfl ?_
             rintro _ w18 ⟨rfl, hm18⟩
             replace hm0 := hm0.trans hm18
             clear hm18
             refine L.v (R1.assign rfl) rfl <| L.nil <| X.seq <| W.ret <| X.result1 rfl (.tmp rfl .nil) ?_
             exact ⟨rfl, hm0⟩
   ·
    have hcc_ := hgd32
    refine L.off rfl rfl rfl rfl rfl <| L.off rfl rfl rfl rfl rfl <| L.v (R1.pickT rfl rfl) rfl <| L.nil <| X.seq <| W.condT rfl <| W.seq <| W.region <| L.v (R1.assign rfl) rfl <| L.nil <| X.seq ?_
    refine W.ret <| X.thenRet <| X.result1 rfl (.tmp rfl .nil) ?_
    exact ⟨rfl, hm0⟩
  ·
   have hcc_ := hgd27
   refine L.off rfl rfl rfl rfl rfl <| L.off rfl rfl rfl rfl rfl <| L.off rfl rfl rfl rfl rfl <| L.v (R1.pickT rfl rfl) rfl <| L.v (R1.move rfl) rfl <| L.off rfl rfl rfl rfl rfl <| L.off rfl rfl rfl rfl rfl <| L.v (R1.pickT rfl rfl) rfl <| L.nil <| X.seq <| W.condT rfl ?_
   refine W.seq <| W.region <| L.v (R1.assign rfl) rfl <| L.nil <| X.seq <| W.ret <| X.thenRet <| X.result1 rfl (.tmp rfl .nil) ?_
   exact ⟨rfl, hm0⟩
 ·
  have hcc_ := hgd23
  refine L.off rfl rfl rfl rfl rfl <| L.off rfl rfl rfl rfl rfl <| L.v (R1.pickT rfl rfl) rfl <| L.v (R1.move rfl) rfl <| L.off rfl rfl rfl rfl rfl <| L.off rfl rfl rfl rfl rfl <| L.off rfl rfl rfl rfl rfl <| L.v (R1.pickT rfl rfl) rfl <| L.v (R1.move rfl) rfl <| L.off rfl rfl rfl rfl rfl <| L.off rfl rfl rfl rfl rfl ?_
  refine L.v (R1.pickT rfl rfl) rfl <| L.nil <| X.seq <| W.condT rfl <| W.seq <| W.region <| L.v (R1.assign rfl) rfl <| L.nil <| X.seq <| W.ret <| X.thenRet ?_
  refine X.result1 rfl (.tmp rfl .nil) ?_
  exact ⟨rfl, hm0⟩
end Go.Proofs.YtdfnkbdnnflcpaaGreat
end
