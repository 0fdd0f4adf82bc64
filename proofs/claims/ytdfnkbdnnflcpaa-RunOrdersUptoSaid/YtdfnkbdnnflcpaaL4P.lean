/- Walks: what the functions compute. -/
import Derived.Test.YtdfnkbdnnflcpaaRuD
namespace Go.Proofs.Ytdfnkbdnnflcpaa
open Go.RowKit
set_option linter.unusedVariables false
set_option linter.unusedSimpArgs false
set_option maxRecDepth 10000

theorem who_len {o : List Int} {v : Nat} : who (o.take o.length) v = who o v := by rw [List.take_length]
/-- A choice that may be, as the plain theory has it. -/
theorem cho_of {n : Nat} {cs : List CR} {os : List Int} (h : ChB (n : Int) cs os = true) : Cho n (wsOf n cs) os := by
  obtain ⟨h1, h2, h3, h4, h5, h6⟩ := ChB_true h
  have hget : ∀ i, i < cs.length → (wsOf n cs)[i]? = some (vsOf (cs.getD i c0R)) := fun i hi => by
    have h7 := (h5 i hi).1
    unfold wsOf
    rw [List.getElem?_map, List.getElem?_eq_getElem hi]
    have e : cs.getD i c0R = cs[i] := by simp [List.getD_eq_getElem?_getD, hi]
    rw [e] at h7 ⊢
    simp only [Option.map_some, wOf, if_pos h7]
  have hlen : (wsOf n cs).length = cs.length := by simp [wsOf]
  have hout : ∀ i v, outF os i = some v → i < cs.length ∧ os.getD i 0 = (v : Int) := fun i v hv => by
    have h8 := outF_some.1 hv
    obtain ⟨h9, h10⟩ := List.getElem?_eq_some_iff.1 h8
    exact ⟨by omega, by rw [List.getD_eq_getElem?_getD, h8]; rfl⟩
  refine ⟨⟨wsOf_in n cs, by simpa using h6⟩, ⟨fun i v hv => ?_, fun i j v hi hj => ?_⟩, by rw [hlen]; exact h4, fun x hx => ?_⟩
  · obtain ⟨h7, h8⟩ := hout i v hv
    refine ⟨_, hget i h7, ?_⟩
    rcases (h5 i h7).2 with h9 | h9
    · omega
    · obtain ⟨t, ht, he⟩ := List.any_eq_true.1 h9.1
      rw [decide_eq_true_eq] at he
      exact List.mem_map.2 ⟨t, ht, by omega⟩
  · obtain ⟨h7, h8⟩ := hout i v hi
    obtain ⟨h9, h10⟩ := hout j v hj
    rcases Nat.lt_trichotomy i j with hij | hij | hij
    · rcases (h5 j h9).2 with h11 | h11
      · omega
      · exact absurd (by omega) (h11.2 i hij)
    · exact hij
    · rcases (h5 i h7).2 with h11 | h11
      · omega
      · exact absurd (by omega) (h11.2 j hij)
  · obtain ⟨i, hi, rfl⟩ := List.mem_iff_getElem.1 hx
    have := chP_lo h5 (i := i) (by omega)
    rwa [← getD_at hi] at this


/-- Those of a list wait no more. -/
def setAll (wa : List Int) (l : List Nat) : List Int := l.foldl (fun w i => w.set i (-1)) wa
theorem setAll_len (l : List Nat) : ∀ wa : List Int, (setAll wa l).length = wa.length := by
  induction l with
  | nil => intro wa; rfl
  | cons i r ih => intro wa; show (setAll (wa.set i (-1)) r).length = _; rw [ih]; simp
theorem set_get (wa : List Int) (i j : Nat) (hj : j < wa.length) : (wa.set i (-1)).getD j 0 = if j = i then -1 else wa.getD j 0 := by
  rw [List.getD_eq_getElem?_getD, List.getElem?_set]
  by_cases h : i = j
  · subst h; simp [hj]
  · rw [if_neg h, if_neg (fun e => h e.symm)]; simp [List.getD_eq_getElem?_getD]
theorem setAll_get (l : List Nat) : ∀ (wa : List Int) (j : Nat), j < wa.length → (setAll wa l).getD j 0 = if j ∈ l then -1 else wa.getD j 0 := by
  induction l with
  | nil => intro wa j hj; simp [setAll]
  | cons i r ih =>
    intro wa j hj
    show (setAll (wa.set i (-1)) r).getD j 0 = _
    rw [ih _ j (by simpa using hj), set_get wa i j hj]
    by_cases h1 : j ∈ r
    · simp [h1]
    · by_cases h2 : j = i <;> simp [h1, h2]
theorem ordF_ready (cs : List CR) (os : List Int) : ∀ (f : Nat) (wa : List Int) (k i : Nat), (ordF cs os f wa)[k]? = some i → rdW cs os (setAll wa ((ordF cs os f wa).take k)) i = true
  | 0, wa, k, i, h => by simp [ordF] at h
  | f + 1, wa, k, i, h => by
    rw [ordF] at h ⊢
    cases hf : (List.range os.length).find? (rdW cs os wa) with
    | none => rw [hf] at h; simp at h
    | some j =>
      rw [hf] at h
      cases k with
      | zero =>
        simp only [List.getElem?_cons_zero, Option.some.injEq] at h
        subst h
        exact (List.find?_range_eq_some.1 hf).1
      | succ k =>
        simp only [List.getElem?_cons_succ] at h
        have := ordF_ready cs os f _ k i h
        simpa [setAll] using this
theorem ordT_end (cs : List CR) (os : List Int) : ∀ (f : Nat) (wa : List Int), wa.length = os.length → pend wa < f → ∀ j, j < os.length → rdW cs os (setAll wa (ordF cs os f wa)) j = false
  | 0, wa, _, h => by omega
  | f + 1, wa, hl, h => by
    intro j hj
    rw [ordF]
    cases hf : (List.range os.length).find? (rdW cs os wa) with
    | none =>
      rw [List.find?_range_eq_none] at hf
      have := hf j (by simpa using hj)
      simpa [setAll] using this
    | some i =>
      rw [List.find?_range_eq_some] at hf
      have hi : i < os.length := by simpa using hf.2.1
      have h1 : wa.getD i 0 ≠ -1 := by
        have := hf.1
        unfold rdW at this
        simp only [Bool.and_eq_true, decide_eq_true_eq] at this
        exact this.1
      have h2 := pend_set h1 (by omega)
      exact ordT_end cs os f (wa.set i (-1)) (by simpa using hl) (by omega) j hj
/-- What is told of a plan: each once, all that tell, behind those that tell their other variables. -/
theorem plan_spec {n : Nat} {cs : List CR} {os : List Int} (h : ChB (n : Int) cs os = true) :
    (∀ k i, (ordT cs os os)[k]? = some i → i < cs.length ∧ 0 ≤ os.getD i 0 ∧ i ∉ (ordT cs os os).take k ∧ ∀ t ∈ (cs.getD i c0R).ts, ∀ j, j < cs.length → j ≠ i → os.getD j 0 = t.v → j ∈ (ordT cs os os).take k) ∧
    (∀ i, i < cs.length → 0 ≤ os.getD i 0 → i ∈ ordT cs os os) := by
  obtain ⟨g1, g2, g3, g4, g5, g6⟩ := ChB_true h
  have hC := cho_of h
  have huniq : ∀ i j, i < cs.length → j < cs.length → 0 ≤ os.getD i 0 → os.getD i 0 = os.getD j 0 → i = j := fun i j hi hj h0 he => by
    rcases Nat.lt_trichotomy i j with hij | hij | hij
    · rcases (g5 j hj).2 with h11 | h11
      · omega
      · exact absurd he (h11.2 i hij)
    · exact hij
    · rcases (g5 i hi).2 with h11 | h11
      · omega
      · exact absurd he.symm (h11.2 j hij)
  constructor
  · intro k i hk
    obtain ⟨a1, a2, a3, a4⟩ := ordT_at (n := (n : Int)) g5 g4 hk
    have hr := ordF_ready cs os _ os k i hk
    unfold rdW at hr
    simp only [Bool.and_eq_true, decide_eq_true_eq, Bool.not_eq_true'] at hr
    obtain ⟨r1, r2⟩ := hr
    rw [setAll_get _ _ _ (by omega)] at r1
    refine ⟨a1, a3, fun hm => r1 (if_pos hm), fun t ht j hj hne he => ?_⟩
    have hv := isC_all a2 t ht
    have h3 := List.any_eq_false.1 r2 t ht
    simp only [Bool.and_eq_true, decide_eq_true_eq, not_and] at h3
    have hto : t.v ≠ os.getD i 0 := fun e => hne (huniq j i hj a1 (by omega) (by omega))
    have h4 := h3 hto
    by_cases hm : j ∈ (ordT cs os os).take k
    · exact hm
    · exfalso
      apply h4
      have h5 : (setAll os ((ordT cs os os).take k)).getD j 0 = t.v := by rw [setAll_get _ _ _ (by omega), if_neg hm, he]
      rw [← h5, ← getD_at (by rw [setAll_len]; omega)]
      exact List.getElem_mem _
  · have hend := ordT_end cs os (pend os + 1) os rfl (by omega)
    have step : ∀ i, i < cs.length → 0 ≤ os.getD i 0 → i ∉ ordT cs os os → ∃ j, j < cs.length ∧ 0 ≤ os.getD j 0 ∧ j ∉ ordT cs os os ∧ Eg (wsOf n cs) (outF os) i j := fun i hi h0 hno => by
      have hr := hend i (by omega)
      unfold rdW at hr
      rw [setAll_get _ _ _ (by omega)] at hr
      change (decide ((if i ∈ ordT cs os os then (-1 : Int) else os.getD i 0) ≠ -1) && _) = false at hr
      rw [if_neg hno, decide_eq_true (by omega), Bool.true_and, Bool.not_eq_false'] at hr
      obtain ⟨t, ht, h1⟩ := List.any_eq_true.1 hr
      simp only [Bool.and_eq_true, decide_eq_true_eq] at h1
      obtain ⟨h2, h3⟩ := h1
      have hv := isC_all (g5 i hi).1 t ht
      obtain ⟨j, hj, he⟩ := List.mem_iff_getElem.1 h3
      have hj2 : j < os.length := by rw [setAll_len] at hj; exact hj
      rw [getD_at hj, setAll_get _ _ _ hj2] at he
      change (if j ∈ ordT cs os os then (-1 : Int) else os.getD j 0) = t.v at he
      by_cases hm : j ∈ ordT cs os os
      · rw [if_pos hm] at he; omega
      · rw [if_neg hm] at he
        refine ⟨j, by omega, by omega, hm, vsOf (cs.getD i c0R), t.v.toNat, ?_, List.mem_map.2 ⟨t, ht, rfl⟩, ?_, ?_⟩
        · have h7 := (g5 i hi).1
          unfold wsOf
          rw [List.getElem?_map, List.getElem?_eq_getElem hi]
          have e : cs.getD i c0R = cs[i] := by simp [List.getD_eq_getElem?_getD, hi]
          rw [e] at h7 ⊢
          simp only [Option.map_some, wOf, if_pos h7]
        · rw [outF_some, List.getElem?_eq_getElem hj2, getD_at hj2]; congr 1; omega
        · intro e9
          have h8 := outF_some.1 e9
          rw [List.getElem?_eq_getElem (by omega), getD_at (by omega)] at h8
          injection h8 with h8
          omega
    have key : ∀ m i, i < cs.length → 0 ≤ os.getD i 0 → i ∉ ordT cs os os → hgt (wsOf n cs) (outF os) i < m → False := fun m => by
      induction m with
      | zero => intro i hi h0 hno hm; omega
      | succ m ih =>
        intro i hi h0 hno hm
        obtain ⟨j, j1, j2, j3, j4⟩ := step i hi h0 hno
        have := hgt_lt hC.F hC.T j4
        exact ih j j1 j2 j3 (by omega)
    intro i hi h0
    by_cases hm : i ∈ ordT cs os os
    · exact hm
    · exact (key _ i hi h0 hm (Nat.lt_succ_self _)).elim


/-- Where it stands in a list, from 1 on; 0: nowhere. -/
def posOf (l : List Nat) (i : Nat) : Nat := match l.findIdx? (fun x => decide (x = i)) with
  | some j => j + 1
  | none => 0
theorem posOf_no {l : List Nat} {i : Nat} (h : i ∉ l) : posOf l i = 0 := by
  unfold posOf
  rw [List.findIdx?_eq_none_iff.2 (fun x hx => by simp only [decide_eq_false_iff_not]; rintro rfl; exact h hx)]
theorem posOf_at {l : List Nat} {k i : Nat} (h : l[k]? = some i) (hno : i ∉ l.take k) : posOf l i = k + 1 := by
  obtain ⟨hk, rfl⟩ := List.getElem?_eq_some_iff.1 h
  have : l.findIdx? (fun x => decide (x = l[k])) = some k := by
    rw [List.findIdx?_eq_some_iff_getElem]
    refine ⟨hk, by simp, fun j hj => ?_⟩
    simp only [Bool.not_eq_true, decide_eq_false_iff_not]
    intro e
    exact hno (List.mem_iff_getElem.2 ⟨j, by rw [List.length_take]; omega, by rw [List.getElem_take, e]⟩)
  unfold posOf
  rw [this]
theorem posOf_pos {l : List Nat} {i : Nat} (h : i ∈ l) : 0 < posOf l i := by
  unfold posOf
  cases hf : l.findIdx? (fun x => decide (x = i)) with
  | none =>
    have := List.findIdx?_eq_none_iff.1 hf i h
    simp at this
  | some j => simp
theorem posOf_le {l : List Nat} {k i : Nat} (h : i ∈ l.take k) : posOf l i ≤ k := by
  obtain ⟨j, hj, he⟩ := List.mem_iff_getElem.1 h
  rw [List.length_take] at hj
  rw [List.getElem_take] at he
  unfold posOf
  cases hf : l.findIdx? (fun x => decide (x = i)) with
  | none => simp
  | some a =>
    obtain ⟨h1, h2, h3⟩ := List.findIdx?_eq_some_iff_getElem.1 hf
    rcases Nat.lt_or_ge j a with h4 | h4
    · exact absurd (by simp [he]) (h3 j h4)
    · show a + 1 ≤ k
      omega
/-- Where each stands, so far. -/
def atN (m : Nat) (pl : List Nat) (k : Nat) : List Nat := (List.range m).map (posOf (pl.take k))
theorem atN_zero (m : Nat) (pl : List Nat) : atN m pl 0 = List.replicate m 0 := by
  unfold atN
  apply List.ext_getElem (by simp)
  intro i h1 h2
  simp [posOf]
theorem atN_get {m i : Nat} (pl : List Nat) (k : Nat) (h : i < m) : (atN m pl k).getD i 0 = posOf (pl.take k) i := by
  simp [atN, List.getD_eq_getElem?_getD, h]
theorem atN_set {m i k : Nat} {pl : List Nat} (hk : pl[k]? = some i) (hno : i ∉ pl.take k) (hi : i < m) : atN m pl (k + 1) = (atN m pl k).set i (k + 1) := by
  obtain ⟨hk2, hk3⟩ := List.getElem?_eq_some_iff.1 hk
  apply List.ext_getElem (by simp [atN])
  intro j h1 h2
  rw [List.getElem_set]
  simp only [atN, List.getElem_map, List.getElem_range]
  by_cases e : i = j
  · subst e
    rw [if_pos rfl]
    exact posOf_at (by rw [List.getElem?_take, if_pos (by omega)]; exact hk) (by rw [List.take_take, Nat.min_eq_left (by omega)]; exact hno)
  · rw [if_neg e, List.take_succ_eq_append_getElem hk2, hk3]
    unfold posOf
    rw [List.findIdx?_append]
    cases (pl.take k).findIdx? (fun x => decide (x = j)) with
    | some a => rfl
    | none => simp [List.findIdx?_cons, e]


theorem plan_le {n : Nat} {cs : List CR} {os : List Int} (h : ChB (n : Int) cs os = true) {i j : Nat} {t : TR} (hi : i < cs.length) (h0 : 0 ≤ os.getD i 0) (ht : t ∈ (cs.getD i c0R).ts) (hj : j < cs.length) (hne : j ≠ i) (he : os.getD j 0 = t.v) : posOf (ordT cs os os) j ≤ posOf (ordT cs os os) i := by
  obtain ⟨k, hk, e⟩ := List.mem_iff_getElem.1 ((plan_spec h).2 i hi h0)
  have hk2 : (ordT cs os os)[k]? = some i := by rw [List.getElem?_eq_getElem hk, e]
  obtain ⟨_, _, q3, q4⟩ := (plan_spec h).1 k i hk2
  have h1 := posOf_le (q4 t ht j hj hne he)
  have h2 := posOf_at hk2 q3
  omega
theorem plan_in {n : Nat} {cs : List CR} {os : List Int} (h : ChB (n : Int) cs os = true) {i : Nat} (hi : i < cs.length) : decide (0 ≤ os.getD i 0) = decide (0 < posOf (ordT cs os os) i) := by
  apply decide_eq_decide.2
  constructor
  · intro h0; exact posOf_pos ((plan_spec h).2 i hi h0)
  · intro h1
    by_cases hm : i ∈ ordT cs os os
    · obtain ⟨k, hk, e⟩ := List.mem_iff_getElem.1 hm
      exact ((plan_spec h).1 k i (by rw [List.getElem?_eq_getElem hk, e])).2.1
    · rw [posOf_no hm] at h1; omega

end Go.Proofs.Ytdfnkbdnnflcpaa
