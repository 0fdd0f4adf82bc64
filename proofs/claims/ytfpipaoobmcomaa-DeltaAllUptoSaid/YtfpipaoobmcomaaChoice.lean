/- Choices: how strong a variable is, the weakest one, enforcing, and that it never gets worse. Nothing of a program in sight. -/
import Derived.Test.YtfpipaoobmcomaaForest
namespace Go.Proofs.Ytfpipaoobmcomaa
set_option linter.unusedVariables false
set_option linter.unusedSimpArgs false
/-- Which variable a constraint tells. -/
def outF (o : List Int) (i : Nat) : Option Nat := match o[i]? with
  | some x => if 0 ≤ x then some x.toNat else none
  | none => none
/-- Who tells a variable. -/
def who (o : List Int) (v : Nat) : Option Nat := o.findIdx? (fun x => decide (x = (v : Int)))
/-- How strong a variable is, so many steps deep. -/
def strF (ws : List (List Nat)) (ss : List Int) (o : List Int) : Nat → Nat → Int
  | 0, _ => 4
  | f + 1, v => match who o v with
    | none => 4
    | some i => (ws.getD i []).foldl (fun s u => if u = v then s else max s (strF ws ss o f u)) (ss.getD i 0)
def strong (ws : List (List Nat)) (ss : List Int) (o : List Int) (v : Nat) : Int := strF ws ss o (ws.length + 2) v
structure Cho (n : Nat) (ws : List (List Nat)) (o : List Int) : Prop where
  F : Forest n ws
  T : Tell ws (outF o)
  len : o.length = ws.length
  lo : ∀ x ∈ o, -1 ≤ x
theorem outF_some {o : List Int} {i v : Nat} : outF o i = some v ↔ o[i]? = some (v : Int) := by
  unfold outF
  cases h : o[i]? with
  | none => simp
  | some x =>
    dsimp only
    split
    · simp only [Option.some.injEq]; omega
    · simp only [Option.some.injEq]
      constructor
      · intro h; cases h
      · intro h; omega
theorem who_some {ws : List (List Nat)} {o : List Int} (hT : Tell ws (outF o)) {i v : Nat} : who o v = some i ↔ outF o i = some v := by
  unfold who
  rw [List.findIdx?_eq_some_iff_getElem]
  constructor
  · rintro ⟨h1, h2, _⟩
    rw [decide_eq_true_eq] at h2
    rw [outF_some, List.getElem?_eq_getElem h1, h2]
  · intro h
    have h0 := outF_some.1 h
    obtain ⟨h1, h2⟩ := List.getElem?_eq_some_iff.1 h0
    refine ⟨h1, by rw [h2]; simp, fun j hj => ?_⟩
    simp only [Bool.not_eq_true, decide_eq_false_iff_not]
    intro e
    have h3 : outF o j = some v := outF_some.2 (by rw [List.getElem?_eq_getElem (by omega), e])
    have := hT.one i j v h h3
    omega
theorem who_none {ws : List (List Nat)} {o : List Int} (hT : Tell ws (outF o)) {v : Nat} : who o v = none ↔ ∀ i, outF o i ≠ some v := by
  constructor
  · intro h i hi
    rw [(who_some hT).2 hi] at h; cases h
  · intro h
    cases h2 : who o v with
    | none => rfl
    | some i => exact absurd ((who_some hT).1 h2) (h i)
theorem getD_of_get {α : Type} {l : List α} {i : Nat} {x d : α} (h : l[i]? = some x) : l.getD i d = x := by rw [List.getD_eq_getElem?_getD, h]; rfl
theorem foldl_congr_mem {α β : Type} {f g : β → α → β} : ∀ {l : List α} {b : β}, (∀ b, ∀ x ∈ l, f b x = g b x) → l.foldl f b = l.foldl g b
  | [], _, _ => rfl
  | a :: l, b, h => by simp only [List.foldl_cons]; rw [h b a (by simp)]; exact foldl_congr_mem (fun b x hx => h b x (by simp [hx]))
/-- What the fold of strengths is above. -/
theorem fold_gt {v : Nat} {g : Nat → Int} {S : Int} : ∀ {l : List Nat} {s : Int}, S < l.foldl (fun s u => if u = v then s else max s (g u)) s ↔ S < s ∨ ∃ u ∈ l, u ≠ v ∧ S < g u
  | [], s => by simp
  | a :: l, s => by
    simp only [List.foldl_cons]
    rw [fold_gt]
    constructor
    · rintro (h | ⟨u, h1, h2, h3⟩)
      · by_cases e : a = v
        · rw [if_pos e] at h; exact .inl h
        · rw [if_neg e] at h
          rcases Int.lt_or_le S s with h4 | h4
          · exact .inl h4
          · exact .inr ⟨a, by simp, e, by omega⟩
      · exact .inr ⟨u, by simp [h1], h2, h3⟩
    · rintro (h | ⟨u, h1, h2, h3⟩)
      · left; split <;> omega
      · rcases List.mem_cons.1 h1 with rfl | h1
        · left; rw [if_neg h2]; omega
        · exact .inr ⟨u, h1, h2, h3⟩
theorem fold_le {v : Nat} {g : Nat → Int} {B : Int} {l : List Nat} {s : Int} : l.foldl (fun s u => if u = v then s else max s (g u)) s ≤ B ↔ s ≤ B ∧ ∀ u ∈ l, u ≠ v → g u ≤ B := by
  rw [← Int.not_lt, fold_gt]
  constructor
  · intro h
    refine ⟨by rcases Int.lt_or_le B s with h1 | h1; exact absurd (.inl h1) h; exact h1, fun u hu hv => ?_⟩
    rcases Int.lt_or_le B (g u) with h1 | h1
    · exact absurd (.inr ⟨u, hu, hv, h1⟩) h
    · exact h1
  · rintro ⟨h1, h2⟩ (h3 | ⟨u, h3, h4, h5⟩)
    · omega
    · have := h2 u h3 h4; omega
section
variable {n : Nat} {ws : List (List Nat)} {ss : List Int} {o : List Int}
/-- How deep a variable is told. -/
noncomputable def hv (ws : List (List Nat)) (o : List Int) (v : Nat) : Nat := match who o v with
  | none => 0
  | some i => hgt ws (outF o) i + 1
theorem Cho.edge (h : Cho n ws o) {i j v u : Nat} {w : List Nat} (hi : outF o i = some v) (hw : ws[i]? = some w) (hu : u ∈ w) (hne : u ≠ v) (hj : outF o j = some u) : Eg ws (outF o) i j :=
  ⟨w, u, hw, hu, hj, by rw [hi]; intro e; injection e with e; exact hne e.symm⟩
theorem Cho.get (h : Cho n ws o) {i v : Nat} (hi : outF o i = some v) : ∃ w, ws[i]? = some w ∧ v ∈ w ∧ ws.getD i [] = w := by
  obtain ⟨w, h1, h2⟩ := h.T.tell i v hi
  exact ⟨w, h1, h2, getD_of_get h1⟩
theorem hv_lt (h : Cho n ws o) {i v u : Nat} {w : List Nat} (hi : outF o i = some v) (hw : ws[i]? = some w) (hu : u ∈ w) (hne : u ≠ v) : hv ws o u < hv ws o v := by
  unfold hv
  rw [(who_some h.T).2 hi]
  cases h1 : who o u with
  | none => simp
  | some j =>
    have := hgt_lt h.F h.T (h.edge hi hw hu hne ((who_some h.T).1 h1))
    simp only; omega
theorem strF_stable (h : Cho n ws o) : ∀ f v, hv ws o v < f → strF ws ss o f v = strF ws ss o (f + 1) v
  | 0, v, hf => by omega
  | f + 1, v, hf => by
    rw [strF, strF]
    cases h1 : who o v with
    | none => rfl
    | some i =>
      have hi := (who_some h.T).1 h1
      obtain ⟨w, h2, h3, h4⟩ := h.get hi
      simp only [h4]
      apply foldl_congr_mem
      intro s u hu
      by_cases e : u = v
      · rw [if_pos e, if_pos e]
      · rw [if_neg e, if_neg e, strF_stable h f u (by have := hv_lt h hi h2 hu e; omega)]
theorem hv_le (h : Cho n ws o) (v : Nat) : hv ws o v ≤ ws.length + 1 := by
  unfold hv
  cases who o v with
  | none => simp
  | some i => have := hgt_le ws (outF o) i; simp only; omega
/-- How strong a variable is: as weak as may be, or as who tells it and all its others. -/
theorem strong_none (h : Cho n ws o) {v : Nat} (h1 : who o v = none) : strong ws ss o v = 4 := by
  unfold strong; rw [strF, h1]
theorem strong_some (h : Cho n ws o) {v i : Nat} (h1 : who o v = some i) : strong ws ss o v = (ws.getD i []).foldl (fun s u => if u = v then s else max s (strong ws ss o u)) (ss.getD i 0) := by
  unfold strong
  rw [strF, h1]
  have hi := (who_some h.T).1 h1
  obtain ⟨w, h2, h3, h4⟩ := h.get hi
  simp only [h4]
  apply foldl_congr_mem
  intro s u hu
  by_cases e : u = v
  · rw [if_pos e, if_pos e]
  · rw [if_neg e, if_neg e, strF_stable h _ u (by have := hv_lt h hi h2 hu e; have := hv_le h v; omega)]
theorem strong_le (h : Cho n ws o) (hs : ∀ s ∈ ss, s ≤ 4) (v : Nat) : strong ws ss o v ≤ 4 := by
  have key : ∀ f v, strF ws ss o f v ≤ 4 := fun f => by
    induction f with
    | zero => intro v; simp [strF]
    | succ f ih =>
      intro v
      rw [strF]
      cases who o v with
      | none => simp
      | some i =>
        simp only
        rw [fold_le]
        refine ⟨?_, fun u _ _ => ih u⟩
        rw [List.getD_eq_getElem?_getD]
        cases h2 : ss[i]? with
        | none => simp
        | some s => simpa using hs s (List.mem_of_getElem? h2)
  exact key _ v
end
/-! ## the weakest variable -/
/-- Of a row the weakest one that is not taken and weaker than so much. -/
def wkF (g : Nat → Int) (T : List Nat) : List Nat → Option Nat × Int → Option Nat × Int
  | [], b => b
  | u :: l, b => wkF g T l (if u ∉ T ∧ b.2 < g u then (some u, g u) else b)
def wk (ws : List (List Nat)) (ss : List Int) (o : List Int) (i : Nat) (T : List Nat) : Option Nat := (wkF (strong ws ss o) T (ws.getD i []) (none, ss.getD i 0)).1
theorem wkF_app (g : Nat → Int) (T : List Nat) : ∀ (l r : List Nat) (b : Option Nat × Int), wkF g T (l ++ r) b = wkF g T r (wkF g T l b)
  | [], _, _ => rfl
  | u :: l, r, b => by simp only [List.cons_append, wkF]; rw [wkF_app]
theorem wkF_spec (g : Nat → Int) (T : List Nat) (S : Int) : ∀ (l : List Nat) (b : Option Nat × Int), (b.1 = none → b.2 = S) → (∀ v, b.1 = some v → b.2 = g v ∧ S < g v ∧ v ∉ T) →
    ((wkF g T l b).1 = none → (wkF g T l b).2 = S) ∧ (∀ v, (wkF g T l b).1 = some v → (wkF g T l b).2 = g v ∧ S < g v ∧ v ∉ T ∧ (v ∈ l ∨ b.1 = some v)) ∧ (∀ u ∈ l, u ∉ T → g u ≤ (wkF g T l b).2) ∧ b.2 ≤ (wkF g T l b).2
  | [], b, h1, h2 => ⟨h1, fun v hv => ⟨(h2 v hv).1, (h2 v hv).2.1, (h2 v hv).2.2, .inr hv⟩, by simp, Int.le_refl _⟩
  | u :: l, b, h1, h2 => by
    simp only [wkF]
    by_cases hc : u ∉ T ∧ b.2 < g u
    · rw [if_pos hc]
      have hS : S ≤ b.2 := by
        cases hb : b.1 with
        | none => exact Int.le_of_eq (h1 hb).symm
        | some v => have := h2 v hb; omega
      obtain ⟨a1, a2, a3, a4⟩ := wkF_spec g T S l (some u, g u) (fun h => by cases h) (fun v hv => by injection hv with hv; subst hv; exact ⟨rfl, by omega, hc.1⟩)
      refine ⟨a1, fun v hv => ?_, fun x hx hxT => ?_, by simp only at a4; omega⟩
      · obtain ⟨b1, b2, b3, b4⟩ := a2 v hv
        refine ⟨b1, b2, b3, .inl ?_⟩
        rcases b4 with b4 | b4
        · simp [b4]
        · injection b4 with b4; simp [b4]
      · rcases List.mem_cons.1 hx with rfl | hx
        · exact a4
        · exact a3 x hx hxT
    · rw [if_neg hc]
      obtain ⟨a1, a2, a3, a4⟩ := wkF_spec g T S l b h1 h2
      refine ⟨a1, fun v hv => ?_, fun x hx hxT => ?_, a4⟩
      · obtain ⟨b1, b2, b3, b4⟩ := a2 v hv
        exact ⟨b1, b2, b3, by rcases b4 with b4 | b4; exact .inl (by simp [b4]); exact .inr b4⟩
      · rcases List.mem_cons.1 hx with rfl | hx
        · have : ¬ b.2 < g x := fun h => hc ⟨hxT, h⟩
          omega
        · exact a3 x hx hxT
section
variable {n : Nat} {ws : List (List Nat)} {ss : List Int} {o : List Int} {i : Nat} {T : List Nat}
theorem wk_none (h : wk ws ss o i T = none) : ∀ u ∈ ws.getD i [], u ∉ T → strong ws ss o u ≤ ss.getD i 0 := fun u hu hT => by
  obtain ⟨a1, _, a3, _⟩ := wkF_spec (strong ws ss o) T (ss.getD i 0) (ws.getD i []) (none, ss.getD i 0) (fun _ => rfl) (fun v hv => by cases hv)
  have h1 := a3 u hu hT
  rw [a1 h] at h1; exact h1
theorem wk_some {v : Nat} (h : wk ws ss o i T = some v) : v ∈ ws.getD i [] ∧ v ∉ T ∧ ss.getD i 0 < strong ws ss o v ∧ ∀ u ∈ ws.getD i [], u ∉ T → strong ws ss o u ≤ strong ws ss o v := by
  obtain ⟨_, a2, a3, _⟩ := wkF_spec (strong ws ss o) T (ss.getD i 0) (ws.getD i []) (none, ss.getD i 0) (fun _ => rfl) (fun v hv => by cases hv)
  obtain ⟨b1, b2, b3, b4⟩ := a2 v h
  refine ⟨?_, b3, b2, fun u hu hT => by have := a3 u hu hT; rw [b1] at this; exact this⟩
  rcases b4 with b4 | b4
  · exact b4
  · cases b4
theorem wk_none_of (h : ∀ u ∈ ws.getD i [], u ∉ T → strong ws ss o u ≤ ss.getD i 0) : wk ws ss o i T = none := by
  cases h1 : wk ws ss o i T with
  | none => rfl
  | some v => obtain ⟨a, b, c, _⟩ := wk_some h1; have := h v a b; omega
end
/-! ## enforcing -/
/-- A constraint is enforced, and who is pushed out by it. -/
def enfF (ws : List (List Nat)) (ss : List Int) : Nat → List Int → Nat → List Nat → List Int
  | 0, o, _, _ => o
  | f + 1, o, i, T => match wk ws ss o i T with
    | none => o
    | some v => match who o v with
      | none => o.set i (v : Int)
      | some j => enfF ws ss f ((o.set j (-1)).set i (v : Int)) j (ws.getD i [] ++ T)
/-- How many variables are not taken. -/
def free (n : Nat) (T : List Nat) : Nat := (List.range n).countP (fun v => decide (v ∉ T))
theorem free_lt {n v : Nat} {w T : List Nat} (hv : v < n) (hw : v ∈ w) (hT : v ∉ T) : free n (w ++ T) < free n T := by
  refine countP_lt_of (fun x _ hx => ?_) (x := v) (by simpa using hv) (by simp [hw]) (by simpa using hT)
  simp only [decide_eq_true_eq, List.mem_append, not_or] at hx ⊢; exact hx.2
theorem free_nil (n : Nat) : free n [] = n := by simp [free]
theorem outF_set {o : List Int} {i x : Nat} {y : Int} (hi : i < o.length) : outF (o.set i y) x = if x = i then (if 0 ≤ y then some y.toNat else none) else outF o x := by
  unfold outF
  rw [List.getElem?_set]
  by_cases e : i = x
  · subst e; simp [hi]
  · rw [if_neg e, if_neg (fun h => e h.symm)]
section
variable {n : Nat} {ws : List (List Nat)} {ss : List Int} {o : List Int}
/-- i tells v, who told it before tells none. -/
theorem Cho.move (h : Cho n ws o) {i j v : Nat} (hi : i < ws.length) (hv : v ∈ ws.getD i []) (hj : outF o j = some v) (hij : i ≠ j) : Cho n ws ((o.set j (-1)).set i (v : Int)) ∧ (∀ x, outF ((o.set j (-1)).set i (v : Int)) x = if x = i then some v else if x = j then none else outF o x) := by
  have hl := h.len
  have hjl : j < o.length := (List.getElem?_eq_some_iff.1 (outF_some.1 hj)).1
  have e : ∀ x, outF ((o.set j (-1)).set i (v : Int)) x = if x = i then some v else if x = j then none else outF o x := fun x => by
    rw [outF_set (by simp; omega), outF_set hjl]
    simp
  refine ⟨⟨h.F, ⟨fun x u hx => ?_, fun x y u hx hy => ?_⟩, by simp [hl], fun z hz => ?_⟩, e⟩
  · rw [e] at hx
    split at hx
    · rename_i h1
      injection hx with hx; subst hx; subst h1
      refine ⟨_, List.getElem?_eq_getElem hi, ?_⟩
      rwa [List.getD_eq_getElem?_getD, List.getElem?_eq_getElem hi] at hv
    · split at hx
      · cases hx
      · exact h.T.tell x u hx
  · rw [e] at hx hy
    have key : ∀ z, z ≠ i → z ≠ j → outF o z ≠ some v := fun z _ hzj hz => hzj (h.T.one z j v hz hj)
    by_cases hxi : x = i <;> by_cases hyi : y = i
    · rw [hxi, hyi]
    · rw [if_pos hxi] at hx; rw [if_neg hyi] at hy
      injection hx with hx; subst hx
      split at hy
      · cases hy
      · rename_i hyj; exact absurd hy (key y hyi hyj)
    · rw [if_neg hxi] at hx; rw [if_pos hyi] at hy
      injection hy with hy; subst hy
      split at hx
      · cases hx
      · rename_i hxj; exact absurd hx (key x hxi hxj)
    · rw [if_neg hxi] at hx; rw [if_neg hyi] at hy
      split at hx
      · cases hx
      · split at hy
        · cases hy
        · exact h.T.one x y u hx hy
  · rcases List.mem_or_eq_of_mem_set hz with h1 | h1
    · rcases List.mem_or_eq_of_mem_set h1 with h2 | h2
      · exact h.lo z h2
      · omega
    · omega
theorem Cho.add (h : Cho n ws o) {i v : Nat} (hi : i < ws.length) (hv : v ∈ ws.getD i []) (hno : ∀ j, outF o j ≠ some v) : Cho n ws (o.set i (v : Int)) ∧ (∀ x, outF (o.set i (v : Int)) x = if x = i then some v else outF o x) := by
  have hl := h.len
  have e : ∀ x, outF (o.set i (v : Int)) x = if x = i then some v else outF o x := fun x => by
    rw [outF_set (by omega)]; simp
  refine ⟨⟨h.F, ⟨fun x u hx => ?_, fun x y u hx hy => ?_⟩, by simp [hl], fun z hz => ?_⟩, e⟩
  · rw [e] at hx
    split at hx
    · rename_i h1
      injection hx with hx; subst hx; subst h1
      refine ⟨_, List.getElem?_eq_getElem hi, ?_⟩
      rwa [List.getD_eq_getElem?_getD, List.getElem?_eq_getElem hi] at hv
    · exact h.T.tell x u hx
  · rw [e] at hx hy
    by_cases hxi : x = i <;> by_cases hyi : y = i
    · rw [hxi, hyi]
    · rw [if_pos hxi] at hx; rw [if_neg hyi] at hy
      injection hx with hx; subst hx; exact absurd hy (hno y)
    · rw [if_neg hxi] at hx; rw [if_pos hyi] at hy
      injection hy with hy; subst hy; exact absurd hx (hno x)
    · rw [if_neg hxi] at hx; rw [if_neg hyi] at hy; exact h.T.one x y u hx hy
  · rcases List.mem_or_eq_of_mem_set hz with h1 | h1
    · exact h.lo z h1
    · omega
/-- The others of who is pushed out are as strong as before. -/
theorem strong_keep (h : Cho n ws o) {o' : List Int} (h' : Cho n ws o') {j v : Nat} (hj : outF o j = some v) (hsame : ∀ x u, u ≠ v → (outF o' x = some u ↔ outF o x = some u)) {u : Nat} {w : List Nat} (hw : ws[j]? = some w) (hu : u ∈ w) (hne : u ≠ v) : strong ws ss o' u = strong ws ss o u := by
  have hwho : ∀ x, x ≠ v → who o' x = who o x := fun x hx => by
    cases h1 : who o x with
    | none => exact (who_none h'.T).2 (fun i hi => (who_none h.T).1 h1 i ((hsame i x hx).1 hi))
    | some k => exact (who_some h'.T).2 ((hsame k x hx).2 ((who_some h.T).1 h1))
  have key : ∀ f x, x ≠ v → (∀ k, who o x = some k → k ≠ j ∧ ¬ TG (Eg ws (outF o)) k j) → strF ws ss o' f x = strF ws ss o f x := fun f => by
    induction f with
    | zero => intro x _ _; rfl
    | succ f ih =>
      intro x hx hk
      rw [strF, strF, hwho x hx]
      cases h1 : who o x with
      | none => rfl
      | some k =>
        have hkx := (who_some h.T).1 h1
        obtain ⟨w', a1, a2, a3⟩ := h.get hkx
        simp only [a3]
        apply foldl_congr_mem
        intro s y hy
        by_cases e : y = x
        · rw [if_pos e, if_pos e]
        · rw [if_neg e, if_neg e]
          obtain ⟨b1, b2⟩ := hk k h1
          have hyv : y ≠ v := fun e2 => b2 (.single (h.edge hkx a1 (e2 ▸ hy) (e2 ▸ e) hj))
          rw [ih y hyv (fun k' hk' => ?_)]
          have ed := h.edge hkx a1 hy e ((who_some h.T).1 hk')
          exact ⟨fun e2 => b2 (.single (e2 ▸ ed)), fun p => b2 ((Relation.TransGen.single ed).trans p)⟩
  refine key _ u hne (fun k hk => ?_)
  have ed := h.edge hj hw hu hne ((who_some h.T).1 hk)
  exact ⟨fun e => (e ▸ ed).irr, fun p => Eg.never h.F h.T j ((Relation.TransGen.single ed).trans p)⟩
end
/-! ## it never gets worse -/
/-- What comes of enforcing i0: nothing, or it tells, and at most a weaker one does not any more. -/
def Enf (n : Nat) (ws : List (List Nat)) (ss : List Int) (o0 : List Int) (i0 : Nat) (o : List Int) : Prop := Cho n ws o ∧
  ((o = o0 ∧ wk ws ss o0 i0 [] = none) ∨ (∀ x, (outF o x).isSome = true ↔ x = i0 ∨ (outF o0 x).isSome = true) ∨
    ∃ k, k ≠ i0 ∧ (outF o0 k).isSome = true ∧ ss.getD i0 0 < ss.getD k 0 ∧ ∀ x, (outF o x).isSome = true ↔ (x = i0 ∨ (outF o0 x).isSome = true) ∧ x ≠ k)
structure EInv (n : Nat) (ws : List (List Nat)) (ss : List Int) (o0 : List Int) (i0 : Nat) (o : List Int) (i : Nat) (T : List Nat) : Prop where
  c : Cho n ws o
  lt : i < ws.length
  no : outF o i = none
  set : ∀ x, (outF o x).isSome = true ↔ (x = i0 ∨ (outF o0 x).isSome = true) ∧ x ≠ i
  A : ∀ v, v ∉ T → ∀ x, outF o x = some v ↔ outF o0 x = some v
  B : ∀ u ∈ T, ∃ a w, ws[a]? = some w ∧ u ∈ w ∧ TG (Eg ws (outF o0)) a i
  C : (i = i0 ∧ o = o0 ∧ T = []) ∨ (i ≠ i0 ∧ (∃ v0 ∈ T, outF o0 i = some v0) ∧ (ss.getD i0 0 < ss.getD i 0 ∨ ∃ u ∈ ws.getD i [], u ∉ T ∧ ss.getD i0 0 < strong ws ss o u))
theorem EInv.start {n : Nat} {ws : List (List Nat)} {ss : List Int} {o0 : List Int} {i0 : Nat} (h : Cho n ws o0) (hi : i0 < ws.length) (hno : outF o0 i0 = none) : EInv n ws ss o0 i0 o0 i0 [] :=
  ⟨h, hi, hno, fun x => ⟨fun hx => ⟨.inr hx, fun e => by rw [e, hno] at hx; cases hx⟩, fun hx => by rcases hx.1 with h1 | h1; exact absurd h1 hx.2; exact h1⟩, fun _ _ _ => Iff.rfl, (fun u hu => by cases hu), .inl ⟨rfl, rfl, rfl⟩⟩
section
variable {n : Nat} {ws : List (List Nat)} {ss : List Int} {o0 o : List Int} {i0 i : Nat} {T : List Nat}
theorem EInv.mine (h : EInv n ws ss o0 i0 o i T) : i = i0 ∨ (outF o0 i).isSome = true := by
  rcases h.C with ⟨h1, _⟩ | ⟨_, ⟨v0, _, h1⟩, _⟩
  · exact .inl h1
  · exact .inr (by rw [h1]; rfl)
theorem EInv.over (h : EInv n ws ss o0 i0 o i T) {v : Nat} (hv : wk ws ss o i T = some v) : ss.getD i0 0 < strong ws ss o v := by
  obtain ⟨h1, h2, h3, h4⟩ := wk_some hv
  rcases h.C with ⟨h5, _⟩ | ⟨_, _, h5 | ⟨u, h5, h6, h7⟩⟩
  · rw [← h5]; exact h3
  · omega
  · have := h4 u h5 h6; omega
/-- One is pushed out. -/
theorem EInv.step (h0 : Cho n ws o0) (hno0 : outF o0 i0 = none) (h : EInv n ws ss o0 i0 o i T) {v j : Nat} (hv : wk ws ss o i T = some v) (hj : who o v = some j) : EInv n ws ss o0 i0 ((o.set j (-1)).set i (v : Int)) j (ws.getD i [] ++ T) := by
  obtain ⟨h1, h2, h3, h4⟩ := wk_some hv
  have hjo := (who_some h.c.T).1 hj
  have hij : i ≠ j := fun e => by rw [← e, h.no] at hjo; cases hjo
  obtain ⟨hc, he⟩ := h.c.move h.lt h1 hjo hij
  have hj0 : outF o0 j = some v := (h.A v h2 j).1 hjo
  have hji0 : j ≠ i0 := fun e => by rw [e, hno0] at hj0; cases hj0
  obtain ⟨wj, hwj, hvj, hgj⟩ := h0.get hj0
  have hwi : ws[i]? = some (ws.getD i []) := by
    rw [List.getD_eq_getElem?_getD, List.getElem?_eq_getElem h.lt]; rfl
  have hiv : outF o0 i ≠ some v := fun e => by
    rcases h.C with ⟨h5, _⟩ | ⟨_, ⟨v0, h5, h6⟩, _⟩
    · rw [h5, hno0] at e; cases e
    · rw [h6] at e; injection e with e; subst e; exact h2 h5
  have ed : Eg ws (outF o0) i j := ⟨_, v, hwi, h1, hj0, hiv⟩
  have hB : ∀ u ∈ ws.getD i [] ++ T, ∃ a w, ws[a]? = some w ∧ u ∈ w ∧ TG (Eg ws (outF o0)) a j := fun u hu => by
    rcases List.mem_append.1 hu with h5 | h5
    · exact ⟨i, _, hwi, h5, .single ed⟩
    · obtain ⟨a, w, h6, h7, h8⟩ := h.B u h5
      exact ⟨a, w, h6, h7, .tail h8 ed⟩
  refine ⟨hc, (List.getElem?_eq_some_iff.1 hwj).1, by rw [he, if_neg hij.symm, if_pos rfl], fun x => ?_, fun u hu x => ?_, hB, .inr ⟨hji0, ⟨v, List.mem_append_left _ h1, hj0⟩, ?_⟩⟩
  · rw [he]
    by_cases e1 : x = i
    · subst e1; rw [if_pos rfl]; simp only [Option.isSome_some, true_iff]; exact ⟨h.mine, hij⟩
    · rw [if_neg e1]
      by_cases e2 : x = j
      · subst e2; rw [if_pos rfl]; simp
      · rw [if_neg e2, h.set x]
        constructor
        · exact fun h5 => ⟨h5.1, e2⟩
        · exact fun h5 => ⟨h5.1, e1⟩
  · have hu1 : u ∉ ws.getD i [] := fun e => hu (List.mem_append_left _ e)
    have hu2 : u ∉ T := fun e => hu (List.mem_append_right _ e)
    have huv : u ≠ v := fun e => hu1 (e ▸ h1)
    rw [← h.A u hu2 x, he]
    by_cases e1 : x = i
    · subst e1; rw [if_pos rfl, h.no]
      constructor
      · intro e; injection e with e; exact absurd e.symm huv
      · intro e; cases e
    · rw [if_neg e1]
      by_cases e2 : x = j
      · subst e2; rw [if_pos rfl, hjo]
        constructor
        · intro e; cases e
        · intro e; injection e with e; exact absurd e.symm huv
      · rw [if_neg e2]
  · have h5 := h.over hv
    rw [strong_some h.c hj, fold_gt] at h5
    rcases h5 with h5 | ⟨u, h6, h7, h8⟩
    · exact .inl h5
    · refine .inr ⟨u, h6, fun hu => ?_, ?_⟩
      · obtain ⟨a, w, h9, h10, h11⟩ := hB u hu
        exact Eg.once h0.F h0.T h11 h9 hwj h10 (hgj ▸ h6) (by rw [hj0]; intro e; injection e with e; exact h7 e.symm)
      · rw [strong_keep h.c hc hjo (fun x y hy => ?_) hwj (hgj ▸ h6) h7]
        · exact h8
        · rw [he]
          by_cases e1 : x = i
          · subst e1; rw [if_pos rfl, h.no]
            constructor
            · intro e; injection e with e; exact absurd e.symm hy
            · intro e; cases e
          · rw [if_neg e1]
            by_cases e2 : x = j
            · subst e2; rw [if_pos rfl, hjo]
              constructor
              · intro e; cases e
              · intro e; injection e with e; exact absurd e.symm hy
            · rw [if_neg e2]
theorem EInv.stop (h : EInv n ws ss o0 i0 o i T) (hv : wk ws ss o i T = none) : Enf n ws ss o0 i0 o := by
  refine ⟨h.c, ?_⟩
  rcases h.C with ⟨h1, h2, h3⟩ | ⟨h1, ⟨v0, h2, h3⟩, h4⟩
  · subst h1; subst h2; subst h3; exact .inl ⟨rfl, hv⟩
  · refine .inr (.inr ⟨i, h1, by rw [h3]; rfl, ?_, h.set⟩)
    rcases h4 with h4 | ⟨u, h5, h6, h7⟩
    · exact h4
    · have := wk_none hv u h5 h6; omega
theorem EInv.done (h : EInv n ws ss o0 i0 o i T) {v : Nat} (hv : wk ws ss o i T = some v) (hj : who o v = none) : Enf n ws ss o0 i0 (o.set i (v : Int)) := by
  obtain ⟨h1, h2, h3, h4⟩ := wk_some hv
  obtain ⟨hc, he⟩ := h.c.add h.lt h1 ((who_none h.c.T).1 hj)
  refine ⟨hc, .inr (.inl fun x => ?_)⟩
  rw [he]
  by_cases e : x = i
  · subst e; rw [if_pos rfl]; simp only [Option.isSome_some, true_iff]; exact h.mine
  · rw [if_neg e, h.set x]
    exact ⟨fun h5 => h5.1, fun h5 => ⟨h5, e⟩⟩
theorem EInv.all (h0 : Cho n ws o0) (hno0 : outF o0 i0 = none) : ∀ f {o : List Int} {i : Nat} {T : List Nat}, EInv n ws ss o0 i0 o i T → free n T < f → Enf n ws ss o0 i0 (enfF ws ss f o i T)
  | 0, o, i, T, h, hf => by omega
  | f + 1, o, i, T, h, hf => by
    rw [enfF]
    cases h1 : wk ws ss o i T with
    | none => exact h.stop h1
    | some v =>
      simp only
      cases h2 : who o v with
      | none => exact h.done h1 h2
      | some j =>
        simp only
        obtain ⟨h3, h4, _, _⟩ := wk_some h1
        have hwi : ws[i]? = some (ws.getD i []) := by
          rw [List.getD_eq_getElem?_getD, List.getElem?_eq_getElem h.lt]; rfl
        have hvn : v < n := h0.F.inW _ (List.mem_of_getElem? hwi) v h3
        exact EInv.all h0 hno0 f (h.step h0 hno0 h1 h2) (by have := free_lt hvn h3 h4; omega)
end
/-- A constraint is enforced. -/
def enf (n : Nat) (ws : List (List Nat)) (ss : List Int) (o : List Int) (i : Nat) : List Int := enfF ws ss (n + 1) o i []
theorem enf_spec {n : Nat} {ws : List (List Nat)} {ss : List Int} {o : List Int} {i : Nat} (h : Cho n ws o) (hi : i < ws.length) (hno : outF o i = none) : Enf n ws ss o i (enf n ws ss o i) :=
  EInv.all h hno (n + 1) (EInv.start h hi hno) (by rw [free_nil]; omega)
/-! ## how much is not told -/
def nlv (m : Nat) (ss : List Int) (p : Nat → Bool) (t : Int) : Nat := (List.range m).countP (fun i => !(p i) && decide (ss.getD i 0 = t))
/-- The weight of who tells none. -/
def wgt (m : Nat) (ss : List Int) (p : Nat → Bool) : Nat := nlv m ss p 0 * 4362470401 + nlv m ss p 1 * 16974593 + nlv m ss p 2 * 66049 + nlv m ss p 3 * 257 + nlv m ss p 4
theorem nlv_le (m : Nat) (ss : List Int) (p : Nat → Bool) (t : Int) : nlv m ss p t ≤ m := by
  unfold nlv
  have h := List.countP_le_length (p := fun i => !(p i) && decide (ss.getD i 0 = t)) (l := List.range m)
  rwa [List.length_range] at h
theorem nlv_add {m : Nat} {ss : List Int} {p q : Nat → Bool} {k : Nat} (hk : k < m) (hp : p k = false) (hq : q k = true) (h : ∀ x, x ≠ k → q x = p x) (t : Int) : nlv m ss p t = nlv m ss q t + (if ss.getD k 0 = t then 1 else 0) := by
  unfold nlv
  by_cases e : ss.getD k 0 = t
  · rw [if_pos e]
    exact countP_one List.nodup_range (m := k) (by simpa using hk) (fun v _ hv => by rw [h v hv]) (by rw [hq]; simp) (by rw [hp]; simpa using e)
  · rw [if_neg e, Nat.add_zero]
    apply List.countP_congr
    intro v _
    by_cases ev : v = k
    · subst ev; rw [decide_eq_false e]; simp
    · rw [h v ev]
def tels (o : List Int) (x : Nat) : Bool := (outF o x).isSome
section
variable {n : Nat} {ws : List (List Nat)} {ss : List Int} {o o' : List Int} {i : Nat}
/-- Enforcing makes it lighter, or changes nothing. -/
theorem Enf.lighter (hs : ∀ s ∈ ss, 0 ≤ s ∧ s ≤ 4) (hsl : ss.length = ws.length) (hm : ws.length ≤ 256) (hi : i < ws.length) (hno : outF o i = none) (h : Enf n ws ss o i o') : (o' = o ∧ wk ws ss o i [] = none) ∨ wgt ws.length ss (tels o') < wgt ws.length ss (tels o) := by
  obtain ⟨hc, h1 | h1 | ⟨k, h1, h2, h3, h4⟩⟩ := h
  · exact .inl h1
  · right
    have e : ∀ t, nlv ws.length ss (tels o) t = nlv ws.length ss (tels o') t + (if ss.getD i 0 = t then 1 else 0) := nlv_add hi (by unfold tels; rw [hno]; rfl) ((h1 i).2 (.inl rfl)) (fun x hx => by
      unfold tels
      rw [Bool.eq_iff_iff, h1 x]
      exact ⟨fun h => by rcases h with h | h; exact absurd h hx; exact h, .inr⟩)
    have hsi : 0 ≤ ss.getD i 0 ∧ ss.getD i 0 ≤ 4 := by
      rw [List.getD_eq_getElem?_getD, List.getElem?_eq_getElem (by omega)]; exact hs _ (List.getElem_mem _)
    unfold wgt
    rw [e 0, e 1, e 2, e 3, e 4]
    split <;> split <;> split <;> split <;> split <;> omega
  · right
    have hkm : k < ws.length := by
      cases h5 : outF o k with
      | none => rw [h5] at h2; cases h2
      | some v => exact (by
          have := outF_some.1 h5
          obtain ⟨h6, _⟩ := List.getElem?_eq_some_iff.1 this
          have := hc.len
          by_cases h7 : k < ws.length
          · exact h7
          · exfalso
            have h8 : ss.getD k 0 = 0 := by rw [List.getD_eq_getElem?_getD, List.getElem?_eq_none (by omega)]; rfl
            have hsi : 0 ≤ ss.getD i 0 := by
              rw [List.getD_eq_getElem?_getD, List.getElem?_eq_getElem (by omega)]; exact (hs _ (List.getElem_mem _)).1
            omega)
    -- in between: i tells, too
    have e1 : ∀ t, nlv ws.length ss (tels o) t = nlv ws.length ss (fun x => tels o x || decide (x = i)) t + (if ss.getD i 0 = t then 1 else 0) := nlv_add hi (by unfold tels; rw [hno]; rfl) (by simp) (fun x hx => by simp [hx])
    have e2 : ∀ t, nlv ws.length ss (tels o') t = nlv ws.length ss (fun x => tels o x || decide (x = i)) t + (if ss.getD k 0 = t then 1 else 0) := nlv_add hkm (by
        unfold tels
        cases h5 : (outF o' k).isSome with
        | false => rfl
        | true => exact absurd rfl ((h4 k).1 h5).2) (by unfold tels; rw [h2]; rfl) (fun x hx => by
      rw [Bool.eq_iff_iff]
      unfold tels
      rw [h4 x, Bool.or_eq_true, decide_eq_true_eq]
      exact ⟨fun h => ⟨by rcases h with h | h; exact .inr h; exact .inl h, hx⟩, fun h => by rcases h.1 with h | h; exact .inr h; exact .inl h⟩)
    have hsi : 0 ≤ ss.getD i 0 ∧ ss.getD i 0 ≤ 4 := by
      rw [List.getD_eq_getElem?_getD, List.getElem?_eq_getElem (by omega)]; exact hs _ (List.getElem_mem _)
    have hsk : 0 ≤ ss.getD k 0 ∧ ss.getD k 0 ≤ 4 := by
      rw [List.getD_eq_getElem?_getD, List.getElem?_eq_getElem (by omega)]; exact hs _ (List.getElem_mem _)
    have key : ∀ a b : Int, 0 ≤ a → a ≤ 4 → 0 ≤ b → b ≤ 4 → a < b → ∀ c : Int → Nat, (c 0 + if b = 0 then 1 else 0) * 4362470401 + (c 1 + if b = 1 then 1 else 0) * 16974593 + (c 2 + if b = 2 then 1 else 0) * 66049 + (c 3 + if b = 3 then 1 else 0) * 257 + (c 4 + if b = 4 then 1 else 0) < (c 0 + if a = 0 then 1 else 0) * 4362470401 + (c 1 + if a = 1 then 1 else 0) * 16974593 + (c 2 + if a = 2 then 1 else 0) * 66049 + (c 3 + if a = 3 then 1 else 0) * 257 + (c 4 + if a = 4 then 1 else 0) := fun a b h1 h2 h3 h4 h5 c => by
      have ha : a = 0 ∨ a = 1 ∨ a = 2 ∨ a = 3 ∨ a = 4 := by omega
      have hb : b = 0 ∨ b = 1 ∨ b = 2 ∨ b = 3 ∨ b = 4 := by omega
      rcases ha with rfl | rfl | rfl | rfl | rfl <;> rcases hb with rfl | rfl | rfl | rfl | rfl <;> simp at * <;> omega
    unfold wgt
    rw [e1 0, e1 1, e1 2, e1 3, e1 4, e2 0, e2 1, e2 2, e2 3, e2 4]
    exact key _ _ hsi.1 hsi.2 hsk.1 hsk.2 h3 _
end
end Go.Proofs.Ytfpipaoobmcomaa
