/- Forests of constraints: who tells whom never comes back; how strong a variable is. Nothing of a program in sight. -/
import Derived.Test.YtfpipaoobmcomaaGraph
namespace Go.Proofs.Ytfpipaoobmcomaa
set_option linter.unusedVariables false
set_option linter.unusedSimpArgs false
/-- All rows are apart when they come. -/
structure Forest (n : Nat) (ws : List (List Nat)) : Prop where
  inW : InW n ws
  first : firstW (List.range n) ws 0 = none
/-- The label of a variable ahead of the k-th row. -/
noncomputable def stg (n : Nat) (ws : List (List Nat)) (k v : Nat) : Nat := lab (apAll (List.range n) (ws.take k)) v
theorem inj_of_nodup {f : Nat → Nat} : ∀ {w : List Nat}, (w.map f).Nodup → ∀ {x y : Nat}, x ∈ w → y ∈ w → f x = f y → x = y
  | [], _, x, y, hx, _, _ => by cases hx
  | a :: w, h, x, y, hx, hy, e => by
    rw [List.map_cons, List.nodup_cons] at h
    rcases List.mem_cons.1 hx with h1 | h1
    · rcases List.mem_cons.1 hy with h2 | h2
      · rw [h1, h2]
      · exact absurd (List.mem_map.2 ⟨y, h2, by rw [← e, h1]⟩) h.1
    · rcases List.mem_cons.1 hy with h2 | h2
      · exact absurd (List.mem_map.2 ⟨x, h1, by rw [e, h2]⟩) h.1
      · exact inj_of_nodup h.2 h1 h2 e
section
variable {n : Nat} {ws : List (List Nat)}
theorem take_in (hF : Forest n ws) (k : Nat) : InW n (ws.take k) := fun w hw => hF.inW w (List.mem_of_mem_take hw)
theorem Forest.same (hF : Forest n ws) {i k : Nat} {w : List Nat} (hw : ws[i]? = some w) (hi : i < k) {x y : Nat} (hx : x ∈ w) (hy : y ∈ w) : stg n ws k x = stg n ws k y := by
  have h1 := (apAll_facts (Lab.start n) (take_in hF k)).2.1
  refine h1 w ?_ x hx y hy
  have h2 : (ws.take k)[i]? = some w := by rw [List.getElem?_take, if_pos hi]; exact hw
  exact List.mem_of_getElem? h2
theorem Forest.apart (hF : Forest n ws) {k : Nat} {w : List Nat} (hw : ws[k]? = some w) {x y : Nat} (hx : x ∈ w) (hy : y ∈ w) (e : stg n ws k x = stg n ws k y) : x = y := by
  obtain ⟨hk, hwk⟩ := List.getElem?_eq_some_iff.1 hw
  have e1 : ws = ws.take k ++ w :: ws.drop (k + 1) := by
    rw [← hwk, ← List.drop_eq_getElem_cons hk, List.take_append_drop]
  have h1 := hF.first
  rw [e1, firstW_append] at h1
  have h2 : okW (apAll (List.range n) (ws.take k)) w = true := by
    cases h3 : firstW (List.range n) (ws.take k) 0 with
    | some z => rw [h3] at h1; cases h1
    | none =>
      rw [h3] at h1
      simp only [firstW] at h1
      by_cases h4 : okW (apAll (List.range n) (ws.take k)) w = true
      · exact h4
      · rw [if_neg h4] at h1; cases h1
  have h3 := (okW_apart ((Lab.start n).apAll (take_in hF k)) (hF.inW w (List.mem_of_getElem? hw))).1 h2
  exact inj_of_nodup h3 hx hy e
theorem firstW_shift (l : List Nat) : ∀ (ws : List (List Nat)) (i j : Nat), firstW l ws i = none ↔ firstW l ws j = none := fun ws => by
  induction ws generalizing l with
  | nil => intro i j; simp [firstW]
  | cons w ws ih =>
    intro i j
    simp only [firstW]
    split
    · exact ih _ _ _
    · simp
end
/-- Each tells one of its variables, no two the same. -/
structure Tell (ws : List (List Nat)) (out : Nat → Option Nat) : Prop where
  tell : ∀ i v, out i = some v → ∃ w, ws[i]? = some w ∧ v ∈ w
  one : ∀ i j v, out i = some v → out j = some v → i = j
/-- The other variables of i: j tells one of them. -/
def Eg (ws : List (List Nat)) (out : Nat → Option Nat) (i j : Nat) : Prop := ∃ w v, ws[i]? = some w ∧ v ∈ w ∧ out j = some v ∧ out i ≠ some v
abbrev TG (r : Nat → Nat → Prop) := Relation.TransGen r
section
variable {n : Nat} {ws : List (List Nat)} {out : Nat → Option Nat}
def Rk (ws : List (List Nat)) (out : Nat → Option Nat) (k i j : Nat) : Prop := Eg ws out i j ∧ i < k ∧ j < k
theorem TG.mono {r s : Nat → Nat → Prop} (h : ∀ a b, r a b → s a b) {a b : Nat} (p : TG r a b) : TG s a b := by
  induction p with
  | single h1 => exact .single (h _ _ h1)
  | tail _ h1 ih => exact .tail ih (h _ _ h1)
theorem Rk.lt {k a b : Nat} (p : TG (Rk ws out k) a b) : a < k ∧ b < k := by
  induction p with
  | single h => exact h.2
  | tail _ h ih => exact ⟨ih.1, h.2.2⟩
theorem Rk.up {k a b : Nat} (h : Rk ws out k a b) : Rk ws out (k + 1) a b := ⟨h.1, by have := h.2; omega, by have := h.2; omega⟩
/-- Along a path all told variables are joined. -/
theorem Rk.conn (hF : Forest n ws) (hT : Tell ws out) {k a b : Nat} (p : TG (Rk ws out k) a b) {x y : Nat} (hx : out a = some x) (hy : out b = some y) : stg n ws k x = stg n ws k y := by
  induction p generalizing y with
  | single h =>
    obtain ⟨⟨w, v, h1, h2, h3, h4⟩, h5, _⟩ := h
    obtain ⟨w', h6, h7⟩ := hT.tell _ _ hx
    rw [h1] at h6; injection h6 with h6; subst h6
    rw [hy] at h3; injection h3 with h3; subst h3
    exact hF.same h1 h5 h7 h2
  | @tail b c p h ih =>
    obtain ⟨⟨w, v, h1, h2, h3, h4⟩, h5, _⟩ := h
    rw [hy] at h3; injection h3 with h3; subst h3
    obtain ⟨z, hz⟩ : ∃ z, out b = some z := by
      cases p with
      | single q => obtain ⟨⟨_, z, _, _, q3, _⟩, _⟩ := q; exact ⟨z, q3⟩
      | tail _ q => obtain ⟨⟨_, z, _, _, q3, _⟩, _⟩ := q; exact ⟨z, q3⟩
    obtain ⟨w', h6, h7⟩ := hT.tell _ _ hz
    rw [h1] at h6; injection h6 with h6; subst h6
    rw [ih hz]
    exact hF.same h1 h5 h7 h2
theorem Rk.reach {k a b : Nat} (p : TG (Rk ws out (k + 1)) a b) (ha : a < k) :
    (∃ q, (q = a ∨ TG (Rk ws out k) a q) ∧ q < k ∧ Eg ws out q k ∧ (k = b ∨ TG (Rk ws out (k + 1)) k b)) ∨ (b < k ∧ TG (Rk ws out k) a b) := by
  induction p with
  | @single b h =>
    rcases Nat.lt_or_ge b k with h1 | h1
    · exact .inr ⟨h1, .single ⟨h.1, ha, h1⟩⟩
    · have : b = k := by have := h.2.2; omega
      subst this
      exact .inl ⟨a, .inl rfl, ha, h.1, .inl rfl⟩
  | @tail b c p h ih =>
    rcases ih with ⟨q, h1, h2, h3, h4⟩ | ⟨h1, h2⟩
    · refine .inl ⟨q, h1, h2, h3, .inr ?_⟩
      rcases h4 with h4 | h4
      · subst h4; exact .single h
      · exact .tail h4 h
    · rcases Nat.lt_or_ge c k with h3 | h3
      · exact .inr ⟨h3, .tail h2 ⟨h.1, h1, h3⟩⟩
      · have : c = k := by have := h.2.2; omega
        subst this
        exact .inl ⟨b, .inr h2, h1, h.1, .inl rfl⟩
theorem TG.head {r : Nat → Nat → Prop} {a b : Nat} (p : TG r a b) : ∃ c, r a c ∧ (c = b ∨ TG r c b) := by
  induction p with
  | single h => exact ⟨_, h, .inl rfl⟩
  | tail p h ih =>
    obtain ⟨c, h1, h2⟩ := ih
    refine ⟨c, h1, .inr ?_⟩
    rcases h2 with h2 | h2
    · subst h2; exact .single h
    · exact .tail h2 h
theorem Eg.irr {i : Nat} (h : Eg ws out i i) : False := by
  obtain ⟨w, v, _, _, h3, h4⟩ := h; exact h4 h3
theorem Rk.never (hF : Forest n ws) (hT : Tell ws out) : ∀ k i, ¬ TG (Rk ws out k) i i
  | 0, i, p => by have := (Rk.lt p).1; omega
  | k + 1, i, p => by
    have key : ¬ TG (Rk ws out (k + 1)) k k := fun p => by
      obtain ⟨r, h1, h2⟩ := TG.head p
      have hr : r < k := by
        rcases Nat.lt_or_ge r k with h | h
        · exact h
        · have : r = k := by have := h1.2.2; omega
          subst this; exact (h1.1.irr).elim
      have p2 : TG (Rk ws out (k + 1)) r k := by
        rcases h2 with h2 | h2
        · omega
        · exact h2
      rcases Rk.reach p2 hr with ⟨q, h3, h4, h5, _⟩ | ⟨h3, _⟩
      · obtain ⟨wk, x, a1, a2, a3, a4⟩ := h1.1
        obtain ⟨wq, y, b1, b2, b3, b4⟩ := h5
        obtain ⟨wk', c1, c2⟩ := hT.tell _ _ b3
        rw [a1] at c1; injection c1 with c1; subst c1
        obtain ⟨z, hz⟩ : ∃ z, out q = some z := by
          rcases h3 with h3 | h3
          · exact ⟨x, h3 ▸ a3⟩
          · cases h3 with
            | single q => obtain ⟨⟨_, z, _, _, q3, _⟩, _⟩ := q; exact ⟨z, q3⟩
            | tail _ q => obtain ⟨⟨_, z, _, _, q3, _⟩, _⟩ := q; exact ⟨z, q3⟩
        obtain ⟨wq', d1, d2⟩ := hT.tell _ _ hz
        rw [b1] at d1; injection d1 with d1; subst d1
        have e1 : stg n ws k x = stg n ws k z := by
          rcases h3 with h3 | h3
          · subst h3; rw [a3] at hz; injection hz with hz; subst hz; rfl
          · exact Rk.conn hF hT h3 a3 hz
        have e2 : stg n ws k z = stg n ws k y := hF.same b1 h4 d2 b2
        have := hF.apart a1 a2 c2 (e1.trans e2)
        subst this
        exact a4 b3
      · omega
    rcases Nat.lt_or_ge i k with hi | hi
    · rcases Rk.reach p hi with ⟨q, h1, h2, h3, h4⟩ | ⟨_, h1⟩
      · have p1 : TG (Rk ws out (k + 1)) i k := by
          have s : Rk ws out (k + 1) q k := ⟨h3, by omega, by omega⟩
          rcases h1 with h1 | h1
          · subst h1; exact .single s
          · exact .tail (TG.mono (fun _ _ => Rk.up) h1) s
        rcases h4 with h4 | h4
        · omega
        · exact key (h4.trans p1)
      · exact Rk.never hF hT k i h1
    · have : i = k := by have := (Rk.lt p).1; omega
      subst this; exact key p
theorem Eg.lt (hT : Tell ws out) {i j : Nat} (h : Eg ws out i j) : i < ws.length ∧ j < ws.length := by
  obtain ⟨w, v, h1, _, h3, _⟩ := h
  obtain ⟨w', h4, _⟩ := hT.tell _ _ h3
  exact ⟨(List.getElem?_eq_some_iff.1 h1).1, (List.getElem?_eq_some_iff.1 h4).1⟩
/-- Who tells whom never comes back. -/
theorem Eg.never (hF : Forest n ws) (hT : Tell ws out) (i : Nat) : ¬ TG (Eg ws out) i i := fun p =>
  Rk.never hF hT ws.length i (TG.mono (fun a b h => ⟨h, h.lt hT⟩) p)
/-- Along a path that tells no variable comes twice. -/
theorem Eg.once (hF : Forest n ws) (hT : Tell ws out) {a b u : Nat} {wa wb : List Nat} (p : TG (Eg ws out) a b) (ha : ws[a]? = some wa) (hb : ws[b]? = some wb) (hua : u ∈ wa) (hub : u ∈ wb) (hne : out b ≠ some u) : False := by
  have hasu : ∀ x : Nat, (∃ w, ws[x]? = some w ∧ u ∈ w) ∨ ¬ ∃ w, ws[x]? = some w ∧ u ∈ w := fun x => Classical.em _
  have last : ∃ a', (∃ w, ws[a']? = some w ∧ u ∈ w) ∧ (Eg ws out a' b ∨ ∃ c, TG (fun x y => Eg ws out x y ∧ ¬ ∃ w, ws[y]? = some w ∧ u ∈ w) a' c ∧ Eg ws out c b) := by
    clear hb hub hne
    induction p with
    | single h => exact ⟨a, ⟨wa, ha, hua⟩, .inl h⟩
    | @tail b c p h ih =>
      rcases hasu b with h1 | h1
      · exact ⟨b, h1, .inl h⟩
      · obtain ⟨a', h2, h3⟩ := ih
        refine ⟨a', h2, .inr ⟨b, ?_, h⟩⟩
        rcases h3 with h3 | ⟨c0, h3, h4⟩
        · exact .single ⟨h3, h1⟩
        · exact .tail h3 ⟨h4, h1⟩
  obtain ⟨a', ⟨wa', h1, h2⟩, h3⟩ := last
  -- the same choice, but a' tells u
  let out' : Nat → Option Nat := fun x => if x = a' then some u else if out x = some u then none else out x
  have o1 : out' a' = some u := if_pos rfl
  have o2 : ∀ x, x ≠ a' → out x ≠ some u → out' x = out x := fun x hx hy => by show (if _ then _ else _) = _; rw [if_neg hx, if_neg hy]
  have hT' : Tell ws out' := by
    refine ⟨fun i v h => ?_, fun i j v hi hj => ?_⟩
    · by_cases e : i = a'
      · subst e; rw [o1] at h; injection h with h; subst h; exact ⟨wa', h1, h2⟩
      · by_cases e2 : out i = some u
        · have : out' i = none := by show (if _ then _ else _) = _; rw [if_neg e, if_pos e2]
          rw [this] at h; cases h
        · rw [o2 i e e2] at h; exact hT.tell i v h
    · have nu : ∀ x, x ≠ a' → out' x = some v → out x = some v ∧ v ≠ u := fun x hx h => by
        by_cases e2 : out x = some u
        · have : out' x = none := by show (if _ then _ else _) = _; rw [if_neg hx, if_pos e2]
          rw [this] at h; cases h
        · rw [o2 x hx e2] at h; exact ⟨h, fun e => e2 (e ▸ h)⟩
      by_cases ei : i = a' <;> by_cases ej : j = a'
      · rw [ei, ej]
      · subst ei; rw [o1] at hi; injection hi with hi; exact absurd hi.symm (nu j ej hj).2
      · subst ej; rw [o1] at hj; injection hj with hj; exact absurd hj.symm (nu i ei hi).2
      · exact hT.one i j v (nu i ei hi).1 (nu j ej hj).1
  have hba : b ≠ a' := fun e => by
    subst e
    rcases h3 with h3 | ⟨c, h3, h4⟩
    · exact h3.irr
    · exact Eg.never hF hT b (.tail (TG.mono (fun _ _ h => h.1) h3) h4)
  have tellu : ∀ y, (¬ ∃ w, ws[y]? = some w ∧ u ∈ w) → y ≠ a' ∧ out y ≠ some u := fun y hy =>
    ⟨fun e => hy (e ▸ ⟨wa', h1, h2⟩), fun e => hy (hT.tell y u e)⟩
  -- a step from x, which is a' or lacks u, to y, which does not tell u
  have step : ∀ x y, (x = a' ∨ (x ≠ a' ∧ out x ≠ some u)) → y ≠ a' → out y ≠ some u → Eg ws out x y → Eg ws out' x y := fun x y hx hy1 hy2 h => by
    obtain ⟨w, v, e1, e2, e3, e4⟩ := h
    refine ⟨w, v, e1, e2, by rw [o2 y hy1 hy2]; exact e3, ?_⟩
    rcases hx with hx | ⟨hx1, hx2⟩
    · subst hx; rw [o1]; intro e; injection e with e; subst e; exact hy2 e3
    · rw [o2 x hx1 hx2]; exact e4
  have cyc : TG (Eg ws out') a' b := by
    rcases h3 with h3 | ⟨c, h3, h4⟩
    · exact .single (step a' b (.inl rfl) hba hne h3)
    · have pc : TG (Eg ws out') a' c ∧ (c ≠ a' ∧ out c ≠ some u) := by
        clear h4
        induction h3 with
        | single h => exact ⟨.single (step _ _ (.inl rfl) (tellu _ h.2).1 (tellu _ h.2).2 h.1), tellu _ h.2⟩
        | tail _ h ih => exact ⟨.tail ih.1 (step _ _ (.inr ih.2) (tellu _ h.2).1 (tellu _ h.2).2 h.1), tellu _ h.2⟩
      exact .tail pc.1 (step c b (.inr pc.2) hba hne h4)
  have back : Eg ws out' b a' := ⟨wb, u, hb, hub, o1, by rw [o2 b hba hne]; exact hne⟩
  exact Eg.never hF hT' a' (.tail cyc back)
/-! ## how far it goes -/
open Classical in
noncomputable def hgt (ws : List (List Nat)) (out : Nat → Option Nat) (i : Nat) : Nat := (List.range ws.length).countP (fun j => decide (TG (Eg ws out) i j))
theorem countP_lt_of {p q : Nat → Bool} : ∀ {L : List Nat}, (∀ x ∈ L, p x = true → q x = true) → ∀ {x : Nat}, x ∈ L → p x = false → q x = true → L.countP p < L.countP q
  | [], _, x, hx, _, _ => by cases hx
  | a :: L, h, x, hx, hp, hq => by
    have hle : L.countP p ≤ L.countP q := List.countP_mono_left (fun y hy => h y (by simp [hy]))
    rw [List.countP_cons, List.countP_cons]
    rcases List.mem_cons.1 hx with rfl | hx
    · rw [if_pos hq, if_neg (by rw [hp]; decide)]; omega
    · have := countP_lt_of (fun y hy => h y (by simp [hy])) hx hp hq
      have h2 := h a (by simp)
      by_cases h3 : p a = true
      · rw [if_pos h3, if_pos (h2 h3)]; omega
      · rw [if_neg h3]; omega
theorem hgt_lt (hF : Forest n ws) (hT : Tell ws out) {i j : Nat} (h : Eg ws out i j) : hgt ws out j < hgt ws out i := by
  classical
  refine countP_lt_of (fun x _ hx => ?_) (x := j) (by simpa using (h.lt hT).2) ?_ ?_
  · simp only [decide_eq_true_eq] at hx ⊢; exact Relation.TransGen.trans (.single h) hx
  · simp only [decide_eq_false_iff_not]; exact Eg.never hF hT j
  · simp only [decide_eq_true_eq]; exact .single h
theorem hgt_le (ws : List (List Nat)) (out : Nat → Option Nat) (i : Nat) : hgt ws out i ≤ ws.length := by
  have h := List.countP_le_length (p := fun j => @decide (TG (Eg ws out) i j) (Classical.propDecidable _)) (l := List.range ws.length)
  rw [List.length_range] at h
  exact h
end
end Go.Proofs.Ytfpipaoobmcomaa
