/- Labels of joined variables: a row of labels, how two are joined, counts, and that the order does not matter. Nothing of a program in sight. -/
import Derived.Test.YtfpipaoobmcomaaProg
namespace Go.Proofs.Ytfpipaoobmcomaa
set_option linter.unusedVariables false
set_option linter.unusedSimpArgs false
def lab (l : List Nat) (v : Nat) : Nat := l.getD v 0
theorem lab_eq {l : List Nat} {v : Nat} (h : v < l.length) : lab l v = l[v] := by simp [lab, List.getD, h]
theorem lab_set {l : List Nat} {i v x : Nat} (h : v < l.length) : lab (l.set i x) v = if i = v then x else lab l v := by
  rw [lab_eq (by simpa using h), lab_eq h, List.getElem_set]
/-- The labels behind a join of two variables. -/
def jn (l : List Nat) (a b : Nat) : List Nat := l.map fun z => if z = max (lab l a) (lab l b) then min (lab l a) (lab l b) else z
theorem jn_length (l : List Nat) (a b : Nat) : (jn l a b).length = l.length := by simp [jn]
theorem jn_lab {l : List Nat} {a b v : Nat} (h : v < l.length) : lab (jn l a b) v = if lab l v = max (lab l a) (lab l b) then min (lab l a) (lab l b) else lab l v := by
  rw [lab_eq (by rw [jn_length]; exact h), lab_eq h]
  simp [jn]
structure Lab (n : Nat) (l : List Nat) : Prop where
  len : l.length = n
  le : ∀ v, v < n → lab l v ≤ v
  idem : ∀ v, v < n → lab l (lab l v) = lab l v
theorem Lab.lt {n : Nat} {l : List Nat} (h : Lab n l) {v : Nat} (hv : v < n) : lab l v < n := Nat.lt_of_le_of_lt (h.le v hv) hv
theorem minmax_cases (x y : Nat) : (min x y = x ∧ max x y = y) ∨ (min x y = y ∧ max x y = x) := by omega
theorem Lab.jn {n : Nat} {l : List Nat} (h : Lab n l) {a b : Nat} (ha : a < n) (hb : b < n) : Lab n (jn l a b) := by
  have hl := h.len
  have xa := h.lt ha
  have xb := h.lt hb
  have ia := h.idem a ha
  have ib := h.idem b hb
  refine ⟨by rw [jn_length]; exact h.len, fun v hv => ?_, fun v hv => ?_⟩
  · rw [jn_lab (by omega)]
    have := h.le v hv
    split <;> omega
  · have e1 := jn_lab (l := l) (a := a) (b := b) (v := v) (by omega)
    have hv2 := h.lt hv
    have iv := h.idem v hv
    rw [e1]
    split
    · have hm : min (lab l a) (lab l b) < l.length := by omega
      have im : lab l (min (lab l a) (lab l b)) = min (lab l a) (lab l b) := by
        rcases minmax_cases (lab l a) (lab l b) with ⟨h1, _⟩ | ⟨h1, _⟩ <;> rw [h1] <;> assumption
      rw [jn_lab hm, im]
      split <;> rfl
    · rw [jn_lab (by omega), iv]
      rw [if_neg (by assumption)]
theorem Lab.start (n : Nat) : Lab n (List.range n) := by
  have h : ∀ v, v < n → lab (List.range n) v = v := fun v hv => by rw [lab_eq (by simpa using hv)]; simp
  exact ⟨by simp, fun v hv => by rw [h v hv]; exact Nat.le_refl _, fun v hv => by rw [h v hv, h v hv]⟩
/-- A forest of parents that stands for labels. -/
structure UF (n : Nat) (r l : List Nat) : Prop where
  ok : Lab n l
  len : r.length = n
  le : ∀ v, v < n → lab r v ≤ v
  same : ∀ v, v < n → lab l (lab r v) = lab l v
  root : ∀ v, v < n → lab r v = v → lab l v = v
theorem UF.start (n : Nat) : UF n (List.range n) (List.range n) := by
  have h : ∀ v, v < n → lab (List.range n) v = v := fun v hv => by rw [lab_eq (by simpa using hv)]; simp
  exact ⟨Lab.start n, by simp, fun v hv => by rw [h v hv]; exact Nat.le_refl _, fun v hv => by rw [h v hv, h v hv], fun v hv e => e⟩
theorem UF.half {n : Nat} {r l : List Nat} (h : UF n r l) {v : Nat} (hv : v < n) (hne : lab r v ≠ v) : UF n (r.set v (lab r (lab r v))) l := by
  have h1 := h.le v hv
  have h2 : lab r v < n := by omega
  have h3 := h.le _ h2
  have hl := h.len
  refine ⟨h.ok, by simpa using h.len, fun u hu => ?_, fun u hu => ?_, fun u hu => ?_⟩
  · rw [lab_set (by omega)]; split
    · omega
    · exact h.le u hu
  · rw [lab_set (by omega)]; split
    · rename_i e; subst e; rw [h.same _ h2, h.same _ hv]
    · exact h.same u hu
  · rw [lab_set (by omega)]; split
    · intro e; omega
    · exact h.root u hu
theorem UF.join {n : Nat} {r l : List Nat} (h : UF n r l) {a b : Nat} (ha : a < n) (hb : b < n) :
    UF n (r.set (max (lab l a) (lab l b)) (min (lab l a) (lab l b))) (jn l a b) := by
  have hl := h.len
  have hll := h.ok.len
  have xa := h.ok.lt ha
  have xb := h.ok.lt hb
  have ia := h.ok.idem a ha
  have ib := h.ok.idem b hb
  have im : lab l (min (lab l a) (lab l b)) = min (lab l a) (lab l b) := by
    rcases minmax_cases (lab l a) (lab l b) with ⟨h1, _⟩ | ⟨h1, _⟩ <;> rw [h1] <;> assumption
  have iM : lab l (max (lab l a) (lab l b)) = max (lab l a) (lab l b) := by
    rcases minmax_cases (lab l a) (lab l b) with ⟨_, h1⟩ | ⟨_, h1⟩ <;> rw [h1] <;> assumption
  generalize hx : lab l a = x at *
  generalize hy : lab l b = y at *
  have J : ∀ v, v < n → lab (jn l a b) v = if lab l v = max x y then min x y else lab l v := fun v hv => by rw [jn_lab (by omega), hx, hy]
  refine ⟨h.ok.jn ha hb, by simpa using h.len, fun u hu => ?_, fun u hu => ?_, fun u hu => ?_⟩
  · rw [lab_set (by omega)]; split
    · omega
    · exact h.le u hu
  · rw [lab_set (by omega)]; split
    · rename_i e; subst e
      rw [J _ (by omega), J _ (by omega), im, iM, if_pos rfl]; split <;> rfl
    · have := h.le u hu
      rw [J _ (by omega), J _ hu, h.same u hu]
  · rw [lab_set (by omega)]; split
    · rename_i e; subst e; intro e2
      rw [J _ (by omega), iM, if_pos rfl]; exact e2
    · rename_i hne
      intro e
      have e2 := h.root u hu e
      rw [J _ hu, e2, if_neg (fun h9 => hne h9.symm)]
/-! ## constraints as rows of variables -/
def okS (l : List Nat) (a : Nat) : List Nat → Bool
  | [] => true
  | b :: r => decide (lab l a ≠ lab l b) && okS (jn l a b) a r
def apS (l : List Nat) (a : Nat) : List Nat → List Nat
  | [] => l
  | b :: r => apS (jn l a b) a r
def okW (l : List Nat) : List Nat → Bool
  | [] => true
  | a :: r => okS l a r
def apW (l : List Nat) : List Nat → List Nat
  | [] => l
  | a :: r => apS l a r
def apAll (l : List Nat) : List (List Nat) → List Nat
  | [] => l
  | w :: ws => apAll (apW l w) ws
/-- The first row of which two were joined ahead. -/
def firstW (l : List Nat) : List (List Nat) → Nat → Option Nat
  | [], _ => none
  | w :: ws, i => if okW l w = true then firstW (apW l w) ws (i + 1) else some i
theorem okS_snoc (l : List Nat) (a : Nat) (r : List Nat) (b : Nat) : okS l a (r ++ [b]) = (okS l a r && decide (lab (apS l a r) a ≠ lab (apS l a r) b)) := by
  induction r generalizing l with
  | nil => show (decide (lab l a ≠ lab l b) && true) = (true && decide (lab l a ≠ lab l b)); rw [Bool.and_true, Bool.true_and]
  | cons c r ih =>
    show (decide (lab l a ≠ lab l c) && okS (jn l a c) a (r ++ [b])) = ((decide (lab l a ≠ lab l c) && okS (jn l a c) a r) && _)
    rw [ih, Bool.and_assoc]; rfl
theorem apS_snoc (l : List Nat) (a : Nat) (r : List Nat) (b : Nat) : apS l a (r ++ [b]) = jn (apS l a r) a b := by
  induction r generalizing l with
  | nil => rfl
  | cons c r ih => simp only [List.cons_append, apS, ih]
theorem apAll_snoc (l : List Nat) (ws : List (List Nat)) (w : List Nat) : apAll l (ws ++ [w]) = apW (apAll l ws) w := by
  induction ws generalizing l with
  | nil => rfl
  | cons c r ih => simp only [List.cons_append, apAll, ih]
theorem apAll_append (l : List Nat) (ws us : List (List Nat)) : apAll l (ws ++ us) = apAll (apAll l ws) us := by
  induction ws generalizing l with
  | nil => rfl
  | cons c r ih => simp only [List.cons_append, apAll, ih]
theorem firstW_append (l : List Nat) (ws us : List (List Nat)) (i : Nat) : firstW l (ws ++ us) i = match firstW l ws i with | some k => some k | none => firstW (apAll l ws) us (i + ws.length) := by
  induction ws generalizing l i with
  | nil => rfl
  | cons c r ih =>
    simp only [List.cons_append, firstW]
    split
    · rw [ih]
      have : i + 1 + r.length = i + (c :: r).length := by simp; omega
      rw [this]; rfl
    · rfl
theorem firstW_ge {l : List Nat} {ws : List (List Nat)} {i k : Nat} (h : firstW l ws i = some k) : i ≤ k ∧ k < i + ws.length := by
  induction ws generalizing l i with
  | nil => cases h
  | cons c r ih =>
    simp only [firstW] at h
    split at h
    · have := ih h; simp; omega
    · injection h with h; simp; omega
/-- Rows of variables that are there. -/
def InW (n : Nat) (ws : List (List Nat)) : Prop := ∀ w ∈ ws, ∀ v ∈ w, v < n
theorem Lab.apS {n : Nat} {l : List Nat} (h : Lab n l) {a : Nat} (ha : a < n) {r : List Nat} (hr : ∀ v ∈ r, v < n) : Lab n (apS l a r) := by
  induction r generalizing l with
  | nil => exact h
  | cons b r ih => exact ih (h.jn ha (hr b (by simp))) (fun v hv => hr v (by simp [hv]))
theorem Lab.apW {n : Nat} {l : List Nat} (h : Lab n l) {w : List Nat} (hw : ∀ v ∈ w, v < n) : Lab n (apW l w) := by
  cases w with
  | nil => exact h
  | cons a r => exact h.apS (hw a (by simp)) (fun v hv => hw v (by simp [hv]))
theorem Lab.apAll {n : Nat} {l : List Nat} (h : Lab n l) {ws : List (List Nat)} (hw : InW n ws) : Lab n (apAll l ws) := by
  induction ws generalizing l with
  | nil => exact h
  | cons w r ih => exact ih (h.apW (hw w (by simp))) (fun x hx => hw x (by simp [hx]))
/-! ## how many are joined to a lesser one -/
def lessP (l : List Nat) (v : Nat) : Bool := decide (lab l v ≠ v)
def lessN (n : Nat) (l : List Nat) : Nat := (List.range n).countP (lessP l)
theorem countP_one {p q : Nat → Bool} {L : List Nat} (hn : L.Nodup) {m : Nat} (hm : m ∈ L) (h : ∀ v ∈ L, v ≠ m → q v = p v) (hp : p m = false) (hq : q m = true) : L.countP q = L.countP p + 1 := by
  induction L with
  | nil => cases hm
  | cons x L ih =>
    rw [List.nodup_cons] at hn
    rw [List.countP_cons, List.countP_cons]
    by_cases hx : x = m
    · subst hx
      have : L.countP q = L.countP p := by
        apply List.countP_congr
        intro v hv
        rw [h v (by simp [hv]) (fun e => hn.1 (e ▸ hv))]
      simp [hp, hq, this]
    · have hm' : m ∈ L := by simpa [Ne.symm hx] using hm
      rw [ih hn.2 hm' (fun v hv => h v (by simp [hv])), h x (by simp) hx]
      omega
theorem lessN_jn {n : Nat} {l : List Nat} (h : Lab n l) {a b : Nat} (ha : a < n) (hb : b < n) : lessN n (jn l a b) = if lab l a = lab l b then lessN n l else lessN n l + 1 := by
  have hl := h.len
  have xa := h.lt ha
  have xb := h.lt hb
  have ia := h.idem a ha
  have ib := h.idem b hb
  have iM : lab l (max (lab l a) (lab l b)) = max (lab l a) (lab l b) := by
    rcases minmax_cases (lab l a) (lab l b) with ⟨_, h1⟩ | ⟨_, h1⟩ <;> rw [h1] <;> assumption
  by_cases he : lab l a = lab l b
  · rw [if_pos he]
    unfold lessN
    apply List.countP_congr
    intro v hv
    have hv' : v < l.length := by simp at hv; omega
    unfold lessP
    rw [jn_lab hv', he]
    simp only [Nat.max_self, Nat.min_self]
    split
    · rename_i e; rw [← e]
    · rfl
  · rw [if_neg he]
    unfold lessN
    refine countP_one List.nodup_range (m := max (lab l a) (lab l b)) (by simp; omega) (fun v hv hne => ?_) ?_ ?_
    · have hv' : v < l.length := by simp at hv; omega
      unfold lessP
      rw [jn_lab hv']
      split
      · rename_i e
        congr 1; apply propext
        have := h.le v (by omega)
        omega
      · rfl
    · unfold lessP; rw [iM]; simp
    · unfold lessP; rw [jn_lab (by omega), iM, if_pos rfl]; simp; omega
theorem lessN_apS {n : Nat} {l : List Nat} (h : Lab n l) {a : Nat} (ha : a < n) {r : List Nat} (hr : ∀ v ∈ r, v < n) : lessN n (apS l a r) ≤ lessN n l + r.length ∧ (okS l a r = true ↔ lessN n (apS l a r) = lessN n l + r.length) := by
  induction r generalizing l with
  | nil => simp [apS, okS]
  | cons b r ih =>
    have hb := hr b (by simp)
    have i1 := ih (h.jn ha hb) (fun v hv => hr v (by simp [hv]))
    have i2 := lessN_jn h ha hb
    simp only [apS, okS, List.length_cons, Bool.and_eq_true, decide_eq_true_eq]
    by_cases he : lab l a = lab l b
    · rw [if_pos he] at i2
      refine ⟨by omega, ⟨fun h9 => absurd he h9.1, fun h9 => by omega⟩⟩
    · rw [if_neg he] at i2
      refine ⟨by omega, ⟨fun h9 => by have := i1.2.1 h9.2; omega, fun h9 => ⟨he, i1.2.2 (by omega)⟩⟩⟩
def joins (ws : List (List Nat)) : Nat := (ws.map fun w => w.length - 1).sum
theorem lessN_apW {n : Nat} {l : List Nat} (h : Lab n l) {w : List Nat} (hw : ∀ v ∈ w, v < n) : lessN n (apW l w) ≤ lessN n l + (w.length - 1) ∧ (okW l w = true ↔ lessN n (apW l w) = lessN n l + (w.length - 1)) := by
  cases w with
  | nil => simp [apW, okW]
  | cons a r => exact lessN_apS h (hw a (by simp)) (fun v hv => hw v (by simp [hv]))
theorem lessN_apAll {n : Nat} {l : List Nat} (h : Lab n l) {ws : List (List Nat)} (hw : InW n ws) (i : Nat) : lessN n (apAll l ws) ≤ lessN n l + joins ws ∧ (firstW l ws i = none ↔ lessN n (apAll l ws) = lessN n l + joins ws) := by
  induction ws generalizing l i with
  | nil => simp [apAll, firstW, joins]
  | cons w r ih =>
    have i1 := lessN_apW h (hw w (by simp))
    have i2 := ih (h.apW (hw w (by simp))) (fun x hx => hw x (by simp [hx])) (i + 1)
    have e : joins (w :: r) = (w.length - 1) + joins r := by simp [joins]
    rw [e]
    simp only [apAll, firstW]
    by_cases hk : okW l w = true
    · rw [if_pos hk]
      have := i1.2.1 hk
      refine ⟨by omega, ⟨fun h9 => by have := i2.2.1 h9; omega, fun h9 => i2.2.2 (by omega)⟩⟩
    · rw [if_neg hk]
      have : lessN n (apW l w) ≠ lessN n l + (w.length - 1) := fun h9 => hk (i1.2.2 h9)
      refine ⟨by omega, ⟨(fun h9 => by cases h9), fun h9 => by omega⟩⟩
/-! ## the labels hang on which are joined, and on nothing else -/
def Resp (f : Nat → Nat) (ws : List (List Nat)) : Prop := ∀ w ∈ ws, ∀ x ∈ w, ∀ y ∈ w, f x = f y
theorem jn_keep {n : Nat} {l : List Nat} (h : Lab n l) {a b u v : Nat} (hu : u < n) (hv : v < n) (e : lab l u = lab l v) : lab (jn l a b) u = lab (jn l a b) v := by
  have := h.len
  rw [jn_lab (by omega), jn_lab (by omega), e]
theorem jn_joins {n : Nat} {l : List Nat} (h : Lab n l) {a b : Nat} (ha : a < n) (hb : b < n) : lab (jn l a b) a = lab (jn l a b) b := by
  have := h.len
  rw [jn_lab (by omega), jn_lab (by omega)]
  split <;> split <;> omega
theorem jn_only {n : Nat} {l : List Nat} (h : Lab n l) {a b : Nat} (ha : a < n) (hb : b < n) {f : Nat → Nat} (hf : ∀ v, v < n → f (lab l v) = f v) (he : f a = f b) : ∀ v, v < n → f (lab (jn l a b) v) = f v := fun v hv => by
  have := h.len
  rw [jn_lab (by omega)]
  have h1 := hf a ha
  have h2 := hf b hb
  have h3 := hf v hv
  split
  · rename_i e
    rcases minmax_cases (lab l a) (lab l b) with ⟨e1, e2⟩ | ⟨e1, e2⟩
    · rw [e1, h1, he, ← h2, ← e2, ← e, h3]
    · rw [e1, h2, ← he, ← h1, ← e2, ← e, h3]
  · exact h3
theorem apS_facts {n : Nat} {l : List Nat} (h : Lab n l) {a : Nat} (ha : a < n) {r : List Nat} (hr : ∀ v ∈ r, v < n) :
    (∀ u v, u < n → v < n → lab l u = lab l v → lab (apS l a r) u = lab (apS l a r) v) ∧ (∀ b ∈ r, lab (apS l a r) a = lab (apS l a r) b) ∧
    (∀ f : Nat → Nat, (∀ v, v < n → f (lab l v) = f v) → (∀ b ∈ r, f a = f b) → ∀ v, v < n → f (lab (apS l a r) v) = f v) := by
  induction r generalizing l with
  | nil => exact ⟨fun u v _ _ e => e, by simp, fun f hf _ => hf⟩
  | cons b r ih =>
    have hb := hr b (by simp)
    obtain ⟨i1, i2, i3⟩ := ih (h.jn ha hb) (fun v hv => hr v (by simp [hv]))
    refine ⟨fun u v hu hv e => i1 u v hu hv (jn_keep h hu hv e), fun c hc => ?_, fun f hf he => ?_⟩
    · rcases List.mem_cons.1 hc with rfl | hc
      · exact i1 _ _ ha hb (jn_joins h ha hb)
      · exact i2 c hc
    · exact i3 f (jn_only h ha hb hf (he b (by simp))) (fun c hc => he c (by simp [hc]))
theorem apW_facts {n : Nat} {l : List Nat} (h : Lab n l) {w : List Nat} (hw : ∀ v ∈ w, v < n) :
    (∀ u v, u < n → v < n → lab l u = lab l v → lab (apW l w) u = lab (apW l w) v) ∧ (∀ x ∈ w, ∀ y ∈ w, lab (apW l w) x = lab (apW l w) y) ∧
    (∀ f : Nat → Nat, (∀ v, v < n → f (lab l v) = f v) → (∀ x ∈ w, ∀ y ∈ w, f x = f y) → ∀ v, v < n → f (lab (apW l w) v) = f v) := by
  cases w with
  | nil => exact ⟨fun u v _ _ e => e, by simp, fun f hf _ => hf⟩
  | cons a r =>
    obtain ⟨i1, i2, i3⟩ := apS_facts h (hw a (by simp)) (r := r) (fun v hv => hw v (by simp [hv]))
    have i4 : ∀ x ∈ a :: r, lab (apS l a r) a = lab (apS l a r) x := fun x hx => by
      rcases List.mem_cons.1 hx with rfl | hx
      · rfl
      · exact i2 x hx
    exact ⟨i1, fun x hx y hy => (i4 x hx).symm.trans (i4 y hy), fun f hf he => i3 f hf (fun b hb => he a (by simp) b (by simp [hb]))⟩
theorem apAll_facts {n : Nat} {l : List Nat} (h : Lab n l) {ws : List (List Nat)} (hw : InW n ws) :
    (∀ u v, u < n → v < n → lab l u = lab l v → lab (apAll l ws) u = lab (apAll l ws) v) ∧ Resp (lab (apAll l ws)) ws ∧
    (∀ f : Nat → Nat, (∀ v, v < n → f (lab l v) = f v) → Resp f ws → ∀ v, v < n → f (lab (apAll l ws) v) = f v) := by
  induction ws generalizing l with
  | nil => exact ⟨fun u v _ _ e => e, (fun w hw => by cases hw), fun f hf _ => hf⟩
  | cons w r ih =>
    have hw1 := hw w (by simp)
    obtain ⟨j1, j2, j3⟩ := apW_facts h hw1
    obtain ⟨i1, i2, i3⟩ := ih (h.apW hw1) (fun x hx => hw x (by simp [hx]))
    refine ⟨fun u v hu hv e => i1 u v hu hv (j1 u v hu hv e), fun x hx => ?_, fun f hf he => ?_⟩
    · rcases List.mem_cons.1 hx with rfl | hx
      · exact fun p hp q hq => i1 p q (hw1 p hp) (hw1 q hq) (j2 p hp q hq)
      · exact i2 x hx
    · exact i3 f (j3 f hf (he w (by simp))) (fun x hx => he x (by simp [hx]))
theorem lab_range {n v : Nat} (hv : v < n) : lab (List.range n) v = v := by rw [lab_eq (by simpa using hv)]; simp
/-- Rows that stand otherwise, or twice, give the same labels. -/
theorem apAll_same {n : Nat} {ws us : List (List Nat)} (hw : InW n ws) (hu : InW n us) (h1 : ∀ w ∈ ws, w ∈ us) (h2 : ∀ w ∈ us, w ∈ ws) : apAll (List.range n) ws = apAll (List.range n) us := by
  have L1 := (Lab.start n).apAll hw
  have L2 := (Lab.start n).apAll hu
  obtain ⟨_, a2, a3⟩ := apAll_facts (Lab.start n) hw
  obtain ⟨_, b2, b3⟩ := apAll_facts (Lab.start n) hu
  have h0 : ∀ f : Nat → Nat, ∀ v, v < n → f (lab (List.range n) v) = f v := fun f v hv => by rw [lab_range hv]
  have e1 : ∀ v, v < n → lab (apAll (List.range n) us) (lab (apAll (List.range n) ws) v) = lab (apAll (List.range n) us) v := a3 _ (h0 _) (fun w hw' => b2 w (h1 w hw'))
  have e2 : ∀ v, v < n → lab (apAll (List.range n) ws) (lab (apAll (List.range n) us) v) = lab (apAll (List.range n) ws) v := b3 _ (h0 _) (fun w hw' => a2 w (h2 w hw'))
  apply List.ext_getElem (by rw [L1.len, L2.len])
  intro v g1 g2
  have hv : v < n := by rw [← L1.len]; exact g1
  rw [← lab_eq g1, ← lab_eq g2]
  have k1 := L2.le _ (L1.lt hv)
  have k2 := L1.le _ (L2.lt hv)
  rw [e1 v hv] at k1
  rw [e2 v hv] at k2
  omega
theorem firstW_perm {n : Nat} {ws us : List (List Nat)} (hp : ws.Perm us) (hw : InW n ws) (i j : Nat) : firstW (List.range n) ws i = none ↔ firstW (List.range n) us j = none := by
  have hu : InW n us := fun w h => hw w (hp.symm.subset h)
  have e := apAll_same hw hu (fun w h => hp.subset h) (fun w h => hp.symm.subset h)
  have e2 : joins ws = joins us := (hp.map _).sum_nat
  rw [(lessN_apAll (Lab.start n) hw i).2, (lessN_apAll (Lab.start n) hu j).2, e, e2]
theorem firstW_fewer {n : Nat} {ws us : List (List Nat)} {w : List Nat} (hw : InW n (ws ++ w :: us)) (h : firstW (List.range n) (ws ++ w :: us) 0 = none) : firstW (List.range n) (ws ++ us) 0 = none := by
  have hp : (ws ++ w :: us).Perm ((ws ++ us) ++ [w]) := by
    rw [List.append_assoc]
    exact List.Perm.append_left _ (List.perm_append_singleton w us).symm
  have h2 := (firstW_perm hp hw 0 0).1 h
  rw [firstW_append] at h2
  cases h3 : firstW (List.range n) (ws ++ us) 0 with
  | none => rfl
  | some k => rw [h3] at h2; cases h2
/-! ## the document's question: are all labels of a row apart? -/
def apart (l : List Nat) (w : List Nat) : Prop := (w.map (lab l)).Nodup
theorem okS_apart {n : Nat} {l : List Nat} (h : Lab n l) {a : Nat} (ha : a < n) {r : List Nat} (hr : ∀ v ∈ r, v < n) : okS l a r = true ↔ apart l (a :: r) := by
  induction r generalizing l with
  | nil => simp [okS, apart]
  | cons b r ih =>
    have hl := h.len
    have hb := hr b (by simp)
    have hr' : ∀ v ∈ r, v < n := fun v hv => hr v (by simp [hv])
    have i1 := ih (h.jn ha hb) hr'
    simp only [okS, Bool.and_eq_true, decide_eq_true_eq, i1]
    simp only [apart, List.map_cons, List.nodup_cons, List.mem_cons, List.mem_map, not_or, not_exists, not_and]
    have J : ∀ v, v < n → lab (jn l a b) v = if lab l v = max (lab l a) (lab l b) then min (lab l a) (lab l b) else lab l v := fun v hv => jn_lab (by omega)
    constructor
    · rintro ⟨hne, h1, h2⟩
      have h3 : ∀ v ∈ r, lab l v ≠ lab l a ∧ lab l v ≠ lab l b := fun v hv => by
        have h4 := h1 v hv
        rw [J v (hr' v hv), J a ha] at h4
        split at h4 <;> split at h4 <;> omega
      refine ⟨⟨hne, fun v hv => (h3 v hv).1⟩, fun v hv => (h3 v hv).2, ?_⟩
      have e : r.map (lab (jn l a b)) = r.map (lab l) := List.map_congr_left fun v hv => by
        have := h3 v hv
        rw [J v (hr' v hv), if_neg (by omega)]
      rw [← e]; exact h2
    · rintro ⟨⟨hne, h1⟩, h2, h3⟩
      refine ⟨hne, fun v hv => ?_, ?_⟩
      · have := h1 v hv; have := h2 v hv
        rw [J v (hr' v hv), J a ha]
        split <;> split <;> omega
      · have e : r.map (lab (jn l a b)) = r.map (lab l) := List.map_congr_left fun v hv => by
          have := h1 v hv; have := h2 v hv
          rw [J v (hr' v hv), if_neg (by omega)]
        rw [e]; exact h3
theorem okW_apart {n : Nat} {l : List Nat} (h : Lab n l) {w : List Nat} (hw : ∀ v ∈ w, v < n) : okW l w = true ↔ apart l w := by
  cases w with
  | nil => simp [okW, apart]
  | cons a r => exact okS_apart h (hw a (by simp)) (fun v hv => hw v (by simp [hv]))
/-! ## a ring -/
def ringLab (n k : Nat) : List Nat := (List.range n).map fun v => if v ≤ k then 0 else v
theorem ringLab_lab {n k v : Nat} (hv : v < n) : lab (ringLab n k) v = if v ≤ k then 0 else v := by
  rw [lab_eq (by simpa [ringLab] using hv)]; simp [ringLab]
def chain (k : Nat) : List (List Nat) := (List.range k).map fun i => [i, i + 1]
theorem chain_succ (k : Nat) : chain (k + 1) = chain k ++ [[k, k + 1]] := by simp [chain, List.range_succ]
theorem ring_step {n k : Nat} (hk : k + 1 < n) : okW (ringLab n k) [k, k + 1] = true ∧ apW (ringLab n k) [k, k + 1] = ringLab n (k + 1) := by
  have e1 : lab (ringLab n k) k = 0 := by rw [ringLab_lab (by omega), if_pos (Nat.le_refl _)]
  have e2 : lab (ringLab n k) (k + 1) = k + 1 := by rw [ringLab_lab hk, if_neg (by omega)]
  refine ⟨by simp [okW, okS, e1, e2], ?_⟩
  simp only [apW, apS]
  apply List.ext_getElem (by simp [jn_length, ringLab])
  intro v g1 g2
  have hv : v < n := by simpa [jn_length, ringLab] using g1
  rw [← lab_eq g1, ← lab_eq g2, jn_lab (by simpa [ringLab] using hv), ringLab_lab hv, ringLab_lab hv, e1, e2]
  have h1 : max 0 (k + 1) = k + 1 := by omega
  have h2 : min 0 (k + 1) = 0 := by omega
  rw [h1, h2]
  split <;> split <;> (try split) <;> omega
theorem ring_start (n : Nat) : List.range n = ringLab n 0 := by
  apply List.ext_getElem (by simp [ringLab])
  intro v g1 g2
  simp [ringLab]
theorem ring_chain {n : Nat} : ∀ k, k < n → firstW (List.range n) (chain k) 0 = none ∧ apAll (List.range n) (chain k) = ringLab n k
  | 0, _ => ⟨rfl, ring_start n⟩
  | k + 1, hk => by
    obtain ⟨i1, i2⟩ := ring_chain (n := n) k (by omega)
    obtain ⟨s1, s2⟩ := ring_step hk
    rw [chain_succ]
    refine ⟨?_, ?_⟩
    · rw [firstW_append, i1, i2]
      simp [firstW, s1]
    · rw [apAll_snoc, i2, s2]
theorem ring_closes {n : Nat} (hn : 2 ≤ n) : firstW (List.range n) (chain (n - 1) ++ [[0, n - 1]]) 0 = some (n - 1) := by
  obtain ⟨i1, i2⟩ := ring_chain (n := n) (n - 1) (by omega)
  rw [firstW_append, i1, i2]
  have e1 : lab (ringLab n (n - 1)) 0 = 0 := by rw [ringLab_lab (by omega), if_pos (by omega)]
  have e2 : lab (ringLab n (n - 1)) (n - 1) = 0 := by rw [ringLab_lab (by omega), if_pos (Nat.le_refl _)]
  simp [firstW, okW, okS, e1, e2, chain]
end Go.Proofs.Ytfpipaoobmcomaa
