/- Settling a choice: turns, passes, until nothing changes; sorting by strength. Nothing of a program in sight. -/
import Derived.Test.YtfpipaoobmcomaaChoice
namespace Go.Proofs.Ytfpipaoobmcomaa
set_option linter.unusedVariables false
set_option linter.unusedSimpArgs false
/-- One constraint's turn: it is enforced, if it tells none. -/
def turn1 (n : Nat) (ws : List (List Nat)) (ss : List Int) (o : List Int) (i : Nat) : List Int := if o.getD i 0 = -1 then enf n ws ss o i else o
def turnL (n : Nat) (ws : List (List Nat)) (ss : List Int) (L : List Nat) (o : List Int) : List Int := L.foldl (turn1 n ws ss) o
/-- The constraints of each strength in turn. -/
def ordS (m : Nat) (ss : List Int) : List Nat := (List.range 5).flatMap fun (s : Nat) => (List.range m).filter fun i => decide (ss.getD i 0 = (s : Int))
def passF (n : Nat) (ws : List (List Nat)) (ss : List Int) (o : List Int) : List Int := turnL n ws ss (ordS ws.length ss) o
def setF (n : Nat) (ws : List (List Nat)) (ss : List Int) : Nat → List Int → List Int
  | 0, o => o
  | f + 1, o => if passF n ws ss o = o then o else setF n ws ss f (passF n ws ss o)
def wgO (ws : List (List Nat)) (ss : List Int) (o : List Int) : Nat := wgt ws.length ss (tels o)
/-- The choice behind which nobody can be enforced any more. -/
def setl (n : Nat) (ws : List (List Nat)) (ss : List Int) (o : List Int) : List Int := setF n ws ss (wgO ws ss o + 1) o
/-- The strengths are strengths, one for each. -/
structure StOk (ws : List (List Nat)) (ss : List Int) : Prop where
  s : ∀ s ∈ ss, 0 ≤ s ∧ s ≤ 4
  l : ss.length = ws.length
  m : ws.length ≤ 256
theorem mem_ordS {m : Nat} {ss : List Int} {i : Nat} : i ∈ ordS m ss ↔ i < m ∧ 0 ≤ ss.getD i 0 ∧ ss.getD i 0 ≤ 4 := by
  unfold ordS
  simp only [List.mem_flatMap, List.mem_range, List.mem_filter, decide_eq_true_eq]
  constructor
  · rintro ⟨s, h1, h2, h3⟩; omega
  · rintro ⟨h1, h2, h3⟩; exact ⟨(ss.getD i 0).toNat, by omega, h1, by omega⟩
section
variable {n : Nat} {ws : List (List Nat)} {ss : List Int} {o : List Int}
theorem StOk.at_ (h : StOk ws ss) {i : Nat} (hi : i < ws.length) : 0 ≤ ss.getD i 0 ∧ ss.getD i 0 ≤ 4 := by
  have hl := h.l
  rw [List.getD_eq_getElem?_getD, List.getElem?_eq_getElem (by omega)]
  exact h.s _ (List.getElem_mem _)
theorem Cho.idle (h : Cho n ws o) {i : Nat} (hi : i < ws.length) : o.getD i 0 = -1 ↔ outF o i = none := by
  have hl := h.len
  have hg : o[i]? = some (o.getD i 0) := by rw [List.getD_eq_getElem?_getD, List.getElem?_eq_getElem (by omega)]; rfl
  have hlo := h.lo (o.getD i 0) (List.mem_of_getElem? hg)
  unfold outF
  rw [hg]
  dsimp only
  split
  · simp only [reduceCtorEq, iff_false]; omega
  · simp only [iff_true]; omega
theorem Cho.turn (hS : StOk ws ss) (h : Cho n ws o) {i : Nat} (hi : i < ws.length) : Cho n ws (turn1 n ws ss o i) ∧ ((turn1 n ws ss o i = o ∧ (outF o i = none → wk ws ss o i [] = none)) ∨ wgO ws ss (turn1 n ws ss o i) < wgO ws ss o) := by
  unfold turn1
  by_cases h1 : o.getD i 0 = -1
  · rw [if_pos h1]
    have hno := (h.idle hi).1 h1
    have hE := enf_spec (ss := ss) h hi hno
    refine ⟨hE.1, ?_⟩
    rcases hE.lighter hS.s hS.l hS.m hi hno with h2 | h2
    · exact .inl ⟨h2.1, fun _ => h2.2⟩
    · exact .inr h2
  · rw [if_neg h1]
    exact ⟨h, .inl ⟨rfl, fun h2 => absurd ((h.idle hi).2 h2) h1⟩⟩
theorem Cho.turns (hS : StOk ws ss) : ∀ (L : List Nat), (∀ i ∈ L, i < ws.length) → ∀ {o : List Int}, Cho n ws o → Cho n ws (turnL n ws ss L o) ∧ ((turnL n ws ss L o = o ∧ ∀ i ∈ L, outF o i = none → wk ws ss o i [] = none) ∨ wgO ws ss (turnL n ws ss L o) < wgO ws ss o)
  | [], _, o, h => ⟨h, .inl ⟨rfl, fun i hi => by cases hi⟩⟩
  | i :: L, hL, o, h => by
    obtain ⟨h1, h2⟩ := h.turn hS (hL i (by simp))
    obtain ⟨h3, h4⟩ := Cho.turns hS L (fun j hj => hL j (by simp [hj])) h1
    show Cho n ws (turnL n ws ss L (turn1 n ws ss o i)) ∧ ((turnL n ws ss L (turn1 n ws ss o i) = o ∧ _) ∨ wgO ws ss (turnL n ws ss L (turn1 n ws ss o i)) < _)
    refine ⟨h3, ?_⟩
    rcases h2 with ⟨h2, h5⟩ | h2
    · rw [h2] at h4 ⊢
      rcases h4 with ⟨h4, h6⟩ | h4
      · refine .inl ⟨h4, fun j hj => ?_⟩
        rcases List.mem_cons.1 hj with rfl | hj
        · exact h5
        · exact h6 j hj
      · exact .inr h4
    · rcases h4 with ⟨h4, _⟩ | h4
      · rw [h4]; exact .inr h2
      · exact .inr (by omega)
theorem Cho.pass (hS : StOk ws ss) (h : Cho n ws o) : Cho n ws (passF n ws ss o) ∧ ((passF n ws ss o = o ∧ ∀ i, i < ws.length → outF o i = none → wk ws ss o i [] = none) ∨ wgO ws ss (passF n ws ss o) < wgO ws ss o) := by
  obtain ⟨h1, h2⟩ := h.turns (n := n) hS (ordS ws.length ss) (fun i hi => (mem_ordS.1 hi).1)
  refine ⟨h1, ?_⟩
  rcases h2 with ⟨h2, h3⟩ | h2
  · exact .inl ⟨h2, fun i hi => h3 i (mem_ordS.2 ⟨hi, hS.at_ hi⟩)⟩
  · exact .inr h2
theorem enf_same {i : Nat} (hno : wk ws ss o i [] = none) : enf n ws ss o i = o := by unfold enf; rw [enfF, hno]
theorem turnL_same : ∀ (L : List Nat), (∀ i ∈ L, o.getD i 0 = -1 → wk ws ss o i [] = none) → turnL n ws ss L o = o
  | [], _ => rfl
  | i :: L, h => by
    show turnL n ws ss L (turn1 n ws ss o i) = o
    have e : turn1 n ws ss o i = o := by
      unfold turn1
      split
      · exact enf_same (h i (by simp) (by assumption))
      · rfl
    rw [e]
    exact turnL_same L (fun j hj => h j (by simp [hj]))
theorem passF_same (h : Cho n ws o) (hi : ∀ i, i < ws.length → outF o i = none → wk ws ss o i [] = none) : passF n ws ss o = o :=
  turnL_same _ (fun i h1 h2 => hi i (mem_ordS.1 h1).1 ((h.idle (mem_ordS.1 h1).1).1 h2))
theorem setF_same (h : passF n ws ss o = o) (f : Nat) : setF n ws ss f o = o := by
  cases f with
  | zero => rfl
  | succ f => rw [setF, if_pos h]
theorem setl_same (h : passF n ws ss o = o) : setl n ws ss o = o := setF_same h _
theorem setF_any (hS : StOk ws ss) (f : Nat) : ∀ (g : Nat) {o : List Int}, Cho n ws o → wgO ws ss o < f → wgO ws ss o < g → setF n ws ss f o = setF n ws ss g o := by
  induction f with
  | zero => intro g o _ h _; exact absurd h (Nat.not_lt_zero _)
  | succ f ih =>
    intro g o hc h1 h2
    cases g with
    | zero => exact absurd h2 (Nat.not_lt_zero _)
    | succ g =>
      rw [setF, setF]
      split
      · rfl
      · rename_i hne
        obtain ⟨h3, h4 | h4⟩ := hc.pass hS
        · exact absurd h4.1 hne
        · exact ih g h3 (by omega) (by omega)
theorem setl_step (hS : StOk ws ss) (h : Cho n ws o) : setl n ws ss (passF n ws ss o) = setl n ws ss o := by
  by_cases h1 : passF n ws ss o = o
  · rw [h1]
  · obtain ⟨h3, h4 | h4⟩ := h.pass hS
    · exact absurd h4.1 h1
    · have e : setl n ws ss o = setF n ws ss (wgO ws ss o) (passF n ws ss o) := by
        unfold setl; rw [setF, if_neg h1]
      rw [e]
      exact setF_any hS _ _ h3 (by omega) (by omega)
theorem setF_spec (hS : StOk ws ss) (f : Nat) : ∀ {o : List Int}, Cho n ws o → wgO ws ss o < f → Cho n ws (setF n ws ss f o) ∧ passF n ws ss (setF n ws ss f o) = setF n ws ss f o ∧ (setF n ws ss f o = o ∨ wgO ws ss (setF n ws ss f o) < wgO ws ss o) := by
  induction f with
  | zero => intro o _ h; exact absurd h (Nat.not_lt_zero _)
  | succ f ih =>
    intro o hc h1
    rw [setF]
    split
    · rename_i h; exact ⟨hc, h, .inl rfl⟩
    · rename_i hne
      obtain ⟨h3, h4 | h4⟩ := hc.pass hS
      · exact absurd h4.1 hne
      · obtain ⟨h5, h6, h7⟩ := ih h3 (by omega)
        refine ⟨h5, h6, .inr ?_⟩
        rcases h7 with h7 | h7
        · rw [h7]; exact h4
        · omega
theorem setl_spec (hS : StOk ws ss) (h : Cho n ws o) : Cho n ws (setl n ws ss o) ∧ passF n ws ss (setl n ws ss o) = setl n ws ss o ∧ (setl n ws ss o = o ∨ wgO ws ss (setl n ws ss o) < wgO ws ss o) := setF_spec hS _ h (Nat.lt_succ_self _)
theorem setl_idle (hS : StOk ws ss) (h : Cho n ws o) {i : Nat} (hi : i < ws.length) (hno : outF (setl n ws ss o) i = none) : wk ws ss (setl n ws ss o) i [] = none := by
  obtain ⟨h1, h2, _⟩ := setl_spec hS h
  obtain ⟨_, h3 | h3⟩ := h1.pass hS
  · exact h3.2 i hi hno
  · rw [h2] at h3; omega
theorem setl_again (hS : StOk ws ss) (h : Cho n ws o) : setl n ws ss (setl n ws ss o) = setl n ws ss o := setl_same (setl_spec hS h).2.1
end
/-! ## sorting by strength -/
/-- Ahead of: stronger, or as strong and of a lesser number. -/
def Ah (ss : List Int) (a b : Nat) : Prop := ss.getD a 0 < ss.getD b 0 ∨ (ss.getD a 0 = ss.getD b 0 ∧ a < b)
theorem Ah.trans {ss : List Int} {a b c : Nat} (h : Ah ss a b) (h2 : Ah ss b c) : Ah ss a c := by unfold Ah at *; omega
theorem Ah.irr {ss : List Int} {a : Nat} (h : Ah ss a a) : False := by unfold Ah at h; omega
theorem Ah.asymm {ss : List Int} {a b : Nat} (h : Ah ss a b) (h2 : Ah ss b a) : False := (h.trans h2).irr
theorem sorted_eq {ss : List Int} : ∀ {L K : List Nat}, L.Pairwise (Ah ss) → K.Pairwise (Ah ss) → (∀ x, x ∈ L ↔ x ∈ K) → L = K
  | [], [], _, _, _ => rfl
  | [], b :: K, _, _, h => by have := (h b).2 (by simp); cases this
  | a :: L, [], _, _, h => by have := (h a).1 (by simp); cases this
  | a :: L, b :: K, h1, h2, h => by
    rw [List.pairwise_cons] at h1 h2
    have e : a = b := by
      have ha := (h a).1 (by simp)
      have hb := (h b).2 (by simp)
      rcases List.mem_cons.1 ha with ha | ha
      · exact ha
      · rcases List.mem_cons.1 hb with hb | hb
        · exact hb.symm
        · exact ((h1.1 b hb).asymm (h2.1 a ha)).elim
    subst e
    congr 1
    refine sorted_eq h1.2 h2.2 (fun x => ?_)
    have hx := h x
    constructor
    · intro hL
      rcases List.mem_cons.1 (hx.1 (by simp [hL])) with e | e
      · subst e; exact ((h1.1 x hL).irr).elim
      · exact e
    · intro hK
      rcases List.mem_cons.1 (hx.2 (by simp [hK])) with e | e
      · subst e; exact ((h2.1 x hK).irr).elim
      · exact e
theorem ordS_sorted (m : Nat) (ss : List Int) : (ordS m ss).Pairwise (Ah ss) := by
  unfold ordS
  rw [List.pairwise_flatMap]
  refine ⟨fun s _ => ?_, ?_⟩
  · rw [List.pairwise_filter]
    refine List.Pairwise.imp ?_ (List.pairwise_lt_range)
    intro a b h h1 h2
    simp only [decide_eq_true_eq] at h1 h2
    exact .inr ⟨by omega, h⟩
  · refine List.Pairwise.imp ?_ (List.pairwise_lt_range)
    intro a b h x hx y hy
    simp only [List.mem_filter, decide_eq_true_eq] at hx hy
    exact .inl (by omega)
/-- While a row is sorted by insertion: the number i stands behind A and ahead of B. -/
structure Ins (m : Nat) (ss : List Int) (i : Nat) (A B : List Nat) : Prop where
  srt : (A ++ B).Pairwise (Ah ss)
  mem : ∀ x, x ∈ A ++ B ↔ x < i
  far : ∀ x ∈ B, Ah ss i x
theorem Ins.len {m : Nat} {ss : List Int} {i : Nat} {A B : List Nat} (h : Ins m ss i A B) : A.length + B.length = i := by
  have h1 : (A ++ B).Nodup := h.srt.imp (fun h e => by subst e; exact h.irr)
  have h2 : (A ++ B).Perm (List.range i) := (List.perm_ext_iff_of_nodup h1 List.nodup_range).2 (fun x => by rw [h.mem x, List.mem_range])
  have := h2.length_eq
  simpa using this
/-- Sorted up to i. -/
structure Srt (ss : List Int) (i : Nat) (A : List Nat) : Prop where
  srt : A.Pairwise (Ah ss)
  mem : ∀ x, x ∈ A ↔ x < i
theorem Srt.ins {m : Nat} {ss : List Int} {i : Nat} {A : List Nat} (h : Srt ss i A) : Ins m ss i A [] := ⟨by simpa using h.srt, by simpa using h.mem, fun x hx => by cases hx⟩
theorem Ins.step {m : Nat} {ss : List Int} {i y : Nat} {A B : List Nat} (h : Ins m ss i (A ++ [y]) B) (hy : ss.getD i 0 < ss.getD y 0) : Ins m ss i A (y :: B) :=
  ⟨by simpa using h.srt, by simpa using h.mem, fun x hx => by
    rcases List.mem_cons.1 hx with rfl | hx
    · exact .inl hy
    · exact h.far x hx⟩
theorem Ins.done {m : Nat} {ss : List Int} {i : Nat} {A B : List Nat} (h : Ins m ss i A B) (hA : ∀ (A0 : List Nat) (y : Nat), A = A0 ++ [y] → ss.getD y 0 ≤ ss.getD i 0) : Srt ss (i + 1) (A ++ i :: B) := by
  have hs := h.srt
  rw [List.pairwise_append] at hs
  have hA2 : ∀ x ∈ A, Ah ss x i := fun x hx => by
    rcases List.eq_nil_or_concat A with e | ⟨A0, y, e⟩
    · subst e; cases hx
    · rw [List.concat_eq_append] at e
      have h1 := hA A0 y e
      have hyi : y < i := (h.mem y).1 (by rw [e]; simp)
      have hyI : Ah ss y i := by unfold Ah; omega
      subst e
      rcases List.mem_append.1 hx with hx | hx
      · have h3 := hs.1
        rw [List.pairwise_append] at h3
        exact (h3.2.2 x hx y (by simp)).trans hyI
      · rw [List.mem_singleton.1 hx]; exact hyI
  refine ⟨?_, fun x => ?_⟩
  · rw [List.pairwise_append, List.pairwise_cons]
    refine ⟨hs.1, ⟨h.far, hs.2.1⟩, fun a ha b hb => ?_⟩
    rcases List.mem_cons.1 hb with rfl | hb
    · exact hA2 a ha
    · exact hs.2.2 a ha b hb
  · have := h.mem x
    simp only [List.mem_append, List.mem_cons] at this ⊢
    constructor
    · rintro (h1 | h1 | h1)
      · have := this.1 (.inl h1); omega
      · omega
      · have := this.1 (.inr h1); omega
    · intro h1
      by_cases e : x = i
      · exact .inr (.inl e)
      · rcases this.2 (by omega) with h2 | h2
        · exact .inl h2
        · exact .inr (.inr h2)
theorem Srt.eq {ss : List Int} {m : Nat} {A : List Nat} (h : Srt ss m A) (hs : ∀ i, i < m → 0 ≤ ss.getD i 0 ∧ ss.getD i 0 ≤ 4) : A = ordS m ss :=
  sorted_eq h.srt (ordS_sorted m ss) (fun x => by
    rw [h.mem, mem_ordS]
    exact ⟨fun h1 => ⟨h1, hs x h1⟩, fun h1 => h1.1⟩)
end Go.Proofs.Ytfpipaoobmcomaa
