/- Walks: what the functions compute. -/
import Derived.Test.YtpnhihljgkohcaaGaC
import Derived.Test.YtpnhihljgkohcaaGaH
import Derived.Test.YtpnhihljgkohcaaClos
import Derived.Test.YtpnhihljgkohcaaLpT
namespace Go.Proofs.Ytpnhihljgkohcaa
open Go.RowKit
set_option linter.unusedVariables false
set_option linter.unusedSimpArgs false
set_option maxRecDepth 10000

def hB (val : List QR) (c : CR) : Bool := decide (atG val c.ts (QR.val c.k) = 0)
/-- It holds, or may not be. -/
def okB (n : Nat) (val : List QR) (c : CR) : Bool := !(isC c (n : Int)) || hB val c
/-- That a variable is what it was. -/
def stC (bs : List QR) (v : Nat) : CR := ⟨4, [⟨(v : Int), QR.nf ((1 : Int) : Rat)⟩], QR.nf (-(valOf bs (v : Int)))⟩
def staysL (bs : List QR) (n : Nat) : List CR := (List.range n).map (stC bs)
theorem stays_succ (bs : List QR) (n : Nat) : staysL bs (n + 1) = staysL bs n ++ [stC bs n] := by simp [staysL, List.range_succ]
theorem stays_len (bs : List QR) (n : Nat) : (staysL bs n).length = n := by simp [staysL]
/-- What must hold beside a constraint. -/
def bsd (n : Nat) (val : List QR) (c : CR) (al : List CR) : List CR := c :: al.filter (fun o => decide (o.st ≤ c.st) && okB n val o)
def Cons (n : Nat) (l : List CR) : Prop := ∀ k, Sp (vecs n l) (kv n k) → k = 0
def Bt (n : Nat) (val : List QR) (al : List CR) (c : CR) : Prop := okB n val c = false ∧ Cons n (bsd n val c al)
/-- The first constraint that could hold. -/
def BeatR (n : Nat) (val : List QR) (al : List CR) (z : Int) : Prop := (z = -1 ∧ ∀ c ∈ al, ¬ Bt n val al c) ∨ ∃ i c, z = ((i : Nat) : Int) ∧ al[i]? = some c ∧ Bt n val al c ∧ ∀ j d, j < i → al[j]? = some d → ¬ Bt n val al d
theorem BeatR.uniq {n : Nat} {val : List QR} {al : List CR} {z z' : Int} (h : BeatR n val al z) (h' : BeatR n val al z') : z = z' := by
  rcases h with ⟨h1, h2⟩ | ⟨i, c, h1, h2, h3, h4⟩ <;> rcases h' with ⟨k1, k2⟩ | ⟨j, d, k1, k2, k3, k4⟩
  · rw [h1, k1]
  · exact absurd k3 (h2 d (List.mem_of_getElem? k2))
  · exact absurd h3 (k2 c (List.mem_of_getElem? h2))
  · rcases Nat.lt_trichotomy i j with h5 | h5 | h5
    · exact absurd h3 (k4 i c h5 h2)
    · rw [h1, k1, h5]
    · exact absurd k3 (h4 j d h5 k2)
theorem bsd_no {n : Nat} {val : List QR} {c z : CR} {al : List CR} {k : Nat} (hz : al[k]? = some z) (h : (decide (z.st ≤ c.st) && okB n val z) = false) : bsd n val c (al.take (k + 1)) = bsd n val c (al.take k) := by
  obtain ⟨hi, rfl⟩ := List.getElem?_eq_some_iff.1 hz
  unfold bsd
  rw [List.take_succ_eq_append_getElem hi, List.filter_append, List.filter_cons_of_neg (by simp only [h]; decide)]; simp
theorem bsd_yes {n : Nat} {val : List QR} {c z : CR} {al : List CR} {k : Nat} (hz : al[k]? = some z) (h : (decide (z.st ≤ c.st) && okB n val z) = true) : bsd n val c (al.take (k + 1)) = bsd n val c (al.take k) ++ [z] := by
  obtain ⟨hi, rfl⟩ := List.getElem?_eq_some_iff.1 hz
  unfold bsd
  rw [List.take_succ_eq_append_getElem hi, List.filter_append, List.filter_cons_of_pos (by exact h)]; rfl
theorem bsd_len (n : Nat) (val : List QR) (c : CR) (al : List CR) : (bsd n val c al).length ≤ al.length + 1 := by
  unfold bsd; rw [List.length_cons]; exact Nat.succ_le_succ (List.length_filter_le _ _)
theorem bsd_mem {n : Nat} {val : List QR} {c : CR} {al : List CR} (hc : c ∈ al) : ∀ o ∈ bsd n val c al, o ∈ al := fun o ho => by
  rcases List.mem_cons.1 ho with rfl | h
  · exact hc
  · exact (List.mem_filter.1 h).1
theorem OkS.sub {z0 : Int} {t : Nat} {l l' : List CR} (h : OkS z0 t l) (hs : ∀ c ∈ l', c ∈ l) : OkS z0 t l' := ⟨fun c hc => h.sm c (hs c hc), fun c hc => h.ov c (hs c hc), h.bn, h.t1⟩
theorem stay_sm {N : List Nat} {w : World} {vb : Value} {bs : List QR} (hv : Lay rdQ N w vb bs) (hs : ∀ q ∈ bs, SmQ 3 q) (v : Nat) : SmC 4 (stC bs v) := by
  have h1 := (valOf_fit hv hs (v : Int)).neg
  refine ⟨by show 1 ≤ 4; decide, ⟨h1.1, h1.2⟩, fun t ht => ?_⟩
  rw [List.mem_singleton.1 ht]
  have h2 := nf_sm2 (z := 1) (by decide)
  exact ⟨Nat.le_trans h2.1 (by decide), Nat.le_trans h2.2 (by decide)⟩
theorem all_sm {N : List Nat} {w : World} {vb : Value} {bs : List QR} {cs : List CR} {n : Nat} (hv : Lay rdQ N w vb bs) (hs : ∀ q ∈ bs, SmQ 3 q) (hc : ∀ c ∈ cs, SmC 150 c) : ∀ c ∈ cs ++ staysL bs n, SmC 150 c := fun c h => by
  rcases List.mem_append.1 h with h1 | h1
  · exact hc c h1
  · obtain ⟨v, _, rfl⟩ := List.mem_map.1 h1
    exact (stay_sm hv hs v).mono (by decide)
theorem sm_mono10 {val : List QR} (h : ∀ q ∈ val, SmQ 10 q) : ∀ q ∈ val, SmQ 10000 q := fun q hq => ⟨Nat.le_trans (h q hq).1 (by decide), Nat.le_trans (h q hq).2 (by decide)⟩
theorem sm310 {val : List QR} (h : ∀ q ∈ val, SmQ 3 q) : ∀ q ∈ val, SmQ 10 q := fun q hq => ⟨Nat.le_trans (h q hq).1 (by decide), Nat.le_trans (h q hq).2 (by decide)⟩
theorem flat_succ {α : Type} {ls : List (List α)} {i : Nat} {z : List α} (hz : ls[i]? = some z) : (ls.take (i + 1)).flatten = (ls.take i).flatten ++ z := by
  obtain ⟨hi, rfl⟩ := List.getElem?_eq_some_iff.1 hz
  rw [List.take_succ_eq_append_getElem hi, List.flatten_append]; simp
theorem flat_le {α : Type} {ls : List (List α)} {i : Nat} {z : List α} (hz : ls[i]? = some z) : (ls.take i).flatten.length + z.length ≤ ls.flatten.length := by
  have h1 : ls.flatten = (ls.take (i + 1)).flatten ++ (ls.drop (i + 1)).flatten := by rw [← List.flatten_append, List.take_append_drop]
  rw [h1, flat_succ hz]; simp
theorem not_own {v : Value} {g : Nat} (h : v.ownBlock ≠ some g) : g ∉ ownL v := by unfold ownL; simpa using h
/-- How many of each strength do not hold. -/
def cntB (n : Nat) (val : List QR) (c : CR) : Bool := isC c (n : Int) && (decide (c.st < 4) && !(hB val c))
def levs (n : Nat) (val : List QR) (l : List CR) : List Nat := (List.range 4).map fun s => l.countP (fun c => cntB n val c && decide (c.st.toNat = s))
theorem levs_len (n : Nat) (val : List QR) (l : List CR) : (levs n val l).length = 4 := by simp [levs]
theorem levs_le (n : Nat) (val : List QR) (l : List CR) (k : Nat) : (levs n val l).getD k 0 ≤ l.length := by
  rw [List.getD_eq_getElem?_getD]
  unfold levs
  rw [List.getElem?_map]
  cases h : (List.range 4)[k]? with
  | none => simp
  | some s => simp only [Option.map_some, Option.getD_some]; exact List.countP_le_length
theorem levs_no {n : Nat} {val : List QR} {l : List CR} {i : Nat} {z : CR} (hz : l[i]? = some z) (h : cntB n val z = false) : levs n val (l.take (i + 1)) = levs n val (l.take i) := by
  obtain ⟨hi, rfl⟩ := List.getElem?_eq_some_iff.1 hz
  unfold levs
  apply List.map_congr_left
  intro s _
  rw [List.take_succ_eq_append_getElem hi, List.countP_append]
  simp [h]
theorem levs_yes {n : Nat} {val : List QR} {l : List CR} {i : Nat} {z : CR} (hz : l[i]? = some z) (h : cntB n val z = true) : levs n val (l.take (i + 1)) = (levs n val (l.take i)).set z.st.toNat ((levs n val (l.take i)).getD z.st.toNat 0 + 1) := by
  obtain ⟨hi, rfl⟩ := List.getElem?_eq_some_iff.1 hz
  have h4 : l[i].st.toNat < 4 := by
    simp only [cntB, Bool.and_eq_true, decide_eq_true_eq] at h; omega
  have e : ∀ k, k < 4 → ∀ l', (levs n val l').getD k 0 = l'.countP (fun c => cntB n val c && decide (c.st.toNat = k)) := fun k hk l' => by
    simp [levs, List.getD_eq_getElem?_getD, hk]
  have key : ∀ x, x = (levs n val (l.take i)).getD l[i].st.toNat 0 → levs n val (l.take (i + 1)) = (levs n val (l.take i)).set l[i].st.toNat (x + 1) := fun x hx => by
    rw [e _ h4] at hx
    apply List.ext_getElem (by simp [levs])
    intro s g1 g2
    rw [List.getElem_set]
    simp only [levs, List.getElem_map, List.getElem_range]
    rw [List.take_succ_eq_append_getElem hi, List.countP_append]
    by_cases h5 : l[i].st.toNat = s
    · rw [if_pos h5, hx, ← h5]; simp [h]
    · rw [if_neg h5]; simp [h, h5]
  exact key _ rfl
theorem isC_st {c : CR} {n : Int} (h : isC c n = true) : 0 ≤ c.st ∧ c.st ≤ 4 := by
  simp only [isC, Bool.and_eq_true, decide_eq_true_eq] at h; exact ⟨h.1, h.2.1⟩
/-- Those that may be, and which they are. -/
def fz (n : Nat) (l : List CR) : List (CR × Nat) := l.zipIdx.filter (fun p => isC p.1 (n : Int))
def fzC (n : Nat) (l : List CR) : List CR := (fz n l).map (·.1)
def fzI (n : Nat) (l : List CR) : List Nat := (fz n l).map (·.2)
theorem fz_snoc (n : Nat) (l : List CR) (z : CR) : fz n (l ++ [z]) = fz n l ++ (if isC z (n : Int) = true then [(z, l.length)] else []) := by
  unfold fz
  rw [List.zipIdx_append, List.filter_append]
  congr 1
  simp only [List.zipIdx_singleton, List.filter_cons, List.filter_nil, Nat.zero_add]
theorem fz_yes {n : Nat} {l : List CR} {z : CR} (h : isC z (n : Int) = true) : fzC n (l ++ [z]) = fzC n l ++ [z] ∧ fzI n (l ++ [z]) = fzI n l ++ [l.length] := by
  unfold fzC fzI; rw [fz_snoc, if_pos h]; simp
theorem fz_no {n : Nat} {l : List CR} {z : CR} (h : isC z (n : Int) = false) : fzC n (l ++ [z]) = fzC n l ∧ fzI n (l ++ [z]) = fzI n l := by
  unfold fzC fzI; rw [fz_snoc, if_neg (by rw [h]; decide)]; simp
theorem fz_len (n : Nat) (l : List CR) : (fz n l).length ≤ l.length := by
  unfold fz; exact Nat.le_trans (List.length_filter_le _ _) (by simp)
theorem take_snoc {α : Type} {l : List α} {i : Nat} {z : α} (hz : l[i]? = some z) : l.take (i + 1) = l.take i ++ [z] ∧ (l.take i).length = i := by
  obtain ⟨hi, rfl⟩ := List.getElem?_eq_some_iff.1 hz
  exact ⟨List.take_succ_eq_append_getElem hi, by rw [List.length_take]; omega⟩
theorem fzC_filter (n : Nat) (l : List CR) : fzC n l = l.filter (fun c => isC c (n : Int)) := by
  unfold fzC fz
  have key : ∀ (l : List CR) (k : Nat), ((l.zipIdx k).filter (fun p => isC p.1 (n : Int))).map (·.1) = l.filter (fun c => isC c (n : Int)) := fun l => by
    induction l with
    | nil => intro k; rfl
    | cons x l ih =>
      intro k
      rw [List.zipIdx_cons]
      by_cases h : isC x (n : Int) = true
      · rw [List.filter_cons_of_pos (by exact h), List.filter_cons_of_pos (by exact h), List.map_cons, ih]
      · rw [List.filter_cons_of_neg (by exact h), List.filter_cons_of_neg (by exact h), ih]
  exact key l 0
/-- The i-th of those that may be. -/
theorem fz_at {n : Nat} {l : List CR} {i : Nat} {p : CR × Nat} (h : (fz n l)[i]? = some p) : l[p.2]? = some p.1 ∧ isC p.1 (n : Int) = true := by
  have h1 := List.mem_of_getElem? h
  obtain ⟨h2, h3⟩ := List.mem_filter.1 h1
  obtain ⟨x, k⟩ := p
  have := List.mem_zipIdx_iff_getElem?.1 h2
  exact ⟨this, h3⟩
theorem fz_sorted (n : Nat) (l : List CR) : (fz n l).Pairwise (fun p q => p.2 < q.2) := by
  unfold fz
  apply List.Pairwise.filter
  rw [List.pairwise_iff_getElem]
  intro i j hi hj hij
  simp only [List.getElem_zipIdx]; omega
theorem fz_before {n : Nat} {l : List CR} {i : Nat} {p : CR × Nat} (h : (fz n l)[i]? = some p) {j : Nat} {d : CR} (hj : j < p.2) (hd : l[j]? = some d) (hc : isC d (n : Int) = true) : ∃ k, k < i ∧ (fz n l)[k]? = some (d, j) := by
  have h1 : (d, j) ∈ fz n l := List.mem_filter.2 ⟨List.mem_zipIdx_iff_getElem?.2 hd, hc⟩
  obtain ⟨k, hk, e⟩ := List.mem_iff_getElem.1 h1
  refine ⟨k, ?_, by rw [List.getElem?_eq_getElem hk, e]⟩
  obtain ⟨hi, e2⟩ := List.getElem?_eq_some_iff.1 h
  rcases Nat.lt_trichotomy k i with h2 | h2 | h2
  · exact h2
  · subst h2; rw [e] at e2; subst e2; simp at hj
  · have h3 := List.pairwise_iff_getElem.1 (fz_sorted n l) i k hi hk h2
    rw [e, e2] at h3; simp only at h3; omega
def bsdF (n : Nat) (val : List QR) (c : CR) (al : List CR) : List CR := c :: al.filter (fun o => decide (o.st ≤ c.st) && hB val o)
theorem bsdF_no {n : Nat} {val : List QR} {c z : CR} {al : List CR} {k : Nat} (hz : al[k]? = some z) (h : (decide (z.st ≤ c.st) && hB val z) = false) : bsdF n val c (al.take (k + 1)) = bsdF n val c (al.take k) := by
  obtain ⟨hi, rfl⟩ := List.getElem?_eq_some_iff.1 hz
  unfold bsdF
  rw [List.take_succ_eq_append_getElem hi, List.filter_append, List.filter_cons_of_neg (by simp only [h]; decide)]; simp
theorem bsdF_yes {n : Nat} {val : List QR} {c z : CR} {al : List CR} {k : Nat} (hz : al[k]? = some z) (h : (decide (z.st ≤ c.st) && hB val z) = true) : bsdF n val c (al.take (k + 1)) = bsdF n val c (al.take k) ++ [z] := by
  obtain ⟨hi, rfl⟩ := List.getElem?_eq_some_iff.1 hz
  unfold bsdF
  rw [List.take_succ_eq_append_getElem hi, List.filter_append, List.filter_cons_of_pos (by exact h)]; rfl
theorem bsdF_len (n : Nat) (val : List QR) (c : CR) (al : List CR) : (bsdF n val c al).length ≤ al.length + 1 := by
  unfold bsdF; rw [List.length_cons]; exact Nat.succ_le_succ (List.length_filter_le _ _)
theorem bsdF_mem {n : Nat} {val : List QR} {c : CR} {al l : List CR} (hc : c ∈ l) (hs : ∀ o ∈ al, o ∈ l) : ∀ o ∈ bsdF n val c al, o ∈ l := fun o ho => by
  rcases List.mem_cons.1 ho with rfl | h
  · exact hc
  · exact hs o (List.mem_filter.1 h).1
theorem vecs_cons_yes {n : Nat} {c : CR} (l : List CR) (h : isC c (n : Int) = true) : vecs n (c :: l) = cv n (conT c).1 (conT c).2 :: vecs n l := by
  unfold vecs; rw [List.filter_cons_of_pos (by exact h)]; rfl
theorem vecs_congr {n : Nat} {a b : List CR} (h : a.filter (fun c => isC c (n : Int)) = b.filter (fun c => isC c (n : Int))) : vecs n a = vecs n b := by
  unfold vecs; rw [h]
/-- The two rows of what must hold tell the same. -/
theorem bsdF_vecs {n : Nat} {val : List QR} {c : CR} (al : List CR) (h : isC c (n : Int) = true) : vecs n (bsdF n val c (fzC n al)) = vecs n (bsd n val c al) := by
  unfold bsdF bsd
  rw [vecs_cons_yes _ h, vecs_cons_yes _ h]
  congr 1
  apply vecs_congr
  rw [fzC_filter, List.filter_filter, List.filter_filter, List.filter_filter]
  apply List.filter_congr
  intro o _
  unfold okB
  cases isC o (n : Int) <;> simp
theorem Bt_F {n : Nat} {val : List QR} {al : List CR} {c : CR} (h : isC c (n : Int) = true) : Bt n val al c ↔ hB val c = false ∧ Cons n (bsdF n val c (fzC n al)) := by
  unfold Bt Cons
  rw [bsdF_vecs al h]
  unfold okB; rw [h]; simp
theorem beat_none {n : Nat} {val : List QR} {al : List CR} (h : ∀ j p, j < (fz n al).length → (fz n al)[j]? = some p → ¬ Bt n val al p.1) : ∀ c ∈ al, ¬ Bt n val al c := fun c hc hb => by
  have h1 : isC c (n : Int) = true := by
    cases h2 : isC c (n : Int) with
    | true => rfl
    | false => have := hb.1; unfold okB at this; rw [h2] at this; simp at this
  obtain ⟨i, hi, rfl⟩ := List.mem_iff_getElem.1 hc
  have h2 : (al[i], i) ∈ fz n al := List.mem_filter.2 ⟨List.mem_zipIdx_iff_getElem?.2 (List.getElem?_eq_getElem hi), h1⟩
  obtain ⟨k, hk, e⟩ := List.mem_iff_getElem.1 h2
  exact h k _ hk (by rw [List.getElem?_eq_getElem hk, e]) hb
theorem beat_some {n : Nat} {val : List QR} {al : List CR} {i : Nat} {p : CR × Nat} (hp : (fz n al)[i]? = some p) (hb : Bt n val al p.1) (h : ∀ j q, j < i → (fz n al)[j]? = some q → ¬ Bt n val al q.1) : BeatR n val al ((p.2 : Nat) : Int) := by
  refine .inr ⟨p.2, p.1, rfl, (fz_at hp).1, hb, fun j d hj hd hbd => ?_⟩
  have h1 : isC d (n : Int) = true := by
    cases h2 : isC d (n : Int) with
    | true => rfl
    | false => have := hbd.1; unfold okB at this; rw [h2] at this; simp at this
  obtain ⟨k, hk, e⟩ := fz_before hp hj hd h1
  exact h k _ hk e hbd


theorem no_step {α : Type} {P : α → Prop} {l : List α} {i : Nat} {z : α} (h : ∀ j d, j < i → l[j]? = some d → ¬ P d) (hz : l[i]? = some z) (hn : ¬ P z) : ∀ j d, j < i + 1 → l[j]? = some d → ¬ P d := fun j d hj hd => by
  rcases Nat.lt_or_ge j i with h1 | h1
  · exact h j d h1 hd
  · have : j = i := by omega
    subst this
    rw [hz] at hd; injection hd with hd; subst hd; exact hn

theorem built_C012 (v : Int) (T : Option Addr) (l t : Nat) (s : Bool) (A : Option Addr) (n c : Nat) (B : Option Addr) (m d : Nat) : Try.prog.built 33 [(0, .int .i64 v), (1, .slice T l t), (2, .agg #[.bool s, .slice A n c, .slice B m d])] = some #[.int .i64 v, .slice T l t, .bool s, .slice A n c, .slice B m d] := by kernel_rfl
theorem fillS2 (A : Option Addr) (l t : Nat) (B : Option Addr) (m u : Nat) : Instr.fill (fun i => some (i * 1, 1)) ((Array.range (2 * 1)).map ((Value.slice none 0 0).cells[· % (Value.slice none 0 0).cells.size]!)) [(0, .slice A l t), (1, .slice B m u)] = some #[.slice A l t, .slice B m u] := by kernel_rfl
theorem c_Grow {w : World} {n : Nat} (hn : n ≤ 1000000) :
    Ret Try.prog 39 #[.slice none 0 0, .int .i64 (n : Int)] w (fun r w' => w'.ownsRow w.heap.size 33 5 r 0 [] ∧ Mod [] w w') := by
 refine Ret.of (vs := [.slice none 0 0, .int .i64 (n : Int)]) (n := 27) Try.func39 rfl rfl rfl rfl ?_
 have hm0 : Mod [] w w := Mod.refl _ _
 refine W.seq <| W.region <| L.v (R1.assign rfl) rfl <| L.nil <| X.seq <| W.seq <| W.seq <| W.region <| L.v (R1.move rfl) rfl <| L.v (R1.lt rfl rfl) rfl <| L.nil ?_
 refine X.seq <| W.cond rfl ?_ ?_
 ·
  intro hc6
  try simp only [bq, ne_eq] at hc6
  omega
 ·
  intro hc6
  try simp only [bq, ne_eq] at hc6
  refine W.skip <| X.seq <| W.seq <| W.seq <| W.region <| L.v (R1.move rfl) rfl <| L.v (R1.move rfl) rfl <| L.v (R1.cap rfl tyS22) rfl <| L.v (R1.move rfl) rfl <| L.v (R1.len rfl tyS22) rfl <| L.v (R1.subI rfl rfl (by omega) (by omega)) rfl ?_
  refine L.v ((R1.subI rfl rfl (by omega) (by omega)).as (j := (n : Int)) (by omega)) rfl <| L.v (R1.assign rfl) rfl <| L.nil <| X.seq <| W.seq <| W.region <| L.v (R1.move rfl) rfl <| L.v (R1.gt rfl rfl) rfl <| L.nil <| X.seq <| W.cut (ι := Value) (fun u => [(0, u)]) (fun u w_ => w_.ownsRow w.heap.size 33 5 u 0 [] ∧ Mod [] w w_) ?_ ?_
  ·
   refine W.cond rfl ?_ ?_
   ·
    intro hc16
    try simp only [bq, ne_eq] at hc16
    refine W.region <| L.v (R1.move rfl) rfl <| L.v (R1.move rfl) rfl <| L.v (R1.cap rfl tyS22) rfl <| L.v ((R1.sliceH rfl rfl tyS22 (by decide) (by decide)).asV (v := .slice none 0 0) (by simp [cutS])) rfl <| L.v (R1.move rfl) rfl <| L.appendZ rfl rfl tyS22 tyI3 tyZ33 (by omega) (by omega) (by unfold maxLen; omega) rfl ?_
    intro g22 cz cs9_ w1 hN9_ hcz1_ hcz2_ hsz_
    have ho : World.ownsRow w1 w.heap.size 33 5 (.slice (some ⟨g22, 0, none⟩) 0 cz) 0 [] := by simpa using own_new hN9_ hm0.size hsz_ hcz2_ (Nat.zero_le cz)
    replace hm0 := hm0.trans hN9_.mod
    refine L.v (R1.move rfl) rfl <| L.v (R1.len rfl tyS22) rfl <| L.v ((R1.sliceH rfl rfl tyS22 (by decide) (by omega)).asV (v := .slice (some ⟨g22, 0, none⟩) 0 cz) (by simp [cutS, Addr.add])) rfl <| L.v (R1.assign rfl) rfl <| L.nil <| X.join (.slice (some ⟨g22, 0, none⟩) 0 cz) ?_ ?_
    · exact ⟨rfl, trivial⟩
    ·
     exact ⟨ho, hm0⟩
   ·
    intro hc16
    try simp only [bq, ne_eq] at hc16
    obtain rfl : n = 0 := by omega
    refine W.skip <| X.join (.slice none 0 0) ?_ ?_
    · exact ⟨rfl, trivial⟩
    ·
     exact ⟨own_nil _ _ _ _, hm0⟩
  ·
   rintro u wj ⟨ho, hm0⟩
   refine X.seq <| W.seq <| W.region <| L.v (R1.move rfl) rfl <| L.v (R1.assign rfl) rfl <| L.nil <| X.seq <| W.ret <| X.result1 rfl (.tmp rfl .nil) ?_
   exact ⟨ho, hm0⟩

theorem c_Concat {M : List Nat} {w : World} {vS : Value} {ls : List (List CR)} (hL : Lay (rdR rdC) M w vS ls) (hbd : Bd M w) (hb : ls.flatten.length ≤ 1000000) :
    Ret Try.prog 20 #[vS] w (fun r w' => Lay rdC M w' r ls.flatten ∧ Mod [] w w') := by
 have hbd0 := hbd
 have hmx := hL.max
 unfold maxLen at hmx
 obtain ⟨TS, tS, rfl⟩ := hL.form
 refine Ret.of (vs := [.slice TS ls.length tS]) (n := 36) Try.func20 rfl rfl rfl rfl ?_
 have hm0 : Mod [] w w := Mod.refl _ _
 refine W.seq <| W.region <| L.v (R1.assign rfl) rfl <| L.nil <| X.seq <| W.seq <| W.region <| L.v (R1.assign rfl) rfl <| L.nil <| X.seq <| W.seq ?_
 refine W.seq <| W.region <| L.v (R1.move rfl) rfl <| L.v (R1.lenLay rfl hL tyS67) rfl <| L.v (R1.move rfl) rfl <| L.nil <| X.seq <| W.block <| W.loop (ι := Nat) (fun i => [(3, .int .i64 (((ls.take i).flatten.length : Nat) : Int)), (9, .slice TS ls.length tS), (10, .int .i64 (ls.length : Int)), (11, .int .i64 (i : Int)), (0, .slice TS ls.length tS)]) (fun i w_ => Lay (rdR rdC) M w_ (.slice TS ls.length tS) ls ∧ Bd M w_ ∧ Mod [] w w_ ∧ i ≤ ls.length) (fun i => ls.length - i) 0 ?_ ?_ ?_
 · exact ⟨rfl, rfl, rfl, rfl, rfl, trivial⟩
 ·
  exact ⟨hL.sub (by intro b hb; first | exact hb | (simp only [mq] at hb ⊢; grind)), hbd.sub (by intro b hb; first | exact hb | (simp only [mq] at hb ⊢; grind)), hm0, Nat.zero_le _⟩
 ·
  rintro i w1 ⟨hL, hbd, hm0, hi⟩
  refine W.seq <| W.region <| L.v (R1.lt rfl rfl) rfl <| L.nil <| X.seq <| W.seq <| W.cond rfl ?_ ?_
  ·
   intro hc12
   try simp only [bq, ne_eq] at hc12
   refine W.skip <| X.seq <| W.seq <| W.block <| W.seq <| W.region <| L.v (R1.atLay (j := i) rfl rfl hL tyS67 rfl (by omega)) rfl ?_
   obtain ⟨z14, cs14, hz14, hE14, v14, rfl, hl14⟩ := Lay.elemQ hL (j := i) (by omega)
   obtain ⟨A14, a14, rfl⟩ := hl14.form
   refine L.v (R1.loadE1 rfl hE14 tyP22) rfl <| L.v (R1.assign rfl) rfl <| L.nil <| X.seq <| W.seq <| W.region <| L.v (R1.move rfl) rfl <| L.v (R1.move rfl) rfl <| L.v (R1.lenLay rfl hl14 tyS22) rfl ?_
   have hfl := flat_le hz14
   refine L.v (R1.addI rfl rfl (by omega)) rfl <| L.v (R1.assign rfl) rfl <| L.nil <| X.seq <| W.seq <| W.region <| L.v (R1.move rfl) rfl <| L.v (R1.lt rfl rfl) rfl <| L.nil <| X.seq <| W.cond rfl ?_ ?_
   ·
    intro hc20
    try simp only [bq, ne_eq] at hc20
    omega
   ·
    intro hc20
    try simp only [bq, ne_eq] at hc20
    refine W.skip <| X.blockEnd <| X.seq <| W.region <| L.v (R1.addI (b := 1) rfl rfl (by omega)) rfl <| L.v (R1.move rfl) rfl <| L.nil <| X.next (i + 1) ?_ ?_ ?_
    · refine ⟨congrArg (fun n : Nat => some (Value.int .i64 (n : Int))) (by rw [flat_succ hz14, List.length_append]), rfl, rfl, rfl, rfl, trivial⟩
    ·
     exact ⟨hL.sub (by intro b hb; first | exact hb | (simp only [mq] at hb ⊢; grind)), hbd.sub (by intro b hb; first | exact hb | (simp only [mq] at hb ⊢; grind)), hm0, by omega⟩
    · first | omega | (dsimp only; omega)
  ·
   intro hc12
   try simp only [bq, ne_eq] at hc12
   obtain rfl : i = ls.length := by omega
   rw [List.take_length]
   refine W.exit <| X.thenExit <| X.nextExit <| X.here <| X.seq <| W.seq <| W.region <| L.v (R1.move rfl) rfl <| L.call rfl (c_Grow (n := ls.flatten.length) (by omega)) rfl ?_
   rintro v24 w2 ⟨ho, hm2⟩
   replace hL := hL.ownd ho hm2
   replace hbd := hbd.ownd ho hm2
   replace ho := own_less ho hm0.size
   replace hm0 := hm0.trans hm2
   clear hm2
   refine L.v (R1.assign rfl) rfl <| L.nil <| X.seq <| W.seq <| W.seq <| W.region <| L.v (R1.move rfl) rfl <| L.v (R1.lenLay rfl hL tyS67) rfl <| L.v (R1.move rfl) rfl <| L.nil <| X.seq ?_
   refine W.block <| W.loop (ι := Nat × Value × List (List Value)) (fun (i, u, css) => [(6, u), (25, .slice TS ls.length tS), (26, .int .i64 (ls.length : Int)), (27, .int .i64 (i : Int))]) (fun (i, u, css) w_ => Lay (rdR rdC) (ownL u ++ M) w_ (.slice TS ls.length tS) ls ∧ w_.ownsRow w.heap.size 33 5 u (ls.take i).flatten.length css.flatten ∧ LayL rdC (ownL u ++ M) w_ css (ls.take i).flatten ∧ Bd (ownL u ++ M) w_ ∧ Mod [] w w_ ∧ i ≤ ls.length) (fun (i, u, css) => ls.length - i) (0, v24, []) ?_ ?_ ?_
   · exact ⟨rfl, rfl, rfl, rfl, trivial⟩
   ·
    exact ⟨hL.sub (by intro b hb; first | exact hb | (simp only [mq] at hb ⊢; grind)), ho, LayL.nil, hbd.sub (by intro b hb; first | exact hb | (simp only [mq] at hb ⊢; grind)), hm0, Nat.zero_le _⟩
   ·
    rintro ⟨i, u, css⟩ w3 ⟨hL, ho, hl, hbd, hm0, hi⟩
    refine W.seq <| W.region <| L.v (R1.lt rfl rfl) rfl <| L.nil <| X.seq <| W.seq <| W.cond rfl ?_ ?_
    ·
     intro hc28
     try simp only [bq, ne_eq] at hc28
     refine W.skip <| X.seq <| W.seq <| W.block <| W.seq <| W.region <| L.v (R1.atLay (j := i) rfl rfl hL tyS67 rfl (by omega)) rfl ?_
     obtain ⟨z30, cs30, hz30, hE30, v30, rfl, hl30⟩ := Lay.elemQ hL (j := i) (by omega)
     obtain ⟨A30, a30, rfl⟩ := hl30.form
     refine L.v (R1.loadE1 rfl hE30 tyP22) rfl <| L.v (R1.assign rfl) rfl <| L.nil <| X.seq <| W.region <| L.v (R1.move rfl) rfl <| L.v (R1.move rfl) rfl ?_
     have hfl := flat_le hz30
     have hl30_ := hl30
     obtain ⟨dss, hs2, hl2⟩ := hl30_
     refine L.append rfl rfl ho hs2 (hl2.ones) tyS22 tyZ33 (by omega) (by unfold maxLen; omega) hm0.size rfl ?_
     intro v33 w4 ho33' hG33
     replace hL := hL.grew2 hG33 (by first | exact mem_own | (intro b hb; simp [hb]))
     replace hl := hl.grew2 hG33 (by first | exact mem_own | (intro b hb; simp [hb]))
     replace hbd := hbd.grew2 hG33 (by first | exact mem_own | (intro b hb; simp [hb]))
     replace hm0 := Mod.oldOwn hm0 hG33.mod ho
     replace hl30 := hl30.grew2 hG33 (by first | exact mem_own | (intro b hb; simp [hb]))
     replace hl2 := hl2.grew2 hG33 (by first | exact mem_own | (intro b hb; simp [hb]))
     replace ho := ho33'; clear ho33'
     clear hG33
     refine L.v (R1.assign rfl) rfl <| L.nil <| X.blockEnd <| X.seq <| W.region <| L.v (R1.addI (b := 1) rfl rfl (by omega)) rfl <| L.v (R1.move rfl) rfl <| L.nil <| X.next (i + 1, v33, css ++ dss) ?_ ?_ ?_
     · exact ⟨rfl, rfl, rfl, rfl, trivial⟩
     ·
      exact ⟨hL.sub (by intro b hb; first | exact hb | (simp only [mq] at hb ⊢; grind)), own_congr ho (by rw [flat_succ hz30, List.length_append]) (by simp), by rw [flat_succ hz30]; exact (hl.sub (by intro b hb; first | exact hb | (simp only [mq] at hb ⊢; grind))).append (hl2.sub (by intro b hb; first | exact hb | (simp only [mq] at hb ⊢; grind))), hbd.sub (by intro b hb; first | exact hb | (simp only [mq] at hb ⊢; grind)), hm0, by omega⟩
     · first | omega | (dsimp only; omega)
    ·
     intro hc28
     try simp only [bq, ne_eq] at hc28
     obtain rfl : i = ls.length := by omega
     rw [List.take_length] at ho hl
     refine W.exit <| X.thenExit <| X.nextExit <| X.here <| X.seq <| W.seq <| W.region <| L.v (R1.move rfl) rfl <| L.v (R1.assign rfl) rfl <| L.nil <| X.seq ?_
     refine W.ret <| X.result1 rfl (.tmp rfl .nil) ?_
     exact ⟨own_lay hbd0 ho hl (by intro b hb; first | exact hb | (simp only [mq] at hb ⊢; grind)), hm0⟩

set_option maxHeartbeats 1000000 in
theorem c_stays {M : List Nat} {w : World} {vb : Value} {bs : List QR} {n : Nat} (hv : Lay rdQ M w vb bs) (hbd : Bd M w) (hsb : ∀ q ∈ bs, SmQ 3 q) (hn : n ≤ 64) :
    Ret Try.prog 21 #[vb, .int .i64 (n : Int)] w (fun r w' => Lay rdC M w' r (staysL bs n) ∧ Mod [] w w') := by
 have hbd0 := hbd
 obtain ⟨TB, tB, rfl⟩ := hv.form
 refine Ret.of (vs := [.slice TB bs.length tB, .int .i64 (n : Int)]) (n := 33) Try.func21 rfl rfl rfl rfl ?_
 have hm0 : Mod [] w w := Mod.refl _ _
 refine W.seq <| W.region <| L.v (R1.assign rfl) rfl <| L.nil <| X.seq <| W.seq <| W.region <| L.v (R1.assign rfl) rfl <| L.nil <| X.seq <| W.seq ?_
 refine W.seq <| W.region <| L.v (R1.move rfl) rfl <| L.v (R1.move rfl) rfl <| L.nil <| X.seq <| W.block <| W.loop (ι := Nat × Value × List (List Value)) (fun (i, u, css) => [(0, .slice TB bs.length tB), (5, u), (8, .int .i64 (n : Int)), (9, .int .i64 (i : Int))]) (fun (i, u, css) w_ => Lay rdQ (ownL u ++ M) w_ (.slice TB bs.length tB) bs ∧ w_.ownsRow w.heap.size 33 5 u i css.flatten ∧ LayL rdC (ownL u ++ M) w_ css (staysL bs i) ∧ Bd (ownL u ++ M) w_ ∧ Mod [] w w_ ∧ i ≤ n) (fun (i, u, css) => n - i) (0, .slice none 0 0, []) ?_ ?_ ?_
 · exact ⟨rfl, rfl, rfl, rfl, trivial⟩
 ·
  exact ⟨hv.sub (by intro b hb; first | exact hb | (simp only [mq] at hb ⊢; grind)), own_nil _ _ _ _, LayL.nil, hbd.sub (by intro b hb; first | exact hb | (simp only [mq] at hb ⊢; grind)), hm0, Nat.zero_le _⟩
 ·
  rintro ⟨i, u, css⟩ w1 ⟨hv, ho, hl, hbd, hm0, hi⟩
  refine W.seq <| W.region <| L.v (R1.lt rfl rfl) rfl <| L.nil <| X.seq <| W.seq <| W.cond rfl ?_ ?_
  ·
   intro hc10
   try simp only [bq, ne_eq] at hc10
   refine W.skip <| X.seq <| W.seq <| W.block <| W.seq <| W.region <| L.v (R1.move rfl) rfl <| L.v (R1.assign rfl) rfl <| L.nil <| X.seq <| W.seq ?_
   refine W.region <| L.call rfl (c_rat_Int (n := 0) (by decide) (by decide) hbd) rfl ?_
   rintro _ w2 ⟨⟨A12, c12, B12, e12, rfl, hn12, hd12⟩, hm2⟩
   replace hv := hv.gr hm2
   replace ho := own_gr ho hm2 (by simp)
   replace hl := hl.gr hm2
   replace hbd := hbd.gr hm2
   replace hm0 := hm0.trans hm2
   clear hm2
   have F12 := Fit.int (n := 0) (by decide) (by decide)
   refine L.alloc tyZ31 rfl ?_
   intro g7 w3 hN7
   replace hv := hv.new hN7
   have hno_ho_g7 := own_ne_new ho hN7
   replace ho := own_gr ho hN7.mod (by simp)
   replace hl := hl.new hN7
   replace hbd := hbd.new hN7
   have hge_g7 := New.ge hN7 hm0.size
   replace hm0 := hm0.trans (hN7.mod.mono (by simp))
   replace hn12 := hn12.new hN7
   replace hd12 := hd12.new hN7
   have hb7 := hN7.blk
   clear hN7
   refine L.storeBox rfl rfl hb7 rfl rfl tyG31 ?_
   intro w4 hb7' hm4
   replace hv := hv.mod hm4 (by simp)
   replace ho := own_far ho hm4 hno_ho_g7
   replace hl := hl.mod hm4 (by simp)
   replace hbd := hbd.gr hm4
   replace hm0 := hm0.old1 hm4 hge_g7
   replace hn12 := hn12.mod hm4 (by simp)
   replace hd12 := hd12.mod hm4 (by simp)
   clear hm4
   replace hb7 := hb7'; clear hb7'
   refine L.nil <| X.seq <| W.seq <| W.seq <| W.region <| L.v (R1.move rfl) rfl <| L.v (R1.move rfl) rfl <| L.v (R1.lenLay rfl hv tyS23) rfl <| L.v (R1.lt rfl rfl) rfl <| L.nil <| X.seq ?_
   refine W.cut (ι := Option Addr × Nat × Option Addr × Nat) (fun (A7, c7, B7, e7) => [(0, .slice TB bs.length tB), (5, u), (6, .int .i64 (i : Int)), (7, .pointer (some ⟨g7, 0, none⟩)), (8, .int .i64 (n : Int)), (9, .int .i64 (i : Int))]) (fun (A7, c7, B7, e7) w_ => Lay rdQ (g7 :: (ownL u ++ M)) w_ (.slice TB bs.length tB) bs ∧ w_.ownsRow w.heap.size 33 5 u i css.flatten ∧ LayL rdC (g7 :: (ownL u ++ M)) w_ css (staysL bs i) ∧ U32 (g7 :: (ownL u ++ M)) w_ (.slice A7 (toL (-(valOf bs (i : Int))).num.natAbs).length c7) (toL (-(valOf bs (i : Int))).num.natAbs) ∧ U32 (g7 :: (ownL u ++ M)) w_ (.slice B7 (toL (-(valOf bs (i : Int))).den).length e7) (toL (-(valOf bs (i : Int))).den) ∧ Blk w_ g7 31 #[.bool (decide ((-(valOf bs (i : Int))).num < 0)), .slice A7 (toL (-(valOf bs (i : Int))).num.natAbs).length c7, .slice B7 (toL (-(valOf bs (i : Int))).den).length e7] ∧ Bd (g7 :: (ownL u ++ M)) w_ ∧ Mod [] w w_ ∧ u.ownBlock ≠ some g7) ?_ ?_
   ·
    refine W.cond rfl ?_ ?_
    ·
     intro hc16
     try simp only [bq, ne_eq] at hc16
     refine W.region <| L.v (R1.move rfl) rfl <| L.v (R1.move rfl) rfl <| L.v (R1.atLay (j := i) rfl rfl hv tyS23 rfl (by omega)) rfl ?_
     obtain ⟨z20, cs20, hz20, hE20, vn20, vd20, rfl, hn20, hd20⟩ := Lay.elemQ hv (j := i) (by omega)
     obtain ⟨A20, c20, rfl⟩ := hn20.form
     obtain ⟨B20, e20, rfl⟩ := hd20.form
     refine L.v (R1.loadE rfl hE20 tyG31) rfl ?_
     have F20 := fit_sm hn20 hd20 (hsb _ (List.mem_of_getElem? hz20))
     refine L.call rfl (c_rat_Neg (q := (QR.val z20)) rfl hn20 hd20 hbd (Nat.le_trans (hsb _ (List.mem_of_getElem? hz20)).1 (by decide)) (Nat.le_trans (hsb _ (List.mem_of_getElem? hz20)).2 (by decide))) rfl ?_
     rintro _ w5 ⟨⟨A21, c21, B21, e21, rfl, hn21, hd21⟩, hm5⟩
     replace hv := hv.gr hm5
     replace ho := own_gr ho hm5 (by simp)
     replace hl := hl.gr hm5
     replace hbd := hbd.gr hm5
     replace hm0 := hm0.trans hm5
     replace hb7 := Blk.gr hb7 hm5
     clear hm5
     have F21 := Fit.neg F20
     refine L.storeBox rfl rfl hb7 rfl rfl tyG31 ?_
     intro w6 hb7' hm6
     replace hv := hv.mod hm6 (by simp)
     replace ho := own_far ho hm6 hno_ho_g7
     replace hl := hl.mod hm6 (by simp)
     replace hbd := hbd.gr hm6
     replace hm0 := hm0.old1 hm6 hge_g7
     replace hn21 := hn21.mod hm6 (by simp)
     replace hd21 := hd21.mod hm6 (by simp)
     clear hm6
     replace hb7 := hb7'; clear hb7'
     refine L.nil <| X.join (A21, c21, B21, e21) ?_ ?_
     · exact ⟨rfl, rfl, rfl, rfl, rfl, rfl, trivial⟩
     ·
      have e9 : valOf bs (i : Int) = QR.val z20 := valOf_some (by omega) (by rw [Int.toNat_natCast]; exact hz20)
      rw [e9]
      exact ⟨hv.sub (by intro b hb; first | exact hb | (simp only [mq] at hb ⊢; grind)), ho, hl.sub (by intro b hb; first | exact hb | (simp only [mq] at hb ⊢; grind)), hn21.sub (by intro b hb; first | exact hb | (simp only [mq] at hb ⊢; grind)), hd21.sub (by intro b hb; first | exact hb | (simp only [mq] at hb ⊢; grind)), hb7, hbd.sub (by intro b hb; first | exact hb | (simp only [mq] at hb ⊢; grind)), hm0, hno_ho_g7⟩
    ·
     intro hc16
     try simp only [bq, ne_eq] at hc16
     refine W.skip <| X.join (A12, c12, B12, e12) ?_ ?_
     · exact ⟨rfl, rfl, rfl, rfl, rfl, rfl, trivial⟩
     ·
      have e9 : (-(valOf bs (i : Int))) = (((0 : Int)) : Rat) := by rw [valOf_none (by omega)]; rfl
      rw [e9]
      exact ⟨hv.sub (by intro b hb; first | exact hb | (simp only [mq] at hb ⊢; grind)), ho, hl.sub (by intro b hb; first | exact hb | (simp only [mq] at hb ⊢; grind)), hn12.sub (by intro b hb; first | exact hb | (simp only [mq] at hb ⊢; grind)), hd12.sub (by intro b hb; first | exact hb | (simp only [mq] at hb ⊢; grind)), hb7, hbd.sub (by intro b hb; first | exact hb | (simp only [mq] at hb ⊢; grind)), hm0, hno_ho_g7⟩
   ·
    rintro ⟨A7, c7, B7, e7⟩ wj ⟨hv, ho, hl, hn7, hd7, hb7, hbd, hm0, hno_ho_g7⟩
    refine X.seq <| W.drawW (T := [8, 9]) rfl (by decide +kernel) (NoHang.block (NoHang.then (NoHang.next (NoHang.block (NoHang.then NoHang.post))))) (fun w7 hm7 => ?_)
    replace hv := hv.gr hm7
    replace ho := own_gr ho hm7 (by simp)
    replace hl := hl.gr hm7
    replace hn7 := hn7.gr hm7
    replace hd7 := hd7.gr hm7
    replace hb7 := Blk.gr hb7 hm7
    replace hbd := hbd.gr hm7
    replace hm0 := hm0.trans hm7
    have hS1 : Mod [] w7 w7 := Mod.refl _ _
    clear hm7
    have hb7_s := hb7
    refine D.take 0 rfl (by decide +kernel) (fun w_ hS => (R1.move rfl)) hS1 rfl <| D.take 1 rfl (by decide +kernel) (fun w_ hS => (R1.move rfl)) hS1 rfl <| D.take 5 rfl (by decide +kernel) (fun w_ hS => (R1.loadBox rfl (Blk.gr hb7_s hS) tyG31)) hS1 rfl <| D.one 2 rfl (by decide +kernel) (fun hX => ?_)
    refine L.call rfl (c_rat_Int (n := 1) (by decide) (by decide) hbd) rfl ?_
    rintro _ w8 ⟨⟨A24, c24, B24, e24, rfl, hn24, hd24⟩, hm8⟩
    replace hv := hv.gr hm8
    replace ho := own_gr ho hm8 (by simp)
    replace hl := hl.gr hm8
    replace hn7 := hn7.gr hm8
    replace hd7 := hd7.gr hm8
    replace hbd := hbd.gr hm8
    replace hm0 := hm0.trans hm8
    replace hS1 := hS1.trans hm8
    clear hm8
    have F24 := Fit.int (n := 1) (by decide) (by decide)
    refine L.nil (hX _ _ ⟨.inr hS1, ?_⟩)
    refine D.take 3 rfl (by decide +kernel) (fun w_ hS => (R1.build (vs := [.int .i64 (i : Int), .agg #[.bool (decide ((((1 : Int)) : Rat).num < 0)), .slice A24 (toL (((1 : Int)) : Rat).num.natAbs).length c24, .slice B24 (toL (((1 : Int)) : Rat).den).length e24]]) rfl (built_T01 _ _ _ _ _ _ _ _))) hS1 rfl <| D.one 4 rfl (by decide +kernel) (fun hX => ?_)
    refine L.buildSlice (cells := [.int .i64 (i : Int), .bool (decide ((((1 : Int)) : Rat).num < 0)), .slice A24 (toL (((1 : Int)) : Rat).num.natAbs).length c24, .slice B24 (toL (((1 : Int)) : Rat).den).length e24]) rfl tyS28 tyZ46 (fillN1 _ _ _ _ _ _ _ _) (by decide) (by decide) rfl ?_
    intro g26 w9 hN26
    replace hS1 := hS1.trans hN26.mod
    replace hv := hv.new hN26
    have hno_ho_g26 := own_ne_new ho hN26
    replace ho := own_gr ho hN26.mod (by simp)
    replace hl := hl.new hN26
    replace hn7 := hn7.new hN26
    replace hd7 := hd7.new hN26
    replace hbd := hbd.new hN26
    have hge_g26 := New.ge hN26 hm0.size
    replace hm0 := hm0.trans (hN26.mod.mono (by simp))
    replace hn24 := hn24.new hN26
    replace hd24 := hd24.new hN26
    have hb26 := hN26.blk
    clear hN26
    refine L.nil (hX _ _ ⟨.inr hS1, ?_⟩)
    refine D.take 6 rfl (by decide +kernel) (fun w_ hS => (R1.build (vs := [.int .i64 4, .slice (some ⟨g26, 0, none⟩) 1 1, .agg #[.bool (decide ((-(valOf bs (i : Int))).num < 0)), .slice A7 (toL (-(valOf bs (i : Int))).num.natAbs).length c7, .slice B7 (toL (-(valOf bs (i : Int))).den).length e7]]) rfl (built_C012 _ _ _ _ _ _ _ _ _ _ _))) hS1 rfl <| D.one 7 rfl (by decide +kernel) (fun hX => ?_)
    refine L.buildSlice (cells := [.int .i64 4, .slice (some ⟨g26, 0, none⟩) 1 1, .bool (decide ((-(valOf bs (i : Int))).num < 0)), .slice A7 (toL (-(valOf bs (i : Int))).num.natAbs).length c7, .slice B7 (toL (-(valOf bs (i : Int))).den).length e7]) rfl tyS22 tyZ33 (fillK1 _ _ _ _ _ _ _ _ _ _ _) (by decide) (by decide) rfl ?_
    intro g29 w10 hN29
    replace hv := hv.gr hN29.mod
    replace ho := own_gr ho hN29.mod (by simp)
    replace hl := hl.gr hN29.mod
    replace hn7 := hn7.gr hN29.mod
    replace hd7 := hd7.gr hN29.mod
    replace hbd := hbd.gr hN29.mod
    replace hm0 := hm0.trans hN29.mod
    replace hn24 := hn24.gr hN29.mod
    replace hd24 := hd24.gr hN29.mod
    replace hb26 := Blk.gr hb26 hN29.mod
    replace hS1 := hS1.trans hN29.mod
    have hrow : Sl [] w10 5 (.slice (some ⟨g29, 0, none⟩) 1 1) 1 [.int .i64 4, .slice (some ⟨g26, 0, none⟩) 1 1, .bool (decide ((-(valOf bs (i : Int))).num < 0)), .slice A7 (toL (-(valOf bs (i : Int))).num.natAbs).length c7, .slice B7 (toL (-(valOf bs (i : Int))).den).length e7] := Sl.of_blk hN29.blk 0 (Nat.le_refl _) (by decide) rfl (by simp) (fun j hj => by simp)
    clear hN29
    refine L.nil (hX _ _ ⟨.inr hS1, ?_⟩)
    refine D.one 8 rfl (by decide +kernel) (fun hX => ?_)
    refine L.append rfl rfl ho hrow (by intro c hc; simp only [List.mem_cons, List.not_mem_nil, or_false] at hc; rcases hc with rfl | rfl | rfl | rfl | rfl <;> rfl) tyS22 tyZ33 (by omega) (by unfold maxLen; omega) hm0.size rfl ?_
    intro v30 w11 ho30' hG30
    replace hv := hv.grew2 hG30 (by first | exact mem_own | (intro b hb; simp [hb]))
    replace hl := hl.grew2 hG30 (by first | exact mem_own | (intro b hb; simp [hb]))
    replace hn7 := hn7.grew2 hG30 (by first | exact mem_own | (intro b hb; simp [hb]))
    replace hd7 := hd7.grew2 hG30 (by first | exact mem_own | (intro b hb; simp [hb]))
    replace hbd := hbd.grew2 hG30 (by first | exact mem_own | (intro b hb; simp [hb]))
    replace hm0 := Mod.oldOwn hm0 hG30.mod ho
    replace hn24 := hn24.grew2 hG30 (by first | exact mem_own | (intro b hb; simp [hb]))
    replace hd24 := hd24.grew2 hG30 (by first | exact mem_own | (intro b hb; simp [hb]))
    have hnn_g26 := hG30.ne hno_ho_g26 hb26
    replace hb26 := Blk.grew hb26 hG30 hno_ho_g26
    replace hno_ho_g26 := hnn_g26
    replace ho := ho30'; clear ho30'
    clear hG30
    refine L.nil (hX _ _ ⟨.inl rfl, ?_⟩)
    refine D.one 9 rfl (by decide +kernel) (fun hX => ?_)
    refine L.v (R1.assign rfl) rfl (L.nil (hX _ _ ⟨.inl rfl, ?_⟩))
    refine D.done (by decide +kernel) ?_ _
    refine X.blockEnd <| X.seq <| W.region <| L.v (R1.addI (b := 1) rfl rfl (by omega)) rfl <| L.v (R1.move rfl) rfl <| L.nil <| X.next (i + 1, v30, css ++ [[.int .i64 4, .slice (some ⟨g26, 0, none⟩) 1 1, .bool (decide ((-(valOf bs (i : Int))).num < 0)), .slice A7 (toL (-(valOf bs (i : Int))).num.natAbs).length c7, .slice B7 (toL (-(valOf bs (i : Int))).den).length e7]]) ?_ ?_ ?_
    · exact ⟨rfl, rfl, rfl, rfl, trivial⟩
    ·
     have hT : Lay rdT (ownL v30 ++ M) w11 (.slice (some ⟨g26, 0, none⟩) 1 1) (stC bs i).ts := Lay.of_blk (css := [[.int .i64 (i : Int), .bool (decide ((((1 : Int)) : Rat).num < 0)), .slice A24 (toL (((1 : Int)) : Rat).num.natAbs).length c24, .slice B24 (toL (((1 : Int)) : Rat).den).length e24]]) hb26 (LayL.one _ (⟨(i : Int), QR.nf (((1 : Int)) : Rat)⟩ : TR) (rdT_mk (t := ⟨(i : Int), QR.nf (((1 : Int)) : Rat)⟩) (hn24.sub (by intro b hb; first | exact hb | (simp only [mq] at hb ⊢; grind))) (hd24.sub (by intro b hb; first | exact hb | (simp only [mq] at hb ⊢; grind))))) rfl rfl (by decide) (by simp [not_own hno_ho_g26, hbd0.not hge_g26])
     exact ⟨hv.sub (by intro b hb; first | exact hb | (simp only [mq] at hb ⊢; grind)), own_congr ho rfl (by simp), by rw [stays_succ]; exact (hl.sub (by intro b hb; first | exact hb | (simp only [mq] at hb ⊢; grind))).append (LayL.one _ (stC bs i) (rdC_mk (c := stC bs i) (vt := .slice (some ⟨g26, 0, none⟩) 1 1) hT (hn7.sub (by intro b hb; first | exact hb | (simp only [mq] at hb ⊢; grind))) (hd7.sub (by intro b hb; first | exact hb | (simp only [mq] at hb ⊢; grind))))), hbd.sub (by intro b hb; first | exact hb | (simp only [mq] at hb ⊢; grind)), hm0, by omega⟩
    · first | omega | (dsimp only; omega)
  ·
   intro hc10
   try simp only [bq, ne_eq] at hc10
   obtain rfl : i = n := by omega
   refine W.exit <| X.thenExit <| X.nextExit <| X.here <| X.seq <| W.seq <| W.region <| L.v (R1.move rfl) rfl <| L.v (R1.assign rfl) rfl <| L.nil <| X.seq ?_
   refine W.ret <| X.result1 rfl (.tmp rfl .nil) ?_
   exact ⟨own_lay hbd0 (own_congr ho (stays_len bs _).symm rfl) hl (by intro b hb; first | exact hb | (simp only [mq] at hb ⊢; grind)), hm0⟩

set_option maxHeartbeats 1000000 in
theorem c_Levels {M : List Nat} {w : World} {vl vv : Value} {cs : List CR} {val : List QR} (hL : Lay rdC M w vl cs) (hv : Lay rdQ M w vv val) (hbd : Bd M w) (hsm : ∀ c ∈ cs, SmC 150 c) (hsv : ∀ q ∈ val, SmQ 10 q) (hcl : cs.length ≤ 1000000) (hvl : val.length ≤ 1000000) :
    Ret Try.prog 18 #[vl, vv] w (fun r w' => Lay rdI M w' r ((levs val.length val cs).map fun (x : Nat) => (x : Int)) ∧ Mod [] w w') := by
 have hbd0 := hbd
 obtain ⟨TL, tL, rfl⟩ := hL.form
 obtain ⟨TV, tV, rfl⟩ := hv.form
 refine Ret.of (vs := [.slice TL cs.length tL, .slice TV val.length tV]) (n := 39) Try.func18 rfl rfl rfl rfl ?_
 have hm0 : Mod [] w w := Mod.refl _ _
 refine W.seq <| W.region <| L.v (R1.assign rfl) rfl <| L.nil <| X.seq <| W.seq <| W.region <| L.makeSlice (m := 4) rfl rfl rfl rfl tyS42 tyZ3 (by omega) (by unfold maxLen; omega) rfl ?_
 intro g8 w1 hN8
 have ho := own_made (B := w.heap.size) hN8 hm0.size (by unfold maxLen; omega)
 replace hL := hL.new hN8
 replace hv := hv.new hN8
 replace hbd := hbd.new hN8
 replace hm0 := hm0.trans (hN8.mod.mono (by simp))
 clear hN8
 obtain ⟨v8, hv_v8⟩ : ∃ v, v = Value.slice (some ⟨g8, 0, none⟩) 4 4 := ⟨_, rfl⟩
 have hol_v8 : ownL v8 = [g8] := by rw [hv_v8]; rfl
 rw [← hv_v8] at ho ⊢
 replace hL := hL.sub (of_cons hol_v8)
 replace hv := hv.sub (of_cons hol_v8)
 replace hbd := hbd.sub (of_cons hol_v8)
 clear hv_v8 hol_v8
 refine L.v (R1.assign rfl) rfl <| L.nil <| X.seq <| W.seq <| W.seq <| W.region <| L.v (R1.move rfl) rfl <| L.v (R1.lenLay rfl hL tyS22) rfl <| L.v (R1.move rfl) rfl <| L.nil <| X.seq ?_
 refine W.block <| W.loop (ι := Nat) (fun i => [(1, .slice TV val.length tV), (5, v8), (9, .slice TL cs.length tL), (10, .int .i64 (cs.length : Int)), (11, .int .i64 (i : Int))]) (fun i w_ => Lay rdC (ownL v8 ++ M) w_ (.slice TL cs.length tL) cs ∧ Lay rdQ (ownL v8 ++ M) w_ (.slice TV val.length tV) val ∧ w_.ownsRow w.heap.size 3 1 v8 4 (ints (levs val.length val (cs.take i))) ∧ Bd (ownL v8 ++ M) w_ ∧ Mod [] w w_ ∧ i ≤ cs.length) (fun i => cs.length - i) 0 ?_ ?_ ?_
 · exact ⟨rfl, rfl, rfl, rfl, rfl, trivial⟩
 ·
  exact ⟨hL.sub (by intro b hb; first | exact hb | (simp only [mq] at hb ⊢; grind)), hv.sub (by intro b hb; first | exact hb | (simp only [mq] at hb ⊢; grind)), own_congr ho rfl rfl, hbd.sub (by intro b hb; first | exact hb | (simp only [mq] at hb ⊢; grind)), hm0, Nat.zero_le _⟩
 ·
  rintro i w2 ⟨hL, hv, ho, hbd, hm0, hi⟩
  refine W.seq <| W.region <| L.v (R1.lt rfl rfl) rfl <| L.nil <| X.seq <| W.seq <| W.cond rfl ?_ ?_
  ·
   intro hc12
   try simp only [bq, ne_eq] at hc12
   refine W.skip <| X.seq <| W.seq <| W.block <| W.seq <| W.region <| L.v (R1.atLay (j := i) rfl rfl hL tyS22 rfl (by omega)) rfl ?_
   obtain ⟨z14, cs14, hz14, hE14, vt14, ds14, rfl, ht14, vn14, vd14, rfl, hn14, hd14⟩ := Lay.elemQ hL (j := i) (by omega)
   obtain ⟨T14, t14, rfl⟩ := ht14.form
   obtain ⟨A14, c14, rfl⟩ := hn14.form
   obtain ⟨B14, e14, rfl⟩ := hd14.form
   refine L.v (R1.loadE rfl hE14 tyG33) rfl <| L.alloc tyZ33 rfl ?_
   intro g7 w3 hN7
   replace hL := hL.new hN7
   replace hv := hv.new hN7
   have hno_ho_g7 := own_ne_new ho hN7
   replace ho := own_gr ho hN7.mod (by simp)
   replace hbd := hbd.new hN7
   have hge_g7 := New.ge hN7 hm0.size
   replace hm0 := hm0.trans (hN7.mod.mono (by simp))
   replace ht14 := ht14.new hN7
   replace hn14 := hn14.new hN7
   replace hd14 := hd14.new hN7
   have hb7 := hN7.blk
   clear hN7
   refine L.storeBox rfl rfl hb7 rfl rfl tyG33 ?_
   intro w4 hb7' hm4
   replace hL := hL.mod hm4 (by simp)
   replace hv := hv.mod hm4 (by simp)
   replace ho := own_far ho hm4 hno_ho_g7
   replace hbd := hbd.gr hm4
   replace hm0 := hm0.old1 hm4 hge_g7
   replace ht14 := ht14.mod hm4 (by simp)
   replace hn14 := hn14.mod hm4 (by simp)
   replace hd14 := hd14.mod hm4 (by simp)
   clear hm4
   replace hb7 := hb7'; clear hb7'
   refine L.nil <| X.seq <| W.seq <| W.region <| L.v (R1.loadBox rfl hb7 tyG33) rfl <| L.v (R1.move rfl) rfl <| L.v (R1.lenLay rfl hv tyS23) rfl <| L.call rfl (c_aff_Is ht14 hn14 hd14 (n := (val.length : Int)) (by omega) hbd ((hsm _ (List.mem_of_getElem? hz14)).mono (by decide))) rfl ?_
   rintro _ w5 ⟨rfl, hm5⟩
   replace hL := hL.gr hm5
   replace hv := hv.gr hm5
   replace ho := own_gr ho hm5 (by simp)
   replace hbd := hbd.gr hm5
   replace hm0 := hm0.trans hm5
   replace ht14 := ht14.gr hm5
   replace hn14 := hn14.gr hm5
   replace hd14 := hd14.gr hm5
   replace hb7 := Blk.gr hb7 hm5
   clear hm5
   refine L.v (R1.move rfl) rfl ?_
   cases hgd19 : (isC z14 (val.length : Int))
   ·
    have hcc_ := hgd19
    refine L.off rfl rfl rfl rfl rfl <| L.off rfl rfl rfl rfl rfl <| L.off rfl rfl rfl rfl rfl <| L.v (R1.pickF rfl rfl) rfl <| L.v (R1.move rfl) rfl <| L.off rfl rfl rfl rfl rfl <| L.off rfl rfl rfl rfl rfl <| L.off rfl rfl rfl rfl rfl <| L.off rfl rfl rfl rfl rfl <| L.v (R1.pickF rfl rfl) rfl <| L.nil ?_
    refine X.seq <| W.condF rfl <| W.skip <| X.blockEnd <| X.seq <| W.region <| L.v (R1.addI (b := 1) rfl rfl (by omega)) rfl <| L.v (R1.move rfl) rfl <| L.nil <| X.next (i + 1) ?_ ?_ ?_
    · exact ⟨rfl, rfl, rfl, rfl, rfl, trivial⟩
    ·
     have hcn : cntB val.length val z14 = false := by unfold cntB hB; rw [hgd19]; rfl
     exact ⟨hL.sub (by intro b hb; first | exact hb | (simp only [mq] at hb ⊢; grind)), hv.sub (by intro b hb; first | exact hb | (simp only [mq] at hb ⊢; grind)), own_congr ho rfl (by rw [levs_no hz14 hcn]), hbd.sub (by intro b hb; first | exact hb | (simp only [mq] at hb ⊢; grind)), hm0, by omega⟩
    · first | omega | (dsimp only; omega)
   ·
    have hcc_ := hgd19
    refine L.on rfl rfl rfl (R1.fieldAt rfl tyF33_0) rfl <| L.on rfl rfl rfl (R1.loadFld rfl hb7 rfl tyP3) rfl <| L.on rfl rfl rfl ((R1.lt rfl rfl).asB (c := decide (z14.st < 4)) (rfl)) rfl <| L.v (R1.pickT rfl rfl) rfl <| L.v (R1.move rfl) rfl ?_
    cases hgd24 : decide (z14.st < 4)
    ·
     have hcc_ := hgd24
     refine L.off rfl rfl rfl rfl rfl <| L.off rfl rfl rfl rfl rfl <| L.off rfl rfl rfl rfl rfl <| L.off rfl rfl rfl rfl rfl <| L.v (R1.pickF rfl rfl) rfl <| L.nil <| X.seq <| W.condF rfl <| W.skip <| X.blockEnd <| X.seq ?_
     refine W.region <| L.v (R1.addI (b := 1) rfl rfl (by omega)) rfl <| L.v (R1.move rfl) rfl <| L.nil <| X.next (i + 1) ?_ ?_ ?_
     · exact ⟨rfl, rfl, rfl, rfl, rfl, trivial⟩
     ·
      have hcn : cntB val.length val z14 = false := by unfold cntB hB; rw [hgd24]; simp
      exact ⟨hL.sub (by intro b hb; first | exact hb | (simp only [mq] at hb ⊢; grind)), hv.sub (by intro b hb; first | exact hb | (simp only [mq] at hb ⊢; grind)), own_congr ho rfl (by rw [levs_no hz14 hcn]), hbd.sub (by intro b hb; first | exact hb | (simp only [mq] at hb ⊢; grind)), hm0, by omega⟩
     · first | omega | (dsimp only; omega)
    ·
     have hcc_ := hgd24
     have h4_ : z14.st < 4 := of_decide_eq_true hgd24
     refine L.on rfl rfl rfl (R1.loadBox rfl hb7 tyG33) rfl <| L.on rfl rfl rfl (R1.move rfl) rfl <| L.callOn rfl rfl rfl rfl (c_Holds ht14 hn14 hd14 hv hbd ((hsm _ (List.mem_of_getElem? hz14)).mono (by decide)) (sm_mono10 hsv)) rfl ?_
     rintro _ w6 ⟨rfl, hm6⟩
     replace hL := hL.gr hm6
     replace hv := hv.gr hm6
     replace ho := own_gr ho hm6 (by simp)
     replace hbd := hbd.gr hm6
     replace hm0 := hm0.trans hm6
     replace ht14 := ht14.gr hm6
     replace hn14 := hn14.gr hm6
     replace hd14 := hd14.gr hm6
     replace hb7 := Blk.gr hb7 hm6
     clear hm6
     refine L.on rfl rfl rfl (R1.not rfl) rfl <| L.v (R1.pickT rfl rfl) rfl <| L.nil <| X.seq <| W.cond rfl ?_ ?_
     ·
      intro hc29
      have hcc_ := hc29
      have hst := isC_st hgd19
      have hlv := levs_le val.length val (cs.take i) z14.st.toNat
      rw [List.length_take] at hlv
      refine W.region <| L.v (R1.move rfl) rfl <| L.v (R1.fieldAt rfl tyF33_0) rfl <| L.v (R1.loadFld rfl hb7 rfl tyP3) rfl <| L.v (R1.atOwn (i := z14.st.toNat) rfl rfl ho tyS42 (by omega) (by omega)) rfl <| L.v (R1.ldLab rfl ho (by omega) tyP3) rfl <| L.v (R1.addI (b := 1) rfl rfl (by omega)) rfl <| L.v (R1.atOwn (i := z14.st.toNat) rfl rfl ho tyS42 (by omega) (by omega)) rfl <| L.storeLab rfl rfl ho (by omega) tyP3 ?_
      intro w7 ho' hm7
      replace hL := hL.mod hm7 (by first | exact mem_own | (intro b hb; simp [hb]))
      replace hv := hv.mod hm7 (by first | exact mem_own | (intro b hb; simp [hb]))
      replace hbd := hbd.gr hm7
      replace hm0 := Mod.oldOwn hm0 hm7 ho
      replace ht14 := ht14.mod hm7 (by first | exact mem_own | (intro b hb; simp [hb]))
      replace hn14 := hn14.mod hm7 (by first | exact mem_own | (intro b hb; simp [hb]))
      replace hd14 := hd14.mod hm7 (by first | exact mem_own | (intro b hb; simp [hb]))
      clear hm7
      replace ho := ho'; clear ho'
      refine L.nil <| X.blockEnd <| X.seq <| W.region <| L.v (R1.addI (b := 1) rfl rfl (by omega)) rfl <| L.v (R1.move rfl) rfl <| L.nil <| X.next (i + 1) ?_ ?_ ?_
      · exact ⟨rfl, rfl, rfl, rfl, rfl, trivial⟩
      ·
       have hcn : cntB val.length val z14 = true := by unfold cntB hB; rw [hgd19, hgd24, hc29]; rfl
       exact ⟨hL.sub (by intro b hb; first | exact hb | (simp only [mq] at hb ⊢; grind)), hv.sub (by intro b hb; first | exact hb | (simp only [mq] at hb ⊢; grind)), own_congr ho rfl (by rw [levs_yes hz14 hcn]), hbd.sub (by intro b hb; first | exact hb | (simp only [mq] at hb ⊢; grind)), hm0, by omega⟩
      · first | omega | (dsimp only; omega)
     ·
      intro hc29
      have hcc_ := hc29
      refine W.skip <| X.blockEnd <| X.seq <| W.region <| L.v (R1.addI (b := 1) rfl rfl (by omega)) rfl <| L.v (R1.move rfl) rfl <| L.nil <| X.next (i + 1) ?_ ?_ ?_
      · exact ⟨rfl, rfl, rfl, rfl, rfl, trivial⟩
      ·
       have hcn : cntB val.length val z14 = false := by unfold cntB hB; rw [hgd19, hgd24, hc29]; rfl
       exact ⟨hL.sub (by intro b hb; first | exact hb | (simp only [mq] at hb ⊢; grind)), hv.sub (by intro b hb; first | exact hb | (simp only [mq] at hb ⊢; grind)), own_congr ho rfl (by rw [levs_no hz14 hcn]), hbd.sub (by intro b hb; first | exact hb | (simp only [mq] at hb ⊢; grind)), hm0, by omega⟩
      · first | omega | (dsimp only; omega)
  ·
   intro hc12
   try simp only [bq, ne_eq] at hc12
   obtain rfl : i = cs.length := by omega
   rw [List.take_length] at ho
   refine W.exit <| X.thenExit <| X.nextExit <| X.here <| X.seq <| W.seq <| W.region <| L.v (R1.move rfl) rfl <| L.v (R1.assign rfl) rfl <| L.nil <| X.seq ?_
   refine W.ret <| X.result1 rfl (.tmp rfl .nil) ?_
   exact ⟨Lay.of_ints ho (fun g hg => hbd0.not (own_ge ho g hg).1), hm0⟩

set_option maxHeartbeats 1000000 in
theorem c_Levels12 {M : List Nat} {w : World} {vl vv : Value} {cs : List CR} {val : List QR} (hL : Lay rdC M w vl cs) (hv : Lay rdQ M w vv val) (hbd : Bd M w) (hsm : ∀ c ∈ cs, SmC 150 c) (hsv : ∀ q ∈ val, SmQ 10 q) (hcl : cs.length ≤ 1000000) (hvl : val.length ≤ 1000000) :
    Ret Try.prog 19 #[vl, vv] w (fun r w' => Lay rdI M w' r ((levs val.length val cs).map fun (x : Nat) => (x : Int)) ∧ Mod [] w w') := by
 have hbd0 := hbd
 obtain ⟨TL, tL, rfl⟩ := hL.form
 obtain ⟨TV, tV, rfl⟩ := hv.form
 refine Ret.of (vs := [.slice TL cs.length tL, .slice TV val.length tV]) (n := 49) Try.func19 rfl rfl rfl rfl ?_
 have hm0 : Mod [] w w := Mod.refl _ _
 refine W.seq <| W.region <| L.v (R1.assign rfl) rfl <| L.nil <| X.seq <| W.seq <| W.region <| L.makeSlice (m := 4) rfl rfl rfl rfl tyS42 tyZ3 (by omega) (by unfold maxLen; omega) rfl ?_
 intro g7 w1 hN7
 have ho := own_made (B := w.heap.size) hN7 hm0.size (by unfold maxLen; omega)
 replace hL := hL.new hN7
 replace hv := hv.new hN7
 replace hbd := hbd.new hN7
 replace hm0 := hm0.trans (hN7.mod.mono (by simp))
 clear hN7
 obtain ⟨v7, hv_v7⟩ : ∃ v, v = Value.slice (some ⟨g7, 0, none⟩) 4 4 := ⟨_, rfl⟩
 have hol_v7 : ownL v7 = [g7] := by rw [hv_v7]; rfl
 rw [← hv_v7] at ho ⊢
 replace hL := hL.sub (of_cons hol_v7)
 replace hv := hv.sub (of_cons hol_v7)
 replace hbd := hbd.sub (of_cons hol_v7)
 clear hv_v7 hol_v7
 refine L.v (R1.assign rfl) rfl <| L.nil <| X.seq <| W.seq <| W.seq <| W.region <| L.v (R1.assign rfl) rfl <| L.nil <| X.seq <| W.block <| W.loop (ι := Nat) (fun i => [(0, .slice TL cs.length tL), (1, .slice TV val.length tV), (5, v7), (6, .int .i64 (i : Int))]) (fun i w_ => Lay rdC (ownL v7 ++ M) w_ (.slice TL cs.length tL) cs ∧ Lay rdQ (ownL v7 ++ M) w_ (.slice TV val.length tV) val ∧ w_.ownsRow w.heap.size 3 1 v7 4 (ints (levs val.length val (cs.take i))) ∧ Bd (ownL v7 ++ M) w_ ∧ Mod [] w w_ ∧ i ≤ cs.length) (fun i => cs.length - i) 0 ?_ ?_ ?_
 · exact ⟨rfl, rfl, rfl, rfl, trivial⟩
 ·
  exact ⟨hL.sub (by intro b hb; first | exact hb | (simp only [mq] at hb ⊢; grind)), hv.sub (by intro b hb; first | exact hb | (simp only [mq] at hb ⊢; grind)), own_congr ho rfl rfl, hbd.sub (by intro b hb; first | exact hb | (simp only [mq] at hb ⊢; grind)), hm0, Nat.zero_le _⟩
 ·
  rintro i w2 ⟨hL, hv, ho, hbd, hm0, hi⟩
  refine W.seq <| W.seq <| W.region <| L.v (R1.move rfl) rfl <| L.v (R1.move rfl) rfl <| L.v (R1.lenLay rfl hL tyS22) rfl <| L.v (R1.lt rfl rfl) rfl <| L.nil <| X.seq <| W.cond rfl ?_ ?_
  ·
   intro hc11
   try simp only [bq, ne_eq] at hc11
   refine W.skip <| X.seq <| W.seq <| W.block <| W.seq <| W.region <| L.v (R1.move rfl) rfl <| L.v (R1.move rfl) rfl <| L.v (R1.atLay (j := i) rfl rfl hL tyS22 rfl (by omega)) rfl ?_
   obtain ⟨z17, cs17, hz17, hE17, vt17, ds17, rfl, ht17, vn17, vd17, rfl, hn17, hd17⟩ := Lay.elemQ hL (j := i) (by omega)
   obtain ⟨T17, t17, rfl⟩ := ht17.form
   obtain ⟨A17, c17, rfl⟩ := hn17.form
   obtain ⟨B17, e17, rfl⟩ := hd17.form
   refine L.v (R1.loadE rfl hE17 tyG33) rfl <| L.v (R1.move rfl) rfl <| L.v (R1.lenLay rfl hv tyS23) rfl <| L.call rfl (c_ref8_Is ht17 hn17 hd17 (n := (val.length : Int)) (by omega) hbd ((hsm _ (List.mem_of_getElem? hz17)).mono (by decide))) rfl ?_
   rintro _ w3 ⟨rfl, hm3⟩
   replace hL := hL.gr hm3
   replace hv := hv.gr hm3
   replace ho := own_gr ho hm3 (by simp)
   replace hbd := hbd.gr hm3
   replace hm0 := hm0.trans hm3
   replace ht17 := ht17.gr hm3
   replace hn17 := hn17.gr hm3
   replace hd17 := hd17.gr hm3
   clear hm3
   refine L.v (R1.move rfl) rfl ?_
   cases hgd21 : (isC z17 (val.length : Int))
   ·
    have hcc_ := hgd21
    refine L.off rfl rfl rfl rfl rfl <| L.off rfl rfl rfl rfl rfl <| L.off rfl rfl rfl rfl rfl <| L.off rfl rfl rfl rfl rfl <| L.off rfl rfl rfl rfl rfl <| L.off rfl rfl rfl rfl rfl <| L.v (R1.pickF rfl rfl) rfl <| L.v (R1.move rfl) rfl <| L.off rfl rfl rfl rfl rfl <| L.off rfl rfl rfl rfl rfl <| L.off rfl rfl rfl rfl rfl ?_
    refine L.off rfl rfl rfl rfl rfl <| L.off rfl rfl rfl rfl rfl <| L.off rfl rfl rfl rfl rfl <| L.off rfl rfl rfl rfl rfl <| L.v (R1.pickF rfl rfl) rfl <| L.nil <| X.seq <| W.condF rfl <| W.skip <| X.blockEnd <| X.seq ?_
    refine W.region <| L.v (R1.move rfl) rfl <| L.v (R1.addI (b := 1) rfl rfl (by omega)) rfl <| L.v (R1.assign rfl) rfl <| L.nil <| X.next (i + 1) ?_ ?_ ?_
    · exact ⟨rfl, rfl, rfl, rfl, trivial⟩
    ·
     have hcn : cntB val.length val z17 = false := by unfold cntB hB; rw [hgd21]; rfl
     exact ⟨hL.sub (by intro b hb; first | exact hb | (simp only [mq] at hb ⊢; grind)), hv.sub (by intro b hb; first | exact hb | (simp only [mq] at hb ⊢; grind)), own_congr ho rfl (by rw [levs_no hz17 hcn]), hbd.sub (by intro b hb; first | exact hb | (simp only [mq] at hb ⊢; grind)), hm0, by omega⟩
    · first | omega | (dsimp only; omega)
   ·
    have hcc_ := hgd21
    refine L.on rfl rfl rfl (R1.move rfl) rfl <| L.on rfl rfl rfl (R1.move rfl) rfl <| L.on rfl rfl rfl (R1.atLay (j := i) rfl rfl hL tyS22 rfl (by omega)) rfl <| L.on rfl rfl rfl (R1.fieldAddr rfl tyF33_0) rfl ?_
    obtain ⟨z26, cs26, hz26, hE26, vt26, ds26, rfl, ht26, vn26, vd26, rfl, hn26, hd26⟩ := Lay.elemQ hL (j := i) (by omega)
    obtain ⟨T26, t26, rfl⟩ := ht26.form
    obtain ⟨A26, c26, rfl⟩ := hn26.form
    obtain ⟨B26, e26, rfl⟩ := hd26.form
    obtain rfl : z17 = z26 := by have h9 := hz26; rw [hz17] at h9; injection h9
    refine L.on rfl rfl rfl (R1.loadEF rfl hE26 rfl tyP3) rfl <| L.on rfl rfl rfl ((R1.lt rfl rfl).asB (c := decide (z17.st < 4)) (rfl)) rfl <| L.v (R1.pickT rfl rfl) rfl <| L.v (R1.move rfl) rfl ?_
    cases hgd29 : decide (z17.st < 4)
    ·
     have hcc_ := hgd29
     refine L.off rfl rfl rfl rfl rfl <| L.off rfl rfl rfl rfl rfl <| L.off rfl rfl rfl rfl rfl <| L.off rfl rfl rfl rfl rfl <| L.off rfl rfl rfl rfl rfl <| L.off rfl rfl rfl rfl rfl <| L.off rfl rfl rfl rfl rfl <| L.v (R1.pickF rfl rfl) rfl <| L.nil <| X.seq <| W.condF rfl ?_
     refine W.skip <| X.blockEnd <| X.seq <| W.region <| L.v (R1.move rfl) rfl <| L.v (R1.addI (b := 1) rfl rfl (by omega)) rfl <| L.v (R1.assign rfl) rfl <| L.nil <| X.next (i + 1) ?_ ?_ ?_
     · exact ⟨rfl, rfl, rfl, rfl, trivial⟩
     ·
      have hcn : cntB val.length val z17 = false := by unfold cntB hB; rw [hgd29]; simp
      exact ⟨hL.sub (by intro b hb; first | exact hb | (simp only [mq] at hb ⊢; grind)), hv.sub (by intro b hb; first | exact hb | (simp only [mq] at hb ⊢; grind)), own_congr ho rfl (by rw [levs_no hz17 hcn]), hbd.sub (by intro b hb; first | exact hb | (simp only [mq] at hb ⊢; grind)), hm0, by omega⟩
     · first | omega | (dsimp only; omega)
    ·
     have hcc_ := hgd29
     have h4_ : z17.st < 4 := of_decide_eq_true hgd29
     refine L.on rfl rfl rfl (R1.move rfl) rfl <| L.on rfl rfl rfl (R1.move rfl) rfl <| L.on rfl rfl rfl (R1.atLay (j := i) rfl rfl hL tyS22 rfl (by omega)) rfl ?_
     obtain ⟨z33, cs33, hz33, hE33, vt33, ds33, rfl, ht33, vn33, vd33, rfl, hn33, hd33⟩ := Lay.elemQ hL (j := i) (by omega)
     obtain ⟨T33, t33, rfl⟩ := ht33.form
     obtain ⟨A33, c33, rfl⟩ := hn33.form
     obtain ⟨B33, e33, rfl⟩ := hd33.form
     obtain rfl : z17 = z33 := by have h9 := hz33; rw [hz17] at h9; injection h9
     refine L.on rfl rfl rfl (R1.loadE rfl hE33 tyG33) rfl <| L.on rfl rfl rfl (R1.move rfl) rfl <| L.callOn rfl rfl rfl rfl (c_Holds10 ht33 hn33 hd33 hv hbd ((hsm _ (List.mem_of_getElem? hz17)).mono (by decide)) (sm_mono10 hsv)) rfl ?_
     rintro _ w4 ⟨rfl, hm4⟩
     replace hL := hL.gr hm4
     replace hv := hv.gr hm4
     replace ho := own_gr ho hm4 (by simp)
     replace hbd := hbd.gr hm4
     replace hm0 := hm0.trans hm4
     replace ht17 := ht17.gr hm4
     replace hn17 := hn17.gr hm4
     replace hd17 := hd17.gr hm4
     replace ht26 := ht26.gr hm4
     replace hn26 := hn26.gr hm4
     replace hd26 := hd26.gr hm4
     replace ht33 := ht33.gr hm4
     replace hn33 := hn33.gr hm4
     replace hd33 := hd33.gr hm4
     clear hm4
     refine L.on rfl rfl rfl (R1.not rfl) rfl <| L.v (R1.pickT rfl rfl) rfl <| L.nil <| X.seq <| W.cond rfl ?_ ?_
     ·
      intro hc37
      have hcc_ := hc37
      have hst := isC_st hgd21
      have hlv := levs_le val.length val (cs.take i) z17.st.toNat
      rw [List.length_take] at hlv
      refine W.region <| L.v (R1.move rfl) rfl <| L.v (R1.move rfl) rfl <| L.v (R1.move rfl) rfl <| L.v (R1.atLay (j := i) rfl rfl hL tyS22 rfl (by omega)) rfl <| L.v (R1.fieldAddr rfl tyF33_0) rfl ?_
      obtain ⟨z43, cs43, hz43, hE43, vt43, ds43, rfl, ht43, vn43, vd43, rfl, hn43, hd43⟩ := Lay.elemQ hL (j := i) (by omega)
      obtain ⟨T43, t43, rfl⟩ := ht43.form
      obtain ⟨A43, c43, rfl⟩ := hn43.form
      obtain ⟨B43, e43, rfl⟩ := hd43.form
      obtain rfl : z17 = z43 := by have h9 := hz43; rw [hz17] at h9; injection h9
      refine L.v (R1.loadEF rfl hE43 rfl tyP3) rfl <| L.v (R1.atOwn (i := z17.st.toNat) rfl rfl ho tyS42 (by omega) (by omega)) rfl <| L.v (R1.ldLab rfl ho (by omega) tyP3) rfl <| L.v (R1.addI (b := 1) rfl rfl (by omega)) rfl <| L.v (R1.atOwn (i := z17.st.toNat) rfl rfl ho tyS42 (by omega) (by omega)) rfl <| L.storeLab rfl rfl ho (by omega) tyP3 ?_
      intro w5 ho' hm5
      replace hL := hL.mod hm5 (by first | exact mem_own | (intro b hb; simp [hb]))
      replace hv := hv.mod hm5 (by first | exact mem_own | (intro b hb; simp [hb]))
      replace hbd := hbd.gr hm5
      replace hm0 := Mod.oldOwn hm0 hm5 ho
      replace ht17 := ht17.mod hm5 (by first | exact mem_own | (intro b hb; simp [hb]))
      replace hn17 := hn17.mod hm5 (by first | exact mem_own | (intro b hb; simp [hb]))
      replace hd17 := hd17.mod hm5 (by first | exact mem_own | (intro b hb; simp [hb]))
      replace ht26 := ht26.mod hm5 (by first | exact mem_own | (intro b hb; simp [hb]))
      replace hn26 := hn26.mod hm5 (by first | exact mem_own | (intro b hb; simp [hb]))
      replace hd26 := hd26.mod hm5 (by first | exact mem_own | (intro b hb; simp [hb]))
      replace ht33 := ht33.mod hm5 (by first | exact mem_own | (intro b hb; simp [hb]))
      replace hn33 := hn33.mod hm5 (by first | exact mem_own | (intro b hb; simp [hb]))
      replace hd33 := hd33.mod hm5 (by first | exact mem_own | (intro b hb; simp [hb]))
      replace ht43 := ht43.mod hm5 (by first | exact mem_own | (intro b hb; simp [hb]))
      replace hn43 := hn43.mod hm5 (by first | exact mem_own | (intro b hb; simp [hb]))
      replace hd43 := hd43.mod hm5 (by first | exact mem_own | (intro b hb; simp [hb]))
      clear hm5
      replace ho := ho'; clear ho'
      refine L.nil <| X.blockEnd <| X.seq <| W.region <| L.v (R1.move rfl) rfl <| L.v (R1.addI (b := 1) rfl rfl (by omega)) rfl <| L.v (R1.assign rfl) rfl <| L.nil <| X.next (i + 1) ?_ ?_ ?_
      · exact ⟨rfl, rfl, rfl, rfl, trivial⟩
      ·
       have hcn : cntB val.length val z17 = true := by unfold cntB hB; rw [hgd21, hgd29, hc37]; rfl
       exact ⟨hL.sub (by intro b hb; first | exact hb | (simp only [mq] at hb ⊢; grind)), hv.sub (by intro b hb; first | exact hb | (simp only [mq] at hb ⊢; grind)), own_congr ho rfl (by rw [levs_yes hz17 hcn]), hbd.sub (by intro b hb; first | exact hb | (simp only [mq] at hb ⊢; grind)), hm0, by omega⟩
      · first | omega | (dsimp only; omega)
     ·
      intro hc37
      have hcc_ := hc37
      refine W.skip <| X.blockEnd <| X.seq <| W.region <| L.v (R1.move rfl) rfl <| L.v (R1.addI (b := 1) rfl rfl (by omega)) rfl <| L.v (R1.assign rfl) rfl <| L.nil <| X.next (i + 1) ?_ ?_ ?_
      · exact ⟨rfl, rfl, rfl, rfl, trivial⟩
      ·
       have hcn : cntB val.length val z17 = false := by unfold cntB hB; rw [hgd21, hgd29, hc37]; rfl
       exact ⟨hL.sub (by intro b hb; first | exact hb | (simp only [mq] at hb ⊢; grind)), hv.sub (by intro b hb; first | exact hb | (simp only [mq] at hb ⊢; grind)), own_congr ho rfl (by rw [levs_no hz17 hcn]), hbd.sub (by intro b hb; first | exact hb | (simp only [mq] at hb ⊢; grind)), hm0, by omega⟩
      · first | omega | (dsimp only; omega)
  ·
   intro hc11
   try simp only [bq, ne_eq] at hc11
   obtain rfl : i = cs.length := by omega
   rw [List.take_length] at ho
   refine W.exit <| X.thenExit <| X.nextExit <| X.here <| X.seq <| W.seq <| W.region <| L.v (R1.move rfl) rfl <| L.v (R1.assign rfl) rfl <| L.nil <| X.seq ?_
   refine W.ret <| X.result1 rfl (.tmp rfl .nil) ?_
   exact ⟨Lay.of_ints ho (fun g hg => hbd0.not (own_ge ho g hg).1), hm0⟩

theorem c_holdsF {M : List Nat} {w : World} {c : CR} {vt vn vd : Value} (ht : Lay rdT M w vt c.ts) (h : U32 M w vn c.k.n) (k : U32 M w vd c.k.d) {N8 : List Nat} {gn gv : Nat} {vv : Value} {val : List QR} (hbn : Blk w gn 3 #[.int .i64 (val.length : Int)]) (hbv : Blk w gv 23 #[vv]) (hv : Lay rdQ N8 w vv val) (hbd : Bd M w) (hsm : SmC 150 c) (hsv : ∀ q ∈ val, SmQ 10 q) (hvl : val.length ≤ 1000000) :
    Ret Try.prog 22 #[.agg #[.int .i64 c.st, vt, .bool c.k.s, vn, vd], .pointer (some ⟨gn, 0, none⟩), .pointer (some ⟨gv, 0, none⟩)] w (fun r w' => r = .bool (okB val.length val c) ∧ Mod [] w w') := by
 obtain ⟨T9, t9, rfl⟩ := ht.form
 obtain ⟨A9, c9, rfl⟩ := h.form
 obtain ⟨B9, e9, rfl⟩ := k.form
 refine Ret.of (vs := [.agg #[.int .i64 c.st, .slice T9 c.ts.length t9, .bool c.k.s, .slice A9 c.k.n.length c9, .slice B9 c.k.d.length e9], .pointer (some ⟨gn, 0, none⟩), .pointer (some ⟨gv, 0, none⟩)]) (n := 14) Try.func22 rfl rfl rfl rfl ?_
 have hm0 : Mod [] w w := Mod.refl _ _
 refine W.seq <| W.region <| L.box rfl rfl ?_
 intro g3 w1 hN3
 replace ht := ht.new hN3
 replace h := h.new hN3
 replace k := k.new hN3
 replace hv := hv.new hN3
 replace hbn := Blk.gr hbn hN3.mod
 replace hbv := Blk.gr hbv hN3.mod
 replace hbd := hbd.new hN3
 replace hm0 := hm0.trans (hN3.mod.mono (by simp))
 have hb3 := hN3.blk
 clear hN3
 refine L.v (R1.assign rfl) rfl <| L.nil <| X.seq <| W.seq <| W.region <| L.v (R1.loadBox rfl hb3 tyG33) rfl <| L.v (R1.loadFld rfl hbn rfl tyP3) rfl <| L.call rfl (c_aff_Is ht h k (n := (val.length : Int)) (by omega) hbd (hsm.mono (by decide))) rfl ?_
 rintro _ w2 ⟨rfl, hm2⟩
 replace ht := ht.gr hm2
 replace h := h.gr hm2
 replace k := k.gr hm2
 replace hv := hv.gr hm2
 replace hbv := Blk.gr hbv hm2
 replace hbd := hbd.gr hm2
 replace hm0 := hm0.trans hm2
 replace hb3 := Blk.gr hb3 hm2
 clear hm2
 refine L.v (R1.not rfl) rfl <| L.v (R1.move rfl) rfl ?_
 cases hgd9 : (!(isC c (val.length : Int)))
 ·
  try simp only [bq, ne_eq] at hgd9
  refine L.on rfl rfl rfl (R1.loadBox rfl hb3 tyG33) rfl <| L.on rfl rfl rfl (R1.loadFld rfl hbv rfl tyP23) rfl <| L.callOn rfl rfl rfl rfl (c_Holds ht h k hv hbd (hsm.mono (by decide)) (sm_mono10 hsv)) rfl ?_
  rintro _ w3 ⟨rfl, hm3⟩
  replace hm0 := hm0.trans hm3
  clear hm3
  refine L.v (R1.pickF rfl rfl) rfl <| L.v (R1.assign rfl) rfl <| L.nil <| X.seq <| W.ret <| X.result1 rfl (.tmp rfl .nil) ?_
  exact ⟨by unfold okB hB; rw [hgd9]; rfl, hm0⟩
 ·
  try simp only [bq, ne_eq] at hgd9
  refine L.off rfl rfl rfl rfl rfl <| L.off rfl rfl rfl rfl rfl <| L.off rfl rfl rfl rfl rfl <| L.v (R1.pickT rfl rfl) rfl <| L.v (R1.assign rfl) rfl <| L.nil <| X.seq <| W.ret <| X.result1 rfl (.tmp rfl .nil) ?_
  exact ⟨by unfold okB hB; rw [hgd9]; rfl, hm0⟩

set_option maxHeartbeats 2000000 in
theorem c_Beaten {M : List Nat} {w : World} {vl vb vv : Value} {cs : List CR} {bs val : List QR} {t : Nat} (hL : Lay rdC M w vl cs) (hvb : Lay rdQ M w vb bs) (hv : Lay rdQ M w vv val) (hbd : Bd M w) (hsm : ∀ c ∈ cs, SmC 150 c) (hsb : ∀ q ∈ bs, SmQ 3 q) (hsv : ∀ q ∈ val, SmQ 10 q) (hcl : cs.length ≤ 1000) (hn64 : val.length ≤ 64) (oks : OkS (val.length : Int) t (cs ++ staysL bs val.length)) :
    Ret Try.prog 10 #[vl, vb, vv] w (fun r w' => ∃ z, r = .int .i64 z ∧ BeatR val.length val (cs ++ staysL bs val.length) z ∧ Mod [] w w') := by
 have hbd0 := hbd
 obtain ⟨TL, tL, rfl⟩ := hL.form
 obtain ⟨TB, tB, rfl⟩ := hvb.form
 obtain ⟨TV, tV, rfl⟩ := hv.form
 have hsa := all_sm (n := val.length) hvb hsb hsm
 have hN : heldG (val.length : Int) = val.length := heldG_eq hn64
 refine Ret.of (vs := [.slice TL cs.length tL, .slice TB bs.length tB, .slice TV val.length tV]) (n := 64) Try.func10 rfl rfl rfl rfl ?_
 have hm0 : Mod [] w w := Mod.refl _ _
 refine W.seq <| W.region <| L.box rfl rfl ?_
 intro g5 w1 hN5
 replace hL := hL.new hN5
 replace hvb := hvb.new hN5
 replace hv := hv.new hN5
 replace hbd := hbd.new hN5
 replace hm0 := hm0.trans (hN5.mod.mono (by simp))
 have hb5 := hN5.blk
 clear hN5
 refine L.v (R1.assign rfl) rfl <| L.nil <| X.seq <| W.seq <| W.region <| L.v (R1.loadFld rfl hb5 rfl tyP23) rfl <| L.v (R1.lenLay rfl hv tyS23) rfl <| L.alloc tyZ3 rfl ?_
 intro g7 w2 hN7
 replace hL := hL.new hN7
 replace hvb := hvb.new hN7
 replace hv := hv.new hN7
 replace hbd := hbd.new hN7
 have hge_g7 := New.ge hN7 hm0.size
 replace hm0 := hm0.trans (hN7.mod.mono (by simp))
 have hne_g5_g7 := hb5.ne_ hN7
 replace hb5 := Blk.gr hb5 hN7.mod
 have hb7 := hN7.blk
 clear hN7
 refine L.store rfl rfl hb7 (by decide) rfl tyP3 ?_
 intro w3 hb7' hm3
 replace hL := hL.mod hm3 (by simp)
 replace hvb := hvb.mod hm3 (by simp)
 replace hv := hv.mod hm3 (by simp)
 replace hbd := hbd.gr hm3
 replace hm0 := hm0.old1 hm3 hge_g7
 replace hb5 := Blk.far hb5 hm3 (by first | exact hne_g5_g7 | exact (hne_g7_g5).symm)
 clear hm3
 replace hb7 := hb7'; clear hb7'
 refine L.nil <| X.seq <| W.seq <| W.seq <| W.region <| L.v (R1.loadFld rfl hb7 rfl tyP3) rfl <| L.v (R1.gt rfl rfl) rfl <| L.nil <| X.seq <| W.cond rfl ?_ ?_
 ·
  intro hc18
  try simp only [bq, ne_eq] at hc18
  omega
 ·
  intro hc18
  try simp only [bq, ne_eq] at hc18
  refine W.skip <| X.seq <| W.seq <| W.region <| L.v (R1.move rfl) rfl <| L.v (R1.move rfl) rfl <| L.v (R1.loadFld rfl hb7 rfl tyP3) rfl <| L.call rfl (c_stays (n := val.length) hvb hbd hsb hn64) rfl ?_
  rintro v22 w4 ⟨hS, hm4⟩
  replace hL := hL.gr hm4
  replace hv := hv.gr hm4
  replace hbd := hbd.gr hm4
  replace hm0 := hm0.trans hm4
  replace hb5 := Blk.gr hb5 hm4
  replace hb7 := Blk.gr hb7 hm4
  clear hm4
  obtain ⟨T22, t22, hf22⟩ := hS.form
  rw [hf22] at hS ⊢
  refine L.buildSlice (cells := [.slice TL cs.length tL, .slice T22 (staysL bs val.length).length t22]) rfl tyS67 tyZ22 (fillS2 _ _ _ _ _ _) (by decide) (by decide) rfl ?_
  intro g23 w5 hN23
  replace hL := hL.new hN23
  replace hv := hv.new hN23
  replace hbd := hbd.new hN23
  have hge_g23 := New.ge hN23 hm0.size
  replace hm0 := hm0.trans (hN23.mod.mono (by simp))
  have hne_g5_g23 := hb5.ne_ hN23
  replace hb5 := Blk.gr hb5 hN23.mod
  have hne_g7_g23 := hb7.ne_ hN23
  replace hb7 := Blk.gr hb7 hN23.mod
  replace hS := hS.new hN23
  have hb23 := hN23.blk
  clear hN23
  have hLL : Lay (rdR rdC) (g7 :: g5 :: M) w5 (.slice (some ⟨g23, 0, none⟩) 2 2) [cs, staysL bs val.length] := Lay.of_blk (css := [[.slice TL cs.length tL], [.slice T22 (staysL bs val.length).length t22]]) hb23 ((LayL.one (R := rdR rdC) _ cs ⟨_, rfl, hL.sub (by intro b hb; first | exact hb | (simp only [mq] at hb ⊢; grind))⟩).append (LayL.one (R := rdR rdC) _ (staysL bs val.length) ⟨_, rfl, hS.sub (by intro b hb; first | exact hb | (simp only [mq] at hb ⊢; grind))⟩)) rfl rfl (by decide) (by simp [Ne.symm hne_g5_g23, Ne.symm hne_g7_g23, hbd0.not hge_g23])
  refine L.call rfl (c_Concat (M := g7 :: g5 :: M) hLL (hbd.sub (by intro b hb; first | exact hb | (simp only [mq] at hb ⊢; grind))) (by have h9 := stays_len bs val.length; simp; omega)) rfl ?_
  rintro v24 w6 ⟨hA, hm6⟩
  replace hv := hv.gr hm6
  replace hbd := hbd.gr hm6
  replace hm0 := hm0.trans hm6
  replace hb5 := Blk.gr hb5 hm6
  replace hb7 := Blk.gr hb7 hm6
  clear hm6
  rw [show [cs, staysL bs val.length].flatten = cs ++ staysL bs val.length by simp] at hA
  obtain ⟨al, hal⟩ : ∃ al, al = cs ++ staysL bs val.length := ⟨_, rfl⟩
  rw [← hal] at hA hsa oks ⊢
  have hall : al.length ≤ 2000 := by rw [hal, List.length_append, stays_len]; omega
  obtain ⟨TA, tA, hfA⟩ := hA.form
  rw [hfA] at hA ⊢
  refine L.v (R1.assign rfl) rfl <| L.nil <| X.seq <| W.seq <| W.region <| L.v (R1.makeFunc rfl rfl) rfl <| L.v (R1.assign rfl) rfl <| L.nil <| X.seq <| W.seq <| W.seq ?_
  refine W.region <| L.v (R1.move rfl) rfl <| L.v (R1.lenLay rfl hA tyS22) rfl <| L.v (R1.move rfl) rfl <| L.nil <| X.seq <| W.block <| W.loop (ι := Nat) (fun i => [(5, .pointer (some ⟨g5, 0, none⟩)), (7, .pointer (some ⟨g7, 0, none⟩)), (8, .slice TA al.length tA), (9, .func (.func 22) #[] #[.pointer (some ⟨g7, 0, none⟩), .pointer (some ⟨g5, 0, none⟩)]), (26, .slice TA al.length tA), (27, .int .i64 (al.length : Int)), (28, .int .i64 (i : Int))]) (fun i w_ => Lay rdC (g7 :: g5 :: M) w_ (.slice TA al.length tA) al ∧ Lay rdQ (g7 :: g5 :: M) w_ (.slice TV val.length tV) val ∧ Blk w_ g5 23 #[.slice TV val.length tV] ∧ Blk w_ g7 3 #[.int .i64 (val.length : Int)] ∧ g5 ≠ g7 ∧ Bd (g7 :: g5 :: M) w_ ∧ Mod [] w w_ ∧ i ≤ al.length ∧ (∀ j d, j < i → al[j]? = some d → ¬ Bt val.length val al d)) (fun i => al.length - i) 0 ?_ ?_ ?_
  · exact ⟨rfl, rfl, rfl, rfl, rfl, rfl, rfl, trivial⟩
  ·
   exact ⟨hA.sub (by intro b hb; first | exact hb | (simp only [mq] at hb ⊢; grind)), hv.sub (by intro b hb; first | exact hb | (simp only [mq] at hb ⊢; grind)), hb5, hb7, hne_g5_g7, hbd.sub (by intro b hb; first | exact hb | (simp only [mq] at hb ⊢; grind)), hm0, Nat.zero_le _, (fun j d h => by omega)⟩
  ·
   rintro i w7 ⟨hA, hv, hb5, hb7, hne_g5_g7, hbd, hm0, hi, hno⟩
   refine W.seq <| W.region <| L.v (R1.lt rfl rfl) rfl <| L.nil <| X.seq <| W.seq <| W.cond rfl ?_ ?_
   ·
    intro hc29
    try simp only [bq, ne_eq] at hc29
    refine W.skip <| X.seq <| W.seq <| W.block <| W.seq <| W.region <| L.v (R1.move rfl) rfl <| L.v (R1.atLay (j := i) rfl rfl hA tyS22 rfl (by omega)) rfl ?_
    obtain ⟨z32, cs32, hz32, hE32, vt32, ds32, rfl, ht32, vn32, vd32, rfl, hn32, hd32⟩ := Lay.elemQ hA (j := i) (by omega)
    obtain ⟨T32, t32, rfl⟩ := ht32.form
    obtain ⟨A32, c32, rfl⟩ := hn32.form
    obtain ⟨B32, e32, rfl⟩ := hd32.form
    refine L.v (R1.loadE rfl hE32 tyG33) rfl <| L.alloc tyZ33 rfl ?_
    intro g11 w8 hN11
    replace hA := hA.new hN11
    replace hv := hv.new hN11
    have hne_g5_g11 := hb5.ne_ hN11
    replace hb5 := Blk.gr hb5 hN11.mod
    have hne_g7_g11 := hb7.ne_ hN11
    replace hb7 := Blk.gr hb7 hN11.mod
    replace hbd := hbd.new hN11
    have hge_g11 := New.ge hN11 hm0.size
    replace hm0 := hm0.trans (hN11.mod.mono (by simp))
    replace ht32 := ht32.new hN11
    replace hn32 := hn32.new hN11
    replace hd32 := hd32.new hN11
    have hb11 := hN11.blk
    clear hN11
    refine L.v (R1.assign rfl) rfl <| L.storeBox rfl rfl hb11 rfl rfl tyG33 ?_
    intro w9 hb11' hm9
    replace hA := hA.mod hm9 (by simp)
    replace hv := hv.mod hm9 (by simp)
    replace hb5 := Blk.far hb5 hm9 (by first | exact hne_g5_g11 | exact (hne_g11_g5).symm)
    replace hb7 := Blk.far hb7 hm9 (by first | exact hne_g7_g11 | exact (hne_g11_g7).symm)
    replace hbd := hbd.gr hm9
    replace hm0 := hm0.old1 hm9 hge_g11
    replace ht32 := ht32.mod hm9 (by simp)
    replace hn32 := hn32.mod hm9 (by simp)
    replace hd32 := hd32.mod hm9 (by simp)
    clear hm9
    replace hb11 := hb11'; clear hb11'
    refine L.nil <| X.seq <| W.seq <| W.seq <| W.region <| L.v (R1.move rfl) rfl <| L.v (R1.loadBox rfl hb11 tyG33) rfl <| L.callV rfl rfl (c_holdsF ht32 hn32 hd32 hb7 hb5 hv hbd (hsa _ (List.mem_of_getElem? hz32)) hsv (by omega)) rfl ?_
    rintro _ w10 ⟨rfl, hm10⟩
    replace hA := hA.gr hm10
    replace hv := hv.gr hm10
    replace hb5 := Blk.gr hb5 hm10
    replace hb7 := Blk.gr hb7 hm10
    replace hbd := hbd.gr hm10
    replace hm0 := hm0.trans hm10
    replace ht32 := ht32.gr hm10
    replace hn32 := hn32.gr hm10
    replace hd32 := hd32.gr hm10
    replace hb11 := Blk.gr hb11 hm10
    clear hm10
    refine L.nil <| X.seq <| W.cond rfl ?_ ?_
    ·
     intro hc35
     have hcc_ := hc35
     refine W.exit <| X.thenExit <| X.here <| X.seq <| W.region <| L.v (R1.addI (b := 1) rfl rfl (by omega)) rfl <| L.v (R1.move rfl) rfl <| L.nil <| X.next (i + 1) ?_ ?_ ?_
     · exact ⟨rfl, rfl, rfl, rfl, rfl, rfl, rfl, trivial⟩
     ·
      exact ⟨hA.sub (by intro b hb; first | exact hb | (simp only [mq] at hb ⊢; grind)), hv.sub (by intro b hb; first | exact hb | (simp only [mq] at hb ⊢; grind)), hb5, hb7, hne_g5_g7, hbd.sub (by intro b hb; first | exact hb | (simp only [mq] at hb ⊢; grind)), hm0, by omega, (no_step hno hz32 (fun h9 => by have h8 := h9.1; rw [hc35] at h8; cases h8))⟩
     · first | omega | (dsimp only; omega)
    ·
     intro hc35
     have hcc_ := hc35
     refine W.skip <| X.seq <| W.seq <| W.region <| L.v (R1.loadBox rfl hb11 tyG33) rfl <| L.buildSlice (cells := [.int .i64 z32.st, .slice T32 z32.ts.length t32, .bool z32.k.s, .slice A32 z32.k.n.length c32, .slice B32 z32.k.d.length e32]) rfl tyS22 tyZ33 (fillK1 _ _ _ _ _ _ _ _ _ _ _) (by decide) (by decide) rfl ?_
     intro g37 w11 hN37
     have ho : World.ownsRow w11 w.heap.size 33 5 (.slice (some ⟨g37, 0, none⟩) 1 1) 1 [.int .i64 z32.st, .slice T32 z32.ts.length t32, .bool z32.k.s, .slice A32 z32.k.n.length c32, .slice B32 z32.k.d.length e32] := own_lit hN37.blk (New.ge hN37 hm0.size) rfl
     replace hA := hA.new hN37
     replace hv := hv.new hN37
     have hno_ho_g5 : (Value.slice (some ⟨g37, 0, none⟩) 1 1).ownBlock ≠ some g5 := own_ne_new' (hb5.ne_ hN37)
     replace hb5 := Blk.gr hb5 hN37.mod
     have hno_ho_g7 : (Value.slice (some ⟨g37, 0, none⟩) 1 1).ownBlock ≠ some g7 := own_ne_new' (hb7.ne_ hN37)
     replace hb7 := Blk.gr hb7 hN37.mod
     replace hbd := hbd.new hN37
     replace hm0 := hm0.trans (hN37.mod.mono (by simp))
     replace ht32 := ht32.new hN37
     replace hn32 := hn32.new hN37
     replace hd32 := hd32.new hN37
     have hno_ho_g11 : (Value.slice (some ⟨g37, 0, none⟩) 1 1).ownBlock ≠ some g11 := own_ne_new' (hb11.ne_ hN37)
     replace hb11 := Blk.gr hb11 hN37.mod
     clear hN37
     obtain ⟨v37, hv_v37⟩ : ∃ v, v = Value.slice (some ⟨g37, 0, none⟩) 1 1 := ⟨_, rfl⟩
     have hol_v37 : ownL v37 = [g37] := by rw [hv_v37]; rfl
     rw [← hv_v37] at ho ⊢
     replace hA := hA.sub (of_cons hol_v37)
     replace hv := hv.sub (of_cons hol_v37)
     rw [← hv_v37] at hno_ho_g5
     rw [← hv_v37] at hno_ho_g7
     replace hbd := hbd.sub (of_cons hol_v37)
     replace ht32 := ht32.sub (of_cons hol_v37)
     replace hn32 := hn32.sub (of_cons hol_v37)
     replace hd32 := hd32.sub (of_cons hol_v37)
     rw [← hv_v37] at hno_ho_g11
     clear hv_v37 hol_v37
     refine L.v (R1.assign rfl) rfl <| L.nil <| X.seq <| W.seq <| W.seq <| W.region <| L.v (R1.move rfl) rfl <| L.v (R1.lenLay rfl hA tyS22) rfl <| L.v (R1.move rfl) rfl <| L.nil <| X.seq ?_
     refine W.block <| W.loop (ι := Nat × Value × List (List Value)) (fun (k, u, css) => [(5, .pointer (some ⟨g5, 0, none⟩)), (7, .pointer (some ⟨g7, 0, none⟩)), (8, .slice TA al.length tA), (9, .func (.func 22) #[] #[.pointer (some ⟨g7, 0, none⟩), .pointer (some ⟨g5, 0, none⟩)]), (10, .int .i64 (i : Int)), (11, .pointer (some ⟨g11, 0, none⟩)), (12, u), (26, .slice TA al.length tA), (27, .int .i64 (al.length : Int)), (28, .int .i64 (i : Int)), (38, .slice TA al.length tA), (39, .int .i64 (al.length : Int)), (40, .int .i64 (k : Int))]) (fun (k, u, css) w_ => Lay rdC (ownL u ++ g11 :: g7 :: g5 :: M) w_ (.slice TA al.length tA) al ∧ Lay rdQ (ownL u ++ g11 :: g7 :: g5 :: M) w_ (.slice TV val.length tV) val ∧ Blk w_ g5 23 #[.slice TV val.length tV] ∧ Blk w_ g7 3 #[.int .i64 (val.length : Int)] ∧ g5 ≠ g7 ∧ Bd (ownL u ++ g11 :: g7 :: g5 :: M) w_ ∧ Mod [] w w_ ∧ Blk w_ g11 33 #[.int .i64 z32.st, .slice T32 z32.ts.length t32, .bool z32.k.s, .slice A32 z32.k.n.length c32, .slice B32 z32.k.d.length e32] ∧ w_.ownsRow w.heap.size 33 5 u (bsd val.length val z32 (al.take k)).length css.flatten ∧ LayL rdC (ownL u ++ g11 :: g7 :: g5 :: M) w_ css (bsd val.length val z32 (al.take k)) ∧ u.ownBlock ≠ some g5 ∧ u.ownBlock ≠ some g7 ∧ u.ownBlock ≠ some g11 ∧ k ≤ al.length) (fun (k, u, css) => al.length - k) (0, v37, [[.int .i64 z32.st, .slice T32 z32.ts.length t32, .bool z32.k.s, .slice A32 z32.k.n.length c32, .slice B32 z32.k.d.length e32]]) ?_ ?_ ?_
     · exact ⟨rfl, rfl, rfl, rfl, rfl, rfl, rfl, rfl, rfl, rfl, rfl, rfl, rfl, trivial⟩
     ·
      exact ⟨hA.sub (by intro b hb; first | exact hb | (simp only [mq] at hb ⊢; grind)), hv.sub (by intro b hb; first | exact hb | (simp only [mq] at hb ⊢; grind)), hb5, hb7, hne_g5_g7, hbd.sub (by intro b hb; first | exact hb | (simp only [mq] at hb ⊢; grind)), hm0, hb11, own_congr ho rfl (by simp), LayL.one _ z32 (rdC_mk (ht32.sub (by intro b hb; first | exact hb | (simp only [mq] at hb ⊢; grind))) (hn32.sub (by intro b hb; first | exact hb | (simp only [mq] at hb ⊢; grind))) (hd32.sub (by intro b hb; first | exact hb | (simp only [mq] at hb ⊢; grind)))), hno_ho_g5, hno_ho_g7, hno_ho_g11, Nat.zero_le _⟩
     ·
      rintro ⟨k, u, css⟩ w12 ⟨hA, hv, hb5, hb7, hne_g5_g7, hbd, hm0, hb11, ho, hl, hno_ho_g5, hno_ho_g7, hno_ho_g11, hk⟩
      refine W.seq <| W.region <| L.v (R1.lt rfl rfl) rfl <| L.nil <| X.seq <| W.seq <| W.cond rfl ?_ ?_
      ·
       intro hc41
       try simp only [bq, ne_eq] at hc41
       refine W.skip <| X.seq <| W.seq <| W.block <| W.seq <| W.region <| L.v (R1.atLay (j := k) rfl rfl hA tyS22 rfl (by omega)) rfl ?_
       obtain ⟨z43, cs43, hz43, hE43, vt43, ds43, rfl, ht43, vn43, vd43, rfl, hn43, hd43⟩ := Lay.elemQ hA (j := k) (by omega)
       obtain ⟨T43, t43, rfl⟩ := ht43.form
       obtain ⟨A43, c43, rfl⟩ := hn43.form
       obtain ⟨B43, e43, rfl⟩ := hd43.form
       refine L.v (R1.loadE rfl hE43 tyG33) rfl <| L.alloc tyZ33 rfl ?_
       intro g14 w13 hN14
       replace hA := hA.new hN14
       replace hv := hv.new hN14
       have hne_g5_g14 := hb5.ne_ hN14
       replace hb5 := Blk.gr hb5 hN14.mod
       have hne_g7_g14 := hb7.ne_ hN14
       replace hb7 := Blk.gr hb7 hN14.mod
       replace hbd := hbd.new hN14
       have hge_g14 := New.ge hN14 hm0.size
       replace hm0 := hm0.trans (hN14.mod.mono (by simp))
       have hne_g11_g14 := hb11.ne_ hN14
       replace hb11 := Blk.gr hb11 hN14.mod
       have hno_ho_g14 := own_ne_new ho hN14
       replace ho := own_gr ho hN14.mod (by simp)
       replace hl := hl.new hN14
       replace ht43 := ht43.new hN14
       replace hn43 := hn43.new hN14
       replace hd43 := hd43.new hN14
       have hb14 := hN14.blk
       clear hN14
       refine L.storeBox rfl rfl hb14 rfl rfl tyG33 ?_
       intro w14 hb14' hm14
       replace hA := hA.mod hm14 (by simp)
       replace hv := hv.mod hm14 (by simp)
       replace hb5 := Blk.far hb5 hm14 (by first | exact hne_g5_g14 | exact (hne_g14_g5).symm)
       replace hb7 := Blk.far hb7 hm14 (by first | exact hne_g7_g14 | exact (hne_g14_g7).symm)
       replace hbd := hbd.gr hm14
       replace hm0 := hm0.old1 hm14 hge_g14
       replace hb11 := Blk.far hb11 hm14 (by first | exact hne_g11_g14 | exact (hne_g14_g11).symm)
       replace ho := own_far ho hm14 hno_ho_g14
       replace hl := hl.mod hm14 (by simp)
       replace ht43 := ht43.mod hm14 (by simp)
       replace hn43 := hn43.mod hm14 (by simp)
       replace hd43 := hd43.mod hm14 (by simp)
       clear hm14
       replace hb14 := hb14'; clear hb14'
       refine L.nil <| X.seq <| W.seq <| W.region <| L.v (R1.fieldAt rfl tyF33_0) rfl <| L.v (R1.loadFld rfl hb14 rfl tyP3) rfl <| L.v (R1.fieldAt rfl tyF33_0) rfl <| L.v (R1.loadFld rfl hb11 rfl tyP3) rfl <| L.v ((R1.le rfl rfl).asB (c := decide (z43.st ≤ z32.st)) (rfl)) rfl <| L.v (R1.move rfl) rfl ?_
       cases hgd49 : decide (z43.st ≤ z32.st)
       ·
        have hcc_ := hgd49
        refine L.off rfl rfl rfl rfl rfl <| L.off rfl rfl rfl rfl rfl <| L.off rfl rfl rfl rfl rfl <| L.v (R1.pickF rfl rfl) rfl <| L.nil <| X.seq <| W.condF rfl <| W.skip <| X.blockEnd <| X.seq <| W.region ?_
        refine L.v (R1.addI (b := 1) rfl rfl (by omega)) rfl <| L.v (R1.move rfl) rfl <| L.nil <| X.next (k + 1, u, css) ?_ ?_ ?_
        · exact ⟨rfl, rfl, rfl, rfl, rfl, rfl, rfl, rfl, rfl, rfl, rfl, rfl, rfl, trivial⟩
        ·
         have hcn : (decide (z43.st ≤ z32.st) && okB val.length val z43) = false := by rw [hgd49]; rfl
         exact ⟨hA.sub (by intro b hb; first | exact hb | (simp only [mq] at hb ⊢; grind)), hv.sub (by intro b hb; first | exact hb | (simp only [mq] at hb ⊢; grind)), hb5, hb7, hne_g5_g7, hbd.sub (by intro b hb; first | exact hb | (simp only [mq] at hb ⊢; grind)), hm0, hb11, own_congr ho (by rw [bsd_no hz43 hcn]) rfl, by rw [bsd_no hz43 hcn]; exact hl.sub (by intro b hb; first | exact hb | (simp only [mq] at hb ⊢; grind)), hno_ho_g5, hno_ho_g7, hno_ho_g11, by omega⟩
        · first | omega | (dsimp only; omega)
       ·
        have hcc_ := hgd49
        refine L.on rfl rfl rfl (R1.move rfl) rfl <| L.on rfl rfl rfl (R1.loadBox rfl hb14 tyG33) rfl <| L.guardOn rfl rfl rfl <| L.callV rfl rfl (c_holdsF ht43 hn43 hd43 hb7 hb5 hv hbd (hsa _ (List.mem_of_getElem? hz43)) hsv (by omega)) rfl ?_
        rintro _ w15 ⟨rfl, hm15⟩
        replace hA := hA.gr hm15
        replace hv := hv.gr hm15
        replace hb5 := Blk.gr hb5 hm15
        replace hb7 := Blk.gr hb7 hm15
        replace hbd := hbd.gr hm15
        replace hm0 := hm0.trans hm15
        replace hb11 := Blk.gr hb11 hm15
        replace ho := own_gr ho hm15 (by simp)
        replace hl := hl.gr hm15
        replace ht43 := ht43.gr hm15
        replace hn43 := hn43.gr hm15
        replace hd43 := hd43.gr hm15
        replace hb14 := Blk.gr hb14 hm15
        clear hm15
        refine L.v (R1.pickT rfl rfl) rfl <| L.nil <| X.seq <| W.cond rfl ?_ ?_
        ·
         intro hc53
         have hcc_ := hc53
         refine W.region <| L.v (R1.move rfl) rfl <| L.v (R1.loadBox rfl hb14 tyG33) rfl <| L.buildSlice (cells := [.int .i64 z43.st, .slice T43 z43.ts.length t43, .bool z43.k.s, .slice A43 z43.k.n.length c43, .slice B43 z43.k.d.length e43]) rfl tyS22 tyZ33 (fillK1 _ _ _ _ _ _ _ _ _ _ _) (by decide) (by decide) rfl ?_
         intro g56 w16 hN56
         replace hA := hA.gr hN56.mod
         replace hv := hv.gr hN56.mod
         replace hb5 := Blk.gr hb5 hN56.mod
         replace hb7 := Blk.gr hb7 hN56.mod
         replace hbd := hbd.gr hN56.mod
         replace hm0 := hm0.trans hN56.mod
         replace hb11 := Blk.gr hb11 hN56.mod
         replace ho := own_gr ho hN56.mod (by simp)
         replace hl := hl.gr hN56.mod
         replace ht43 := ht43.gr hN56.mod
         replace hn43 := hn43.gr hN56.mod
         replace hd43 := hd43.gr hN56.mod
         have hrow : Sl [] w16 5 (.slice (some ⟨g56, 0, none⟩) 1 1) 1 [.int .i64 z43.st, .slice T43 z43.ts.length t43, .bool z43.k.s, .slice A43 z43.k.n.length c43, .slice B43 z43.k.d.length e43] := Sl.of_blk hN56.blk 0 (Nat.le_refl _) (by decide) rfl (by simp) (fun j hj => by simp)
         clear hN56
         have hbl := bsd_len val.length val z32 (al.take k)
         rw [List.length_take] at hbl
         refine L.append rfl rfl ho hrow (by intro c hc; simp only [List.mem_cons, List.not_mem_nil, or_false] at hc; rcases hc with rfl | rfl | rfl | rfl | rfl <;> rfl) tyS22 tyZ33 (by omega) (by unfold maxLen; omega) hm0.size rfl ?_
         intro v57 w17 ho57' hG57
         replace hA := hA.grew2 hG57 (by first | exact mem_own | (intro b hb; simp [hb]))
         replace hv := hv.grew2 hG57 (by first | exact mem_own | (intro b hb; simp [hb]))
         have hnn_g5 := hG57.ne hno_ho_g5 hb5
         replace hb5 := Blk.grew hb5 hG57 hno_ho_g5
         replace hno_ho_g5 := hnn_g5
         have hnn_g7 := hG57.ne hno_ho_g7 hb7
         replace hb7 := Blk.grew hb7 hG57 hno_ho_g7
         replace hno_ho_g7 := hnn_g7
         replace hbd := hbd.grew2 hG57 (by first | exact mem_own | (intro b hb; simp [hb]))
         replace hm0 := Mod.oldOwn hm0 hG57.mod ho
         have hnn_g11 := hG57.ne hno_ho_g11 hb11
         replace hb11 := Blk.grew hb11 hG57 hno_ho_g11
         replace hno_ho_g11 := hnn_g11
         replace hl := hl.grew2 hG57 (by first | exact mem_own | (intro b hb; simp [hb]))
         replace ht43 := ht43.grew2 hG57 (by first | exact mem_own | (intro b hb; simp [hb]))
         replace hn43 := hn43.grew2 hG57 (by first | exact mem_own | (intro b hb; simp [hb]))
         replace hd43 := hd43.grew2 hG57 (by first | exact mem_own | (intro b hb; simp [hb]))
         replace ho := ho57'; clear ho57'
         clear hG57
         refine L.v (R1.assign rfl) rfl <| L.nil <| X.blockEnd <| X.seq <| W.region <| L.v (R1.addI (b := 1) rfl rfl (by omega)) rfl <| L.v (R1.move rfl) rfl <| L.nil <| X.next (k + 1, v57, css ++ [[.int .i64 z43.st, .slice T43 z43.ts.length t43, .bool z43.k.s, .slice A43 z43.k.n.length c43, .slice B43 z43.k.d.length e43]]) ?_ ?_ ?_
         · exact ⟨rfl, rfl, rfl, rfl, rfl, rfl, rfl, rfl, rfl, rfl, rfl, rfl, rfl, trivial⟩
         ·
          have hcn : (decide (z43.st ≤ z32.st) && okB val.length val z43) = true := by rw [hgd49, hc53]; rfl
          exact ⟨hA.sub (by intro b hb; first | exact hb | (simp only [mq] at hb ⊢; grind)), hv.sub (by intro b hb; first | exact hb | (simp only [mq] at hb ⊢; grind)), hb5, hb7, hne_g5_g7, hbd.sub (by intro b hb; first | exact hb | (simp only [mq] at hb ⊢; grind)), hm0, hb11, own_congr ho (by rw [bsd_yes hz43 hcn]; simp) (by simp), by rw [bsd_yes hz43 hcn]; exact (hl.sub (by intro b hb; first | exact hb | (simp only [mq] at hb ⊢; grind))).append (LayL.one _ z43 (rdC_mk (ht43.sub (by intro b hb; first | exact hb | (simp only [mq] at hb ⊢; grind))) (hn43.sub (by intro b hb; first | exact hb | (simp only [mq] at hb ⊢; grind))) (hd43.sub (by intro b hb; first | exact hb | (simp only [mq] at hb ⊢; grind))))), hno_ho_g5, hno_ho_g7, hno_ho_g11, by omega⟩
         · first | omega | (dsimp only; omega)
        ·
         intro hc53
         have hcc_ := hc53
         refine W.skip <| X.blockEnd <| X.seq <| W.region <| L.v (R1.addI (b := 1) rfl rfl (by omega)) rfl <| L.v (R1.move rfl) rfl <| L.nil <| X.next (k + 1, u, css) ?_ ?_ ?_
         · exact ⟨rfl, rfl, rfl, rfl, rfl, rfl, rfl, rfl, rfl, rfl, rfl, rfl, rfl, trivial⟩
         ·
          have hcn : (decide (z43.st ≤ z32.st) && okB val.length val z43) = false := by rw [hgd49, hc53]; rfl
          exact ⟨hA.sub (by intro b hb; first | exact hb | (simp only [mq] at hb ⊢; grind)), hv.sub (by intro b hb; first | exact hb | (simp only [mq] at hb ⊢; grind)), hb5, hb7, hne_g5_g7, hbd.sub (by intro b hb; first | exact hb | (simp only [mq] at hb ⊢; grind)), hm0, hb11, own_congr ho (by rw [bsd_no hz43 hcn]) rfl, by rw [bsd_no hz43 hcn]; exact hl.sub (by intro b hb; first | exact hb | (simp only [mq] at hb ⊢; grind)), hno_ho_g5, hno_ho_g7, hno_ho_g11, by omega⟩
         · first | omega | (dsimp only; omega)
      ·
       intro hc41
       try simp only [bq, ne_eq] at hc41
       obtain rfl : k = al.length := by omega
       rw [List.take_length] at ho hl
       refine W.exit <| X.thenExit <| X.nextExit <| X.here <| X.seq <| W.seq <| W.region <| L.v (R1.move rfl) rfl <| L.v (R1.loadFld rfl hb7 rfl tyP3) rfl ?_
       have hBs : Lay rdC [] _ u (bsd val.length val z32 al) := Lay.of_own ho (hl.sub (fun b hb => by cases hb)) (by simp)
       refine L.call rfl (c_Consistent (M := []) hBs (fun b hb => by cases hb) (oks.sub (bsd_mem (List.mem_of_getElem? hz32)))) rfl ?_
       rintro _ w18 ⟨rs61, ok61, hP61, rfl, hm18⟩
       replace hA := hA.gr hm18
       replace hv := hv.gr hm18
       replace hb5 := Blk.gr hb5 hm18
       replace hb7 := Blk.gr hb7 hm18
       replace hbd := hbd.gr hm18
       replace hm0 := hm0.trans hm18
       clear hm18
       refine L.nil <| X.seq <| W.cond rfl ?_ ?_
       ·
        intro hc61
        have hcc_ := hc61
        rw [hN] at hP61
        have hbt : Bt val.length val al z32 := ⟨hc35, (P_ok hP61).1 hc61⟩
        refine W.seq <| W.region <| L.v (R1.move rfl) rfl <| L.v (R1.assign rfl) rfl <| L.nil <| X.seq <| W.ret <| X.blockRet <| X.thenRet <| X.nextRet <| X.blockRet ?_
        refine X.thenRet <| X.result1 rfl (.tmp rfl .nil) ?_
        exact ⟨_, rfl, .inr ⟨i, z32, rfl, hz32, hbt, hno⟩, hm0⟩
       ·
        intro hc61
        have hcc_ := hc61
        rw [hN] at hP61
        have hbt : ¬ Bt val.length val al z32 := fun h9 => by have h8 := (P_ok hP61).2 h9.2; rw [hc61] at h8; cases h8
        refine W.skip <| X.blockEnd <| X.seq <| W.region <| L.v (R1.addI (b := 1) rfl rfl (by omega)) rfl <| L.v (R1.move rfl) rfl <| L.nil <| X.next (i + 1) ?_ ?_ ?_
        · exact ⟨rfl, rfl, rfl, rfl, rfl, rfl, rfl, trivial⟩
        ·
         exact ⟨hA.sub (by intro b hb; first | exact hb | (simp only [mq] at hb ⊢; grind)), hv.sub (by intro b hb; first | exact hb | (simp only [mq] at hb ⊢; grind)), hb5, hb7, hne_g5_g7, hbd.sub (by intro b hb; first | exact hb | (simp only [mq] at hb ⊢; grind)), hm0, by omega, (no_step hno hz32 hbt)⟩
        · first | omega | (dsimp only; omega)
   ·
    intro hc29
    try simp only [bq, ne_eq] at hc29
    obtain rfl : i = al.length := by omega
    refine W.exit <| X.thenExit <| X.nextExit <| X.here <| X.seq <| W.seq <| W.region <| L.v (R1.assign rfl) rfl <| L.nil <| X.seq <| W.ret ?_
    refine X.result1 rfl (.tmp rfl .nil) ?_
    exact ⟨_, rfl, .inl ⟨rfl, fun c hc => by obtain ⟨j, hj, rfl⟩ := List.mem_iff_getElem.1 hc; exact hno j _ hj (List.getElem?_eq_getElem hj)⟩, hm0⟩

end Go.Proofs.Ytpnhihljgkohcaa
