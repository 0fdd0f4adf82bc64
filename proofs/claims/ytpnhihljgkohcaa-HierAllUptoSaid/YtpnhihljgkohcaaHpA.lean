/- Walks: what the functions compute. -/
import Derived.Test.YtpnhihljgkohcaaHiB
import Derived.Test.YtpnhihljgkohcaaLhA
namespace Go.Proofs.Ytpnhihljgkohcaa
open Go.RowKit
set_option linter.unusedVariables false
set_option linter.unusedSimpArgs false
set_option maxRecDepth 10000
def valF (val : List QR) (i : Nat) : Rat := valOf val (i : Int)
theorem atG_atT (val : List QR) : ∀ (l : List TR) (k : Rat), (∀ t ∈ l, 0 ≤ t.v) → atG val l k = atT (valF val) (l.map tv) k
  | [], _, _ => rfl
  | t :: l, k, h => by
    have h0 := h t (by simp)
    have e : valF val (tv t).1 = valOf val t.v := by unfold valF tv; dsimp only; rw [Int.toNat_of_nonneg h0]
    simp only [atG, List.map_cons, atT]
    rw [atG_atT val l _ (fun s hs => h s (by simp [hs])), e]; rfl

theorem hB_at {n : Nat} {val : List QR} {c : CR} (h : isC c (n : Int) = true) : hB val c = true ↔ atv n (valF val) (cv n (conT c).1 (conT c).2) = 0 := by
  obtain ⟨_, h2, h4, h5⟩ := isC_spec h
  unfold hB
  rw [decide_eq_true_eq, ← atT_eq h4 h5, atG_atT val c.ts _ (fun t ht => (h2 t ht).1)]; rfl
theorem cons_of {n : Nat} {l : List CR} {val : List QR} (h : ∀ c ∈ l, isC c (n : Int) = true → hB val c = true) : Cons n l := fun k hk => by
  have h1 := Sp.at_ (n := n) (val := valF val) (fun v hv => by
    obtain ⟨c, h2, h3, h4⟩ := vecs_mem.1 hv
    rw [← h4]; exact (hB_at h3).1 (h c h2 h3)) hk
  rwa [atv_kv] at h1
theorem stay_hB {val bs : List QR} {v : Nat} : hB val (stC bs v) = true ↔ valOf val (v : Int) = valOf bs (v : Int) := by
  unfold hB
  rw [decide_eq_true_eq]
  show atG val [⟨(v : Int), QR.nf ((1 : Int) : Rat)⟩] (QR.nf (-(valOf bs (v : Int)))).val = 0 ↔ _
  simp only [atG, QR.nf_val]
  constructor
  · intro h; grind
  · intro h; rw [h]; grind
theorem okB_iff {n : Nat} {val : List QR} {c : CR} : okB n val c = false ↔ isC c (n : Int) = true ∧ hB val c = false := by
  unfold okB; cases isC c (n : Int) <;> simp
theorem mem_al {bs : List QR} {cs : List CR} {n : Nat} {c : CR} (h : c ∈ cs ++ staysL bs n) : c ∈ cs ∨ ∃ v, v < n ∧ c = stC bs v := by
  rcases List.mem_append.1 h with h1 | h1
  · exact .inl h1
  · obtain ⟨v, hv, rfl⟩ := List.mem_map.1 h1
    exact .inr ⟨v, by simpa using hv, rfl⟩
/-- Values that are not beaten are beaten by no others. -/
theorem hier_best {n : Nat} {val other : List QR} {cs : List CR} {bs : List QR} {z s : Int} (hb : BeatR n val (cs ++ staysL bs n) z) (hz : z < 0) (hs : s ≤ 3) (hall : ∀ o ∈ cs, o.st ≤ s → isC o (n : Int) = true → hB val o = true → hB other o = true) {c : CR} (hc : c ∈ cs) (h1 : c.st ≤ s) (h2 : isC c (n : Int) = true) (h3 : hB other c = true) (h4 : hB val c = false) : False := by
  rcases hb with ⟨_, h5⟩ | ⟨i, _, h5, _⟩
  · refine h5 c (by simp [hc]) ⟨okB_iff.2 ⟨h2, h4⟩, cons_of (val := other) (fun o ho hi => ?_)⟩
    rcases List.mem_cons.1 ho with rfl | ho
    · exact h3
    · obtain ⟨h6, h7⟩ := List.mem_filter.1 ho
      simp only [Bool.and_eq_true, decide_eq_true_eq] at h7
      rcases mem_al h6 with h8 | ⟨v, _, rfl⟩
      · refine hall o h8 (by omega) hi ?_
        have h9 := h7.2
        unfold okB at h9; rw [hi] at h9; simpa using h9
      · have : (4 : Int) ≤ c.st := h7.1
        omega
  · omega
/-- What is told to beat. -/
theorem hier_named {n : Nat} {val : List QR} {cs : List CR} {bs : List QR} {z : Int} (hb : BeatR n val (cs ++ staysL bs n) z) (h0 : 0 ≤ z) (h1 : z < (cs.length : Int)) : ∃ c, cs[z.toNat]? = some c ∧ isC c (n : Int) = true ∧ hB val c = false ∧ Cons n (c :: cs.filter (fun o => isC o (n : Int) && (decide (o.st ≤ c.st) && hB val o))) := by
  rcases hb with ⟨h5, _⟩ | ⟨i, c, h5, h6, h7, _⟩
  · omega
  · have h8 : z.toNat = i := by omega
    rw [List.getElem?_append_left (by omega)] at h6
    obtain ⟨h9, h10⟩ := okB_iff.1 h7.1
    refine ⟨c, by rw [h8]; exact h6, h9, h10, fun k hk => h7.2 k (hk.trans (vecs_sub (fun o ho => ?_)))⟩
    rcases List.mem_cons.1 ho with rfl | ho
    · exact List.mem_cons_self
    · obtain ⟨h11, h12⟩ := List.mem_filter.1 ho
      simp only [Bool.and_eq_true, decide_eq_true_eq] at h12
      refine List.mem_cons_of_mem _ (List.mem_filter.2 ⟨by simp [h11], ?_⟩)
      unfold okB
      simp [h12.2.1, h12.2.2]
theorem beat_lt {n : Nat} {val : List QR} {cs : List CR} {bs : List QR} {z : Int} (hb : BeatR n val (cs ++ staysL bs n) z) : -1 ≤ z ∧ z < (cs.length : Int) + (n : Int) := by
  rcases hb with ⟨h5, _⟩ | ⟨i, c, h5, h6, _⟩
  · omega
  · obtain ⟨h7, _⟩ := List.getElem?_eq_some_iff.1 h6
    rw [List.length_append, stays_len] at h7; omega
/-- Nothing beats values at which all hold. -/
theorem beat_all {n : Nat} {val : List QR} {cs : List CR} {bs : List QR} {z : Int} (hb : BeatR n val (cs ++ staysL bs n) z) (h1 : ∀ c ∈ cs, hB val c = true) (h2 : ∀ v, v < n → valOf val (v : Int) = valOf bs (v : Int)) : z = -1 :=
  hb.uniq (.inl ⟨rfl, fun c hc hbt => by
    have h3 := (okB_iff.1 hbt.1).2
    rcases mem_al hc with h4 | ⟨v, hv, rfl⟩
    · rw [h1 c h4] at h3; cases h3
    · rw [stay_hB.2 (h2 v hv)] at h3; cases h3⟩)
theorem beat_one {n k : Nat} {val bs : List QR} {z : Int} (hb : BeatR n val ([] ++ staysL bs n) z) (hk : k < n) (h1 : ∀ v, v < n → v ≠ k → valOf val (v : Int) = valOf bs (v : Int)) (h2 : valOf val (k : Int) ≠ valOf bs (k : Int)) : z = (k : Int) := by
  have e : ∀ v, v < n → ([] ++ staysL bs n)[v]? = some (stC bs v) := fun v hv => by simp [staysL, hv]
  refine hb.uniq (.inr ⟨k, stC bs k, rfl, e k hk, ⟨okB_iff.2 ⟨stay_isC bs hk, ?_⟩, cons_of (val := bs) (fun o ho _ => ?_)⟩, fun j d hj hd hbt => ?_⟩)
  · cases h : hB val (stC bs k) with
    | false => rfl
    | true => exact absurd (stay_hB.1 h) h2
  · have ho2 := bsd_mem (List.mem_of_getElem? (e k hk)) o ho
    rcases mem_al ho2 with h4 | ⟨v, hv, rfl⟩
    · cases h4
    · exact stay_hB.2 rfl
  · rw [e j (by omega)] at hd; injection hd with hd; subst hd
    have h3 := (okB_iff.1 hbt.1).2
    rw [stay_hB.2 (h1 j (by omega) (by omega))] at h3; cases h3
theorem levs_all {n : Nat} {val : List QR} {cs : List CR} (h : ∀ c ∈ cs, hB val c = true) : levs n val cs = [0, 0, 0, 0] := by
  have e : ∀ s, cs.countP (fun c => cntB n val c && decide (c.st.toNat = s)) = 0 := fun s => List.countP_eq_zero.2 (fun c hc => by unfold cntB; rw [h c hc]; simp)
  show [_, _, _, _] = _
  simp only [e]
theorem oks_al {N : List Nat} {w : World} {vb : Value} {bs : List QR} {cs : List CR} {n : Nat} {z0 : Int} (hv : Lay rdQ N w vb bs) (hs : ∀ q ∈ bs, SmQ 3 q) (hc : ∀ c ∈ cs, SmC 150 c) (hz : z0 ≤ 12) : OkS z0 22651 (cs ++ staysL bs n) := oks12 (all_sm hv hs hc) hz
theorem bnd_pow (t : Nat) : ∀ k, bnd t k + (t + 2) = 2 ^ k * (t + 3)
  | 0 => by simp [bnd]; omega
  | k + 1 => by have := bnd_pow t k; rw [Nat.pow_succ, Nat.mul_assoc, Nat.mul_comm 2 (t + 3), ← Nat.mul_assoc, ← this]; simp only [bnd]; omega
theorem bnd_20 {t k : Nat} (h : k ≤ 20) : bnd t k ≤ 1048576 * (t + 3) := by
  have h1 := bnd_mono (t := t) h
  have h2 := bnd_pow t 20
  rw [show 2 ^ 20 = 1048576 from rfl] at h2
  generalize bnd t 20 = B at *
  omega
theorem oks_stay {N : List Nat} {w : World} {vb : Value} {bs : List QR} {n : Nat} {z0 : Int} (hv : Lay rdQ N w vb bs) (hs : ∀ q ∈ bs, SmQ 3 q) (hz : z0 ≤ 20) : OkS z0 9 ([] ++ staysL bs n) := by
  have key : ∀ c ∈ [] ++ staysL bs n, SmC 4 c ∧ c.ts.length ≤ 1 := fun c hc => by
    rcases mem_al hc with h4 | ⟨v, hv9, rfl⟩
    · cases h4
    · exact ⟨stay_sm hv hs v, by show 1 ≤ 1; decide⟩
  refine ⟨fun c hc => (key c hc).1.mono (by decide), fun c hc h => OvC.mono (ovC_of (L := 4) (N := 1) (key c hc).1 (key c hc).2 h) (by decide), ?_, by decide⟩
  have h1 := bnd_20 (t := 9) (heldG_12 (m := 20) hz)
  omega
theorem andI_1023 (v : Int) : ∃ m : Nat, andI .i64 v 1023 = (m : Int) ∧ m ≤ 1023 := by
  have h : (BitVec.ofInt 64 v &&& BitVec.ofInt 64 1023).toNat ≤ 1023 := by
    rw [BitVec.toNat_and]; exact Nat.and_le_right
  refine ⟨(BitVec.ofInt 64 v &&& BitVec.ofInt 64 1023).toNat, ?_, h⟩
  have e : andI .i64 v 1023 = IntKind.i64.wrap (((BitVec.ofInt 64 v &&& BitVec.ofInt 64 1023).toNat : Nat) : Int) := rfl
  rw [e]
  exact wrap_i64 (by omega) (by omega)
theorem Lay.nilC {M : List Nat} {w : World} : Lay rdC M w (.slice none 0 0) [] := ⟨[], Sl.nil 0 rfl, LayL.nil⟩
theorem valOf_set {bs : List QR} {k v : Nat} {q : QR} (hk : k < bs.length) : valOf (bs.set k q) (v : Int) = if v = k then q.val else valOf bs (v : Int) := by
  have h0 : ¬ ((v : Int) < 0) := by omega
  unfold valOf
  simp only [if_neg h0, Int.toNat_natCast]
  rw [List.getElem?_set]
  by_cases h : k = v
  · subst h; simp [hk]
  · rw [if_neg h, if_neg (fun e => h e.symm)]
/-- Up to some strength: all that hold at the one hold at the other; something more does. -/
def InvB (n : Nat) (val other : List QR) (cs : List CR) (s : Int) (i : Nat) (mo : Bool) : Prop := (∀ j c, j < i → cs[j]? = some c → c.st ≤ s → isC c (n : Int) = true → hB val c = true → hB other c = true) ∧ (mo = true → ∃ c ∈ cs, c.st ≤ s ∧ isC c (n : Int) = true ∧ hB other c = true ∧ hB val c = false)
theorem InvB.start (n : Nat) (val other : List QR) (cs : List CR) (s : Int) : InvB n val other cs s 0 false := ⟨fun j c h => by omega, fun h => by cases h⟩
theorem InvB.step {n : Nat} {val other : List QR} {cs : List CR} {s : Int} {i : Nat} {mo mo' : Bool} {z : CR} (h : InvB n val other cs s i mo) (hz : cs[i]? = some z) (h1 : z.st ≤ s → isC z (n : Int) = true → hB val z = true → hB other z = true) (h2 : mo' = true → mo = true ∨ (z.st ≤ s ∧ isC z (n : Int) = true ∧ hB other z = true ∧ hB val z = false)) : InvB n val other cs s (i + 1) mo' := by
  refine ⟨fun j c hj hc => ?_, fun hm => ?_⟩
  · rcases Nat.lt_or_ge j i with h3 | h3
    · exact h.1 j c h3 hc
    · have : j = i := by omega
      subst this
      rw [hz] at hc; injection hc with hc; subst hc; exact h1
  · rcases h2 hm with h3 | h3
    · exact h.2 h3
    · exact ⟨z, List.mem_of_getElem? hz, h3⟩
theorem InvB.no {n : Nat} {val other : List QR} {cs : List CR} {s z : Int} {bs : List QR} {mo : Bool} (h : InvB n val other cs s cs.length mo) (hb : BeatR n val (cs ++ staysL bs n) z) (hz : z < 0) (hs : s ≤ 3) : mo = false := by
  cases mo with
  | false => rfl
  | true =>
    obtain ⟨c, h1, h2, h3, h4, h5⟩ := h.2 rfl
    exact (hier_best hb hz hs (fun o ho => by
      obtain ⟨j, hj, rfl⟩ := List.mem_iff_getElem.1 ho
      exact h.1 j _ hj (List.getElem?_eq_getElem hj)) h1 h2 h3 h4 h5).elim
/-- The known one. -/
def knC : CR := ⟨3, [⟨0, QR.nf ((1 : Int) : Rat)⟩], QR.nf ((-5 : Int) : Rat)⟩
theorem knC_is : isC knC ((1 : Nat) : Int) = true := by
  show (decide ((0 : Int) ≤ 3) && (decide ((3 : Int) ≤ 4) && ((QR.nf ((-5 : Int) : Rat)).is && (decide ((0 : Int) ≤ 0) && (decide ((0 : Int) < ((1 : Nat) : Int)) && ((QR.nf ((1 : Int) : Rat)).is && (decide ((QR.nf ((1 : Int) : Rat)).n.length ≠ 0) && true))))))) = true
  rw [nf_is, nf_is, nf_len (by decide) (by decide)]; decide
theorem knC_hB {x : Int} : hB [QR.nf ((x : Int) : Rat)] knC = true ↔ x = 5 := by
  unfold hB
  rw [decide_eq_true_eq]
  show (QR.nf ((-5 : Int) : Rat)).val + (QR.nf ((1 : Int) : Rat)).val * (QR.nf ((x : Int) : Rat)).val = 0 ↔ _
  rw [QR.nf_val, QR.nf_val, QR.nf_val]
  constructor
  · intro h
    have h2 : ((x : Int) : Rat) = ((5 : Int) : Rat) := by
      have e1 : ((-5 : Int) : Rat) = -5 := rfl
      have e2 : ((1 : Int) : Rat) = 1 := rfl
      have e3 : ((5 : Int) : Rat) = 5 := rfl
      rw [e1, e2] at h; rw [e3]; grind
    exact Rat.intCast_inj.1 h2
  · rintro rfl
    have e1 : ((-5 : Int) : Rat) = -5 := rfl
    have e2 : ((1 : Int) : Rat) = 1 := rfl
    have e3 : ((5 : Int) : Rat) = 5 := rfl
    rw [e1, e2, e3]; grind
theorem kn_val (x : Int) : valOf [QR.nf ((x : Int) : Rat)] ((0 : Nat) : Int) = ((x : Int) : Rat) := by
  show (QR.nf ((x : Int) : Rat)).val = _
  rw [QR.nf_val]
theorem kn_first {z : Int} (h : BeatR 1 [QR.nf ((1 : Int) : Rat)] ([knC] ++ staysL [QR.nf ((1 : Int) : Rat)] 1) z) : z = 0 := by
  have h0 : hB [QR.nf ((1 : Int) : Rat)] knC = false := by
    cases h1 : hB [QR.nf ((1 : Int) : Rat)] knC with
    | false => rfl
    | true => have := knC_hB.1 h1; omega
  refine h.uniq (.inr ⟨0, knC, rfl, rfl, ⟨okB_iff.2 ⟨knC_is, h0⟩, cons_of (val := [QR.nf ((5 : Int) : Rat)]) (fun o ho _ => ?_)⟩, fun j d hj => by omega⟩)
  rcases List.mem_cons.1 ho with rfl | ho
  · exact knC_hB.2 rfl
  · obtain ⟨h1, h2⟩ := List.mem_filter.1 ho
    simp only [Bool.and_eq_true, decide_eq_true_eq] at h2
    rcases mem_al h1 with h3 | ⟨v, _, rfl⟩
    · rw [List.mem_singleton.1 h3]; exact knC_hB.2 rfl
    · have : (4 : Int) ≤ 3 := h2.1
      omega
theorem kn_second {z : Int} (h : BeatR 1 [QR.nf ((5 : Int) : Rat)] ([knC] ++ staysL [QR.nf ((1 : Int) : Rat)] 1) z) : z = -1 := by
  refine h.uniq (.inl ⟨rfl, fun c hc hbt => ?_⟩)
  have h3 := okB_iff.1 hbt.1
  rcases mem_al hc with h4 | ⟨v, hv, rfl⟩
  · rw [List.mem_singleton.1 h4, knC_hB.2 rfl] at h3; cases h3.2
  · have hv0 : v = 0 := by omega
    subst hv0
    have hk : knC ∈ bsd 1 [QR.nf ((5 : Int) : Rat)] (stC [QR.nf ((1 : Int) : Rat)] 0) ([knC] ++ staysL [QR.nf ((1 : Int) : Rat)] 1) := List.mem_cons_of_mem _ (List.mem_filter.2 ⟨by simp, by
      unfold okB
      rw [knC_hB.2 rfl]
      show (decide ((3 : Int) ≤ 4) && (!(isC knC ((1 : Nat) : Int)) || true)) = true
      rw [Bool.or_true]; decide⟩)
    have h5 : Sp (vecs 1 (bsd 1 [QR.nf ((5 : Int) : Rat)] (stC [QR.nf ((1 : Int) : Rat)] 0) ([knC] ++ staysL [QR.nf ((1 : Int) : Rat)] 1))) (vsub (cv 1 (conT (stC [QR.nf ((1 : Int) : Rat)] 0)).1 (conT (stC [QR.nf ((1 : Int) : Rat)] 0)).2) (cv 1 (conT knC).1 (conT knC).2) 1) :=
      Sp.sub 1 (.mem (vecs_mem.2 ⟨_, List.mem_cons_self, h3.1, rfl⟩)) (.mem (vecs_mem.2 ⟨_, hk, knC_is, rfl⟩))
    have e1 : conT (stC [QR.nf ((1 : Int) : Rat)] 0) = ([(0, ((1 : Int) : Rat))], -(((1 : Int)) : Rat)) := by
      show ([(_, (QR.nf _).val)], (QR.nf (-(valOf [QR.nf ((1 : Int) : Rat)] ((0 : Nat) : Int)))).val) = _
      rw [QR.nf_val, QR.nf_val, kn_val]; rfl
    have e2 : conT knC = ([(0, ((1 : Int) : Rat))], ((-5 : Int) : Rat)) := by
      show ([(_, (QR.nf _).val)], (QR.nf _).val) = _
      rw [QR.nf_val, QR.nf_val]; rfl
    rw [e1, e2] at h5
    have e : vsub (cv 1 [(0, ((1 : Int) : Rat))] (-(((1 : Int)) : Rat))) (cv 1 [(0, ((1 : Int) : Rat))] ((-5 : Int) : Rat)) 1 = kv 1 4 := by
      funext i
      simp only [vsub, cv, kv]
      by_cases hi : i = 1
      · simp only [if_pos hi]
        have e1 : ((-5 : Int) : Rat) = -5 := rfl
        have e2 : ((1 : Int) : Rat) = 1 := rfl
        rw [e1, e2]; grind
      · simp only [if_neg hi]; grind
    have h6 := hbt.2 4 (e ▸ h5)
    exact absurd h6 (by decide)
theorem kn_sm1 : ∀ c ∈ [knC], SmC 150 c := fun c hc => by
  rw [List.mem_singleton.1 hc]
  have h1 := nf_sm2 (z := -5) (by decide)
  have h2 := nf_sm2 (z := 1) (by decide)
  exact ⟨by show 1 ≤ 150; decide, ⟨Nat.le_trans h1.1 (by decide), Nat.le_trans h1.2 (by decide)⟩, fun t ht => by
    rw [List.mem_singleton.1 ht]; exact ⟨Nat.le_trans h2.1 (by decide), Nat.le_trans h2.2 (by decide)⟩⟩
theorem kn_smq {x : Int} (h : x.natAbs < 4294967296) {L : Nat} (hL : 2 ≤ L) : ∀ q ∈ [QR.nf ((x : Int) : Rat)], SmQ L q := fun q hq => by
  rw [List.mem_singleton.1 hq]
  have h1 := nf_sm2 h
  exact ⟨Nat.le_trans h1.1 hL, Nat.le_trans h1.2 hL⟩
theorem nm_no {p : CR → Bool} {c z : CR} {al : List CR} {k : Nat} (hz : al[k]? = some z) (h : p z = false) : c :: (al.take (k + 1)).filter p = c :: (al.take k).filter p := by
  obtain ⟨hi, rfl⟩ := List.getElem?_eq_some_iff.1 hz
  rw [List.take_succ_eq_append_getElem hi, List.filter_append, List.filter_cons_of_neg (by rw [h]; decide)]; simp
theorem nm_yes {p : CR → Bool} {c z : CR} {al : List CR} {k : Nat} (hz : al[k]? = some z) (h : p z = true) : c :: (al.take (k + 1)).filter p = (c :: (al.take k).filter p) ++ [z] := by
  obtain ⟨hi, rfl⟩ := List.getElem?_eq_some_iff.1 hz
  rw [List.take_succ_eq_append_getElem hi, List.filter_append, List.filter_cons_of_pos h]; rfl
theorem nm_len (p : CR → Bool) (c : CR) (al : List CR) {k : Nat} : (c :: (al.take k).filter p).length ≤ al.length + 1 := by
  rw [List.length_cons]; exact Nat.succ_le_succ (Nat.le_trans (List.length_filter_le _ _) (by rw [List.length_take]; omega))
theorem nm_mem {p : CR → Bool} {c : CR} {al : List CR} (hc : c ∈ al) : ∀ o ∈ c :: al.filter p, o ∈ al := fun o ho => by
  rcases List.mem_cons.1 ho with rfl | h
  · exact hc
  · exact (List.mem_filter.1 h).1
theorem add_one_ne (x : Rat) : x + (((1 : Int)) : Rat) ≠ x := fun h => by
  have e : (((1 : Int)) : Rat) = 1 := rfl
  rw [e] at h
  have : (1 : Rat) = 0 := by grind
  exact absurd this (by decide)
theorem hf_yes {p : CR → Bool} {z : CR} {al : List CR} {k : Nat} (hz : al[k]? = some z) (h : p z = true) : (al.take (k + 1)).filter p = (al.take k).filter p ++ [z] := by
  obtain ⟨hi, rfl⟩ := List.getElem?_eq_some_iff.1 hz
  rw [List.take_succ_eq_append_getElem hi, List.filter_append, List.filter_cons_of_pos h]; rfl
theorem hf_no {p : CR → Bool} {z : CR} {al : List CR} {k : Nat} (hz : al[k]? = some z) (h : p z = false) : (al.take (k + 1)).filter p = (al.take k).filter p := by
  obtain ⟨hi, rfl⟩ := List.getElem?_eq_some_iff.1 hz
  rw [List.take_succ_eq_append_getElem hi, List.filter_append, List.filter_cons_of_neg (by rw [h]; decide)]; simp

theorem fillQ1s (s : Bool) (A : Option Addr) (n c : Nat) (B : Option Addr) (m d : Nat) : Instr.fill (fun i => some (i * 3, 3)) ((Array.range (1 * 3)).map ((Value.agg #[.bool false, .slice none 0 0, .slice none 0 0]).cells[· % (Value.agg #[.bool false, .slice none 0 0, .slice none 0 0]).cells.size]!)) [(0, .agg #[.bool s, .slice A n c, .slice B m d])] = some #[.bool s, .slice A n c, .slice B m d] := by kernel_rfl
end Go.Proofs.Ytpnhihljgkohcaa
