/- Walks: what the functions compute. -/
import Derived.Test.YtpnhihljgkohcaaGaA
namespace Go.Proofs.Ytpnhihljgkohcaa
open Go.RowKit
set_option linter.unusedVariables false
set_option linter.unusedSimpArgs false
set_option maxRecDepth 10000

theorem laysT_nil {rs : List (Ts × Rat)} {good : Bool} {c d : Ts × Rat} (hd : d = leftT rs c) (h : d.1.length = 0) : laysT rs good c = (rs, good && decide (d.2 = 0)) := by
  subst hd
  unfold laysT
  have := List.eq_nil_of_length_eq_zero h
  simp only [this]
theorem laysT_len (rs : List (Ts × Rat)) (good : Bool) (c : Ts × Rat) : (laysT rs good c).1.length ≤ rs.length + 1 := by
  unfold laysT
  generalize leftT rs c = d
  obtain ⟨dl, dk⟩ := d
  cases dl with
  | nil => simp
  | cons f rest => simp
theorem laysT_cons {rs : List (Ts × Rat)} {good : Bool} {c d : Ts × Rat} (hd : d = leftT rs c) (h : ¬ d.1.length = 0) : laysT rs good c = (rs.map (fun r => lessT r.1 r.2 d.1 d.2) ++ [d], good) := by
  subst hd
  unfold laysT
  generalize leftT rs c = d at *
  obtain ⟨dl, dk⟩ := d
  cases dl with
  | nil => exact absurd rfl h
  | cons f rest => rfl
theorem nice_len {n : Nat} {l : Ts} (h : Nice l) (hb : Below n l) : l.length ≤ n := by
  have := nodup_le (xs := l.map (·.1)) (ys := List.range n) (by
    rw [List.Nodup, List.pairwise_map]
    exact h.up.imp (fun h1 h2 => by omega)) (fun p hp => by
    obtain ⟨r, hr, e⟩ := List.mem_map.1 hp
    have := hb r hr
    simp only [List.mem_range]; omega)
  simpa using this
theorem Reps.of_mem {n S : Nat} : ∀ {rs : List (Ts × Rat)} {R : List Row}, Reps n S rs R → ∀ {x : Ts × Rat}, x ∈ rs → ∃ r ∈ R, Rep n S x r
  | _, _, .cons h1 h2, x, hx => by
    rcases List.mem_cons.1 hx with rfl | h3
    · exact ⟨_, by simp, h1⟩
    · obtain ⟨r, h4, h5⟩ := h2.of_mem h3; exact ⟨r, by simp [h4], h5⟩
theorem PInv.row_ok {n t : Nat} {L : List Vec} {rs : List (Ts × Rat)} {ok : Bool} (h : PInv n t L rs ok) (hn : n ≤ 64) (hb : 4 * bnd t n + 4 * t + 8 ≤ 17179869184) : ∀ r ∈ rs, OkT r ∧ r.1 ≠ [] := fun x hx => by
  obtain ⟨R, D, h1, h2, h3⟩ := h
  obtain ⟨r, hr, h4⟩ := h1.of_mem hx
  obtain ⟨f, rest, e, hp⟩ := h4.first
  obtain ⟨y, hy, hv⟩ := h4.mul
  have hl := h2.good.lead r hr
  have hlt := hl.lt
  have hT := bnd_mono (t := t) h2.rank_n
  have hov := h3.ov r hr
  have hft : ∀ i, Fit (r.v i) (bnd t n) := fun i => by
    obtain ⟨z, h5, h6⟩ := hov i
    exact (Fit.ov h5 h3.pos h3.lt h6).mono hT
  have hyf : y = f.2 := by
    have h5 := hv r.p
    simp only [cv] at h5
    have h6 := h4.nice
    rw [e] at h5 h6
    rw [if_neg (by omega), hl.one, hp, h6.first.1] at h5
    rw [h5]; grind
  have hF : Fit y (t + bnd t n + 1) := hyf ▸ h4.sz f rest e
  have hall : ∀ i, Fit (cv n x.1 x.2 i) 17179869184 := fun i => by
    rw [hv i]; exact (hF.mul (hft i)).mono (by omega)
  refine ⟨⟨h4.nice, fun z hz => ?_, ?_, ?_⟩, by rw [e]; simp⟩
  · have h5 := hall z.1
    have := h4.below z hz
    simp only [cv] at h5
    rw [if_neg (by omega), h4.nice.coef_mem hz] at h5
    exact h5
  · have h5 := hall n
    simp only [cv, if_true] at h5
    exact h5
  · have := nice_len h4.nice h4.below; omega
theorem PInv.left_ok {n t d : Nat} {L : List Vec} {rs : List (Ts × Rat)} {ok : Bool} {c : Ts × Rat} (h : PInv n t L rs ok) (hn : n ≤ 64) (hb : 4 * bnd t n + 4 * t + 8 ≤ 17179869184) (hc : Nice c.1) (hbl : Below n c.1) (hd : 0 < d) (hdt : d < 4294967296 ^ t) (ho : Ov d t (cv n c.1 c.2)) : ∀ i, i ≤ rs.length → OkT (leftT (rs.take i) c) := fun i _ => by
  obtain ⟨R, D, h1, h2, h3⟩ := h
  have hr := h2.rank_n
  have hT := bnd_mono (t := t) hr
  have h1' : Reps n (t + bnd t n + 1) (rs.take i ++ rs.drop i) R := by rw [List.take_append_drop]; exact h1
  obtain ⟨R1, R2, e, h4⟩ := h1'.split
  have h5 := left_fit (by omega) h1' h2.good h3 hc hbl hd hdt ho
  have h6 := leftT_nice h4 hc hbl
  refine ⟨h6.1, fun x hx => (h5.1 x hx).mono (by omega), h5.2.mono (by omega), ?_⟩
  have := nice_len h6.1 h6.2; omega
/-- What is checked, as a normal sum. -/
def conT (c : CR) : Ts × Rat := (c.ts.map tv, c.k.val)
theorem isT_all {n : Int} : ∀ {ts : List TR} {least : Int}, isT n least ts = true → (∀ t ∈ ts, least ≤ t.v ∧ t.v < n ∧ t.c.is = true ∧ t.c.n.length ≠ 0) ∧ ts.Pairwise (fun s t => s.v < t.v)
  | [], _, _ => ⟨by simp, List.Pairwise.nil⟩
  | t :: r, least, h => by
    simp only [isT, Bool.and_eq_true, decide_eq_true_eq] at h
    obtain ⟨h1, h2, h3, h4, h5⟩ := h
    obtain ⟨h6, h7⟩ := isT_all h5
    refine ⟨fun x hx => ?_, List.pairwise_cons.2 ⟨fun x hx => by have := (h6 x hx).1; omega, h7⟩⟩
    rcases List.mem_cons.1 hx with rfl | h8
    · exact ⟨h1, h2, h3, h4⟩
    · have := h6 x h8; exact ⟨by omega, this.2⟩
theorem isC_spec {c : CR} {n : Nat} (h : isC c (n : Int) = true) : c.k.is = true ∧ (∀ t ∈ c.ts, 0 ≤ t.v ∧ t.c.is = true) ∧ Nice (conT c).1 ∧ Below n (conT c).1 := by
  simp only [isC, Bool.and_eq_true, decide_eq_true_eq] at h
  obtain ⟨_, _, h3, h4⟩ := h
  obtain ⟨h5, h6⟩ := isT_all h4
  refine ⟨h3, fun t ht => ⟨(h5 t ht).1, (h5 t ht).2.2.1⟩, ⟨?_, fun x hx => ?_⟩, fun x hx => ?_⟩
  · show (c.ts.map tv).Pairwise _
    rw [List.pairwise_map]
    refine h6.imp_of_mem (fun {s t} hs ht hst => ?_)
    have := h5 s hs; have := h5 t ht
    simp only [tv]; omega
  · obtain ⟨t, ht, rfl⟩ := List.mem_map.1 hx
    have h7 := h5 t ht
    intro h8
    have h9 := QR.is_nf h7.2.2.1
    apply h7.2.2.2
    have h8 : t.c.val = 0 := h8
    rw [h9, h8]
    show (toL (0 : Rat).num.natAbs).length = 0
    rw [show (0 : Rat).num = 0 from rfl]; simp [toL_zero]
  · obtain ⟨t, ht, rfl⟩ := List.mem_map.1 hx
    have h7 := h5 t ht
    simp only [tv]; omega
theorem RK_of {c : CR} {n : Nat} (hC : isC c (n : Int) = true) {M : List Nat} {w : World} {T A B : Option Addr} {t a b : Nat} (h0 : Lay rdT M w (.slice T c.ts.length t) c.ts) (h1 : U32 M w (.slice A c.k.n.length a) c.k.n) (h2 : U32 M w (.slice B c.k.d.length b) c.k.d) :
    RK M w (.agg #[.int .i64 c.st, .slice T c.ts.length t, .bool c.k.s, .slice A c.k.n.length a, .slice B c.k.d.length b]) (conT c).1 (conT c).2 := by
  obtain ⟨h3, h4, _, _⟩ := isC_spec hC
  obtain ⟨st, ts, k⟩ := c
  simp only at *
  obtain ⟨A', a', B', b', e, h5, h6⟩ := rdP_of ⟨_, _, rfl, h1, h2⟩ h3
  simp only [List.cons.injEq, Value.bool.injEq, and_true] at e
  obtain ⟨e1, e2, e3⟩ := e
  rw [e1, e2, e3]
  have hl : ts.length = (ts.map tv).length := by simp
  refine ⟨st, T, t, A', a', B', b', ?_, ?_, h5, h6⟩
  · show Value.agg #[_, Value.slice T ts.length t, _, _, _] = Value.agg #[_, Value.slice T (ts.map tv).length t, _, _, _]
    rw [← hl]; rfl
  · show Lay rdN M w (.slice T (ts.map tv).length t) (ts.map tv)
    rw [← hl]
    exact h0.conv rfl (fun cs a ha hr => rdN_of hr (h4 a ha).1 (h4 a ha).2)
def vecs (n : Nat) (cs : List CR) : List Vec := (cs.filter fun c => isC c (n : Int)).map fun c => cv n (conT c).1 (conT c).2
theorem vecs_yes {n : Nat} {cs : List CR} {i : Nat} {z : CR} (hz : cs[i]? = some z) (h : isC z (n : Int) = true) : vecs n (cs.take (i + 1)) = vecs n (cs.take i) ++ [cv n (conT z).1 (conT z).2] := by
  obtain ⟨hi, rfl⟩ := List.getElem?_eq_some_iff.1 hz
  unfold vecs
  rw [List.take_succ_eq_append_getElem hi, List.filter_append, List.map_append, List.filter_cons_of_pos (by exact h)]; rfl
theorem vecs_no {n : Nat} {cs : List CR} {i : Nat} {z : CR} (hz : cs[i]? = some z) (h : isC z (n : Int) = false) : vecs n (cs.take (i + 1)) = vecs n (cs.take i) := by
  obtain ⟨hi, rfl⟩ := List.getElem?_eq_some_iff.1 hz
  unfold vecs
  rw [List.take_succ_eq_append_getElem hi, List.filter_append, List.map_append, List.filter_cons_of_neg (by simp [h])]; simp
/-- One denominator for a sum, of so many limbs. -/
def OvC (n t : Nat) (c : Ts × Rat) : Prop := ∃ d, 0 < d ∧ d < 4294967296 ^ t ∧ Ov d t (cv n c.1 c.2)
/-- What is read elsewhere stays, if a row is laid anew. -/
theorem Lay.laid {α : Type} {R : Rd α} {N G : List Nat} {w w' : World} {u u' v : Value} {xs : List α} (h : Lay R N w v xs) (hm : Mod G w w') (hg : ∀ g ∈ G, g ∈ N) (hu : ∀ g ∈ ownL u, g ∈ N) (hpr : ∀ g, u'.ownBlock = some g → u.ownBlock = some g ∨ w.heap.size ≤ g) : Lay R (ownL u' ++ N) w' v xs := by
  cases e : u'.ownBlock with
  | none => rw [show ownL u' = [] by unfold ownL; rw [e]; rfl]; exact h.mod hm hg
  | some g =>
    rw [show ownL u' = [g] by unfold ownL; rw [e]; rfl]
    rcases hpr g e with h1 | h1
    · exact (h.mod hm hg).sub (fun b hb => by
        rcases List.mem_append.1 hb with h2 | h2
        · rw [List.mem_singleton.1 h2]; exact hu g (by unfold ownL; rw [h1]; simp)
        · exact h2)
    · exact (h.more h1).mod hm (fun b hb => List.mem_cons_of_mem _ (hg b hb))
theorem Bd.laid {N G : List Nat} {w w' : World} {u' : Value} {B el s k : Nat} {xs : List Value} (h : Bd N w) (hm : Mod G w w') (ho : w'.ownsRow B el s u' k xs) : Bd (ownL u' ++ N) w' := fun m hh => by
  rcases List.mem_append.1 hh with h1 | h1
  · unfold ownL at h1; exact (own_ge ho m (by simpa using h1)).2
  · exact Nat.lt_of_lt_of_le (h m h1) hm.size
theorem heldG_le (z : Int) : heldG z ≤ 64 := by unfold heldG; omega


theorem built_R1 (b : Bool) : Try.prog.built 70 [(1, .bool b)] = some #[.slice none 0 0, .bool b] := by kernel_rfl
theorem fillK1 (v : Int) (T : Option Addr) (l t : Nat) (s : Bool) (A : Option Addr) (n c : Nat) (B : Option Addr) (m d : Nat) : Instr.fill (fun i => some (i * 5, 5)) ((Array.range (1 * 5)).map ((Value.agg #[.int .i64 0, .slice none 0 0, .bool false, .slice none 0 0, .slice none 0 0]).cells[· % (Value.agg #[.int .i64 0, .slice none 0 0, .bool false, .slice none 0 0, .slice none 0 0]).cells.size]!)) [(0, .agg #[.int .i64 v, .slice T l t, .bool s, .slice A n c, .slice B m d])] = some #[.int .i64 v, .slice T l t, .bool s, .slice A n c, .slice B m d] := by kernel_rfl

set_option maxHeartbeats 1000000 in
theorem c_lays {M : List Nat} {w : World} {gR B : Nat} {vl vc : Value} {good : Bool} {rs : List (Ts × Rat)} {css : List (List Value)} {l : Ts} {k : Rat} (hbR : Blk w gR 70 #[vl, .bool good]) (ho : w.ownsRow B 33 5 vl rs.length css.flatten) (hl : LayL rdK (ownL vl ++ gR :: M) w css rs) (hno_ho_gR : vl.ownBlock ≠ some gR) (hB : B ≤ w.heap.size) (hbd : Bd (ownL vl ++ gR :: M) w) (ha : RK (ownL vl ++ gR :: M) w vc l k) (ok : ∀ i, i ≤ rs.length → OkT (leftT (rs.take i) (l, k))) (okr : ∀ r ∈ rs, OkT r ∧ r.1 ≠ []) (hrl : rs.length ≤ 64) :
    Ret Try.prog 68 #[.pointer (some ⟨gR, 0, none⟩), vc] w (fun r w' => ∃ vl' css', Blk w' gR 70 #[vl', .bool (laysT rs good (l, k)).2] ∧ w'.ownsRow B 33 5 vl' (laysT rs good (l, k)).1.length css'.flatten ∧ LayL rdK (ownL vl' ++ gR :: M) w' css' (laysT rs good (l, k)).1 ∧ vl'.ownBlock ≠ some gR ∧ (∀ g, vl'.ownBlock = some g → vl.ownBlock = some g ∨ w.heap.size ≤ g) ∧ Mod (gR :: ownL vl) w w') := by
 obtain ⟨s1, T1, t1, A1, c1, B1, e1, rfl, ht1, hn1, hd1⟩ := ha
 obtain ⟨d, hdd⟩ : ∃ d, d = leftT rs (l, k) := ⟨_, rfl⟩
 have okd : OkT d := by have h9 := ok rs.length (Nat.le_refl _); rw [List.take_length, ← hdd] at h9; exact h9
 refine Ret.of (vs := [.pointer (some ⟨gR, 0, none⟩), .agg #[.int .i64 s1, .slice T1 l.length t1, .bool (decide (k.num < 0)), .slice A1 (toL k.num.natAbs).length c1, .slice B1 (toL k.den).length e1]]) (n := 55) Try.func68 rfl rfl rfl rfl ?_
 have hm0 : Mod (gR :: ownL vl) w w := Mod.refl _ _
 refine W.seq <| W.region <| L.box rfl rfl ?_
 intro g3 w1 hN3
 replace ht1 := ht1.new hN3
 replace hn1 := hn1.new hN3
 replace hd1 := hd1.new hN3
 replace hl := hl.new hN3
 have hne_gR_g3 := hbR.ne_ hN3
 replace hbR := Blk.gr hbR hN3.mod
 replace hbd := hbd.new hN3
 have hno_ho_g3 := own_ne_new ho hN3
 replace ho := own_gr ho hN3.mod (by simp)
 have hge_g3 := New.ge hN3 hm0.size
 replace hm0 := hm0.trans (hN3.mod.mono (by simp))
 have hb3 := hN3.blk
 clear hN3
 refine L.nil <| X.seq <| W.seq <| W.region <| L.v (R1.move rfl) rfl <| L.v (R1.loadBox rfl hb3 tyG33) rfl <| L.call rfl (c_left hbR (own_read ho hl) ⟨_, _, _, _, _, _, _, rfl, ht1, hn1, hd1⟩ hbd ok okr) rfl ?_
 rintro _ w2 ⟨⟨s8, T8, t8, A8, c8, B8, e8, rfl, ht8, hn8, hd8⟩, hm2⟩
 replace hl := hl.gr hm2
 replace hbR := Blk.gr hbR hm2
 replace hbd := hbd.gr hm2
 replace ho := own_gr ho hm2 (by simp)
 replace hm0 := hm0.trans (hm2.mono (by simp))
 replace hb3 := Blk.gr hb3 hm2
 clear hm2
 rw [← hdd] at ht8 hn8 hd8 ⊢
 refine L.storeBox rfl rfl hb3 rfl rfl tyG33 ?_
 intro w3 hb3' hm3
 replace hl := hl.mod hm3 (by simp)
 replace hbR := Blk.far hbR hm3 (by first | exact hne_gR_g3 | exact (hne_g3_gR).symm)
 replace hbd := hbd.gr hm3
 replace ho := own_far ho hm3 hno_ho_g3
 replace hm0 := hm0.old1 hm3 hge_g3
 replace ht8 := ht8.mod hm3 (by simp)
 replace hn8 := hn8.mod hm3 (by simp)
 replace hd8 := hd8.mod hm3 (by simp)
 clear hm3
 replace hb3 := hb3'; clear hb3'
 refine L.nil <| X.seq <| W.seq <| W.seq <| W.region <| L.v (R1.fieldAt rfl tyF33_1) rfl <| L.v (R1.loadFld rfl hb3 rfl tyP28) rfl <| L.v (R1.lenLay rfl ht8 tyS28) rfl <| L.v ((R1.eq rfl rfl).asB (c := decide (d.1.length = 0)) (by congr 1; apply propext; omega)) rfl <| L.nil <| X.seq ?_
 refine W.cond rfl ?_ ?_
 ·
  intro hc12
  try simp only [bq, ne_eq] at hc12
  refine W.seq <| W.region <| L.v (R1.move rfl) rfl <| L.v (R1.move rfl) rfl <| L.v (R1.nilCheck rfl) rfl <| L.v (R1.fieldAt rfl tyF70_1) rfl <| L.v (R1.loadFld rfl hbR rfl tyP4) rfl <| L.v (R1.move rfl) rfl ?_
  cases good
  ·
   try simp only [bq, ne_eq] at hgd18
   refine L.off rfl rfl rfl rfl rfl <| L.off rfl rfl rfl rfl rfl <| L.off rfl rfl rfl rfl rfl <| L.v (R1.pickF rfl rfl) rfl <| L.v (R1.nilCheck rfl) rfl <| L.v (R1.fieldAt rfl tyF70_1) rfl <| L.store rfl rfl hbR (show 1 < 2 by decide) rfl tyP4 ?_
   intro w4 hbR' hm4
   replace hl := hl.mod hm4 (by simp)
   replace ho := own_far ho hm4 hno_ho_gR
   replace hm0 := hm0.trans (hm4.mono (by simp))
   clear hm4
   replace hbR := hbR'; clear hbR'
   refine L.nil <| X.seq <| W.ret <| X.thenRet <| X.result0 rfl ?_
   rw [laysT_nil hdd hc12]
   exact ⟨vl, css, hbR, ho, hl.sub (by intro b hb; first | exact hb | (simp only [mq] at hb ⊢; grind)), hno_ho_gR, (fun g h => .inl h), hm0⟩
  ·
   try simp only [bq, ne_eq] at hgd18
   refine L.on rfl rfl rfl (R1.fieldAt rfl tyF33_2) rfl <| L.on rfl rfl rfl (R1.loadBoxAt (ds := [.bool (decide (d.2.num < 0)), .slice A8 (toL d.2.num.natAbs).length c8, .slice B8 (toL d.2.den).length e8]) rfl hb3 rfl tyG31) rfl <| L.callOn rfl rfl rfl rfl (c_rat_Zero (q := d.2) (rv_toL _) hn8 hd8 hbd (Nat.le_trans okd.fk.1 (by decide)) (Nat.le_trans okd.fk.2 (by decide))) rfl ?_
   rintro _ w5 ⟨rfl, hm5⟩
   replace hl := hl.gr hm5
   replace hbR := Blk.gr hbR hm5
   replace ho := own_gr ho hm5 (by simp)
   replace hm0 := hm0.trans (hm5.mono (by simp))
   clear hm5
   refine L.v (R1.pickT rfl rfl) rfl <| L.v (R1.nilCheck rfl) rfl <| L.v (R1.fieldAt rfl tyF70_1) rfl <| L.store rfl rfl hbR (show 1 < 2 by decide) rfl tyP4 ?_
   intro w6 hbR' hm6
   replace hl := hl.mod hm6 (by simp)
   replace ho := own_far ho hm6 hno_ho_gR
   replace hm0 := hm0.trans (hm6.mono (by simp))
   clear hm6
   replace hbR := hbR'; clear hbR'
   refine L.nil <| X.seq <| W.ret <| X.thenRet <| X.result0 rfl ?_
   rw [laysT_nil hdd hc12]
   exact ⟨vl, css, hbR, ho, hl.sub (by intro b hb; first | exact hb | (simp only [mq] at hb ⊢; grind)), hno_ho_gR, (fun g h => .inl h), hm0⟩
 ·
  intro hc12
  try simp only [bq, ne_eq] at hc12
  obtain ⟨f, rest, hrow⟩ := List.exists_cons_of_ne_nil (show d.1 ≠ [] from fun h9 => hc12 (by rw [h9]; rfl))
  refine W.skip <| X.seq <| W.seq <| W.seq <| W.region <| L.v (R1.move rfl) rfl <| L.v (R1.nilCheck rfl) rfl <| L.v (R1.fieldAt rfl tyF70_0) rfl <| L.v ((R1.loadFld rfl hbR rfl tyP22).asV (v := vl) rfl) rfl <| L.v (R1.lenOwn rfl ho tyS22) rfl <| L.v (R1.move rfl) rfl ?_
  refine L.nil <| X.seq <| W.block <| W.loop (ι := Nat × List (List Value)) (fun (i, css) => [(0, .pointer (some ⟨gR, 0, none⟩)), (3, .pointer (some ⟨g3, 0, none⟩)), (28, vl), (29, .int .i64 (rs.length : Int)), (30, .int .i64 (i : Int))]) (fun (i, css) w_ => Lay rdN (ownL vl ++ gR :: M) w_ (.slice T8 d.1.length t8) d.1 ∧ U32 (ownL vl ++ gR :: M) w_ (.slice A8 (toL d.2.num.natAbs).length c8) (toL d.2.num.natAbs) ∧ U32 (ownL vl ++ gR :: M) w_ (.slice B8 (toL d.2.den).length e8) (toL d.2.den) ∧ Blk w_ g3 33 #[.int .i64 s8, .slice T8 d.1.length t8, .bool (decide (d.2.num < 0)), .slice A8 (toL d.2.num.natAbs).length c8, .slice B8 (toL d.2.den).length e8] ∧ Blk w_ gR 70 #[vl, .bool good] ∧ gR ≠ g3 ∧ vl.ownBlock ≠ some gR ∧ vl.ownBlock ≠ some g3 ∧ w.heap.size ≤ g3 ∧ w_.ownsRow B 33 5 vl rs.length css.flatten ∧ LayL rdK (ownL vl ++ gR :: M) w_ css (updT rs d i) ∧ Bd (ownL vl ++ gR :: M) w_ ∧ Mod (gR :: ownL vl) w w_ ∧ i ≤ rs.length) (fun (i, css) => rs.length - i) (0, css) ?_ ?_ ?_
  · exact ⟨rfl, rfl, rfl, rfl, rfl, trivial⟩
  ·
   exact ⟨ht8.sub (by intro b hb; first | exact hb | (simp only [mq] at hb ⊢; grind)), hn8.sub (by intro b hb; first | exact hb | (simp only [mq] at hb ⊢; grind)), hd8.sub (by intro b hb; first | exact hb | (simp only [mq] at hb ⊢; grind)), hb3, hbR, hne_gR_g3, hno_ho_gR, hno_ho_g3, hge_g3, ho, by unfold updT; exact hl.sub (by intro b hb; first | exact hb | (simp only [mq] at hb ⊢; grind)), hbd.sub (by intro b hb; first | exact hb | (simp only [mq] at hb ⊢; grind)), hm0, Nat.zero_le _⟩
  ·
   rintro ⟨i, css⟩ w7 ⟨ht8, hn8, hd8, hb3, hbR, hne_gR_g3, hno_ho_gR, hno_ho_g3, hge_g3, ho, hl, hbd, hm0, hi⟩
   refine W.seq <| W.region <| L.v (R1.lt rfl rfl) rfl <| L.nil <| X.seq <| W.seq <| W.cond rfl ?_ ?_
   ·
    intro hc31
    try simp only [bq, ne_eq] at hc31
    refine W.skip <| X.seq <| W.seq <| W.block <| W.seq <| W.region <| L.v (R1.move rfl) rfl <| L.v (R1.atOwn (i := i) rfl rfl ho tyS22 rfl (by omega)) rfl ?_
    obtain ⟨z34, cs34, hz34, hE34, st34, T34, t34, A34, a34, B34, b34, rfl, ht34, hn34, hd34⟩ := own_elemQ ho rfl hl (j := i) (by rw [updT_length]; omega)
    refine L.v (R1.loadE rfl hE34 tyG33) rfl ?_
    rw [updT_get (by omega)] at hz34
    refine L.alloc tyZ33 rfl ?_
    intro g5 w8 hN5
    replace ht8 := ht8.new hN5
    replace hn8 := hn8.new hN5
    replace hd8 := hd8.new hN5
    have hne_g3_g5 := hb3.ne_ hN5
    replace hb3 := Blk.gr hb3 hN5.mod
    have hne_gR_g5 := hbR.ne_ hN5
    replace hbR := Blk.gr hbR hN5.mod
    have hno_ho_g5 := own_ne_new ho hN5
    replace ho := own_gr ho hN5.mod (by simp)
    replace hl := hl.new hN5
    replace hbd := hbd.new hN5
    have hge_g5 := New.ge hN5 hm0.size
    replace hm0 := hm0.trans (hN5.mod.mono (by simp))
    replace ht34 := ht34.new hN5
    replace hn34 := hn34.new hN5
    replace hd34 := hd34.new hN5
    have hb5 := hN5.blk
    clear hN5
    refine L.v (R1.assign rfl) rfl <| L.storeBox rfl rfl hb5 rfl rfl tyG33 ?_
    intro w9 hb5' hm9
    replace ht8 := ht8.mod hm9 (by simp)
    replace hn8 := hn8.mod hm9 (by simp)
    replace hd8 := hd8.mod hm9 (by simp)
    replace hb3 := Blk.far hb3 hm9 (by first | exact hne_g3_g5 | exact (hne_g5_g3).symm)
    replace hbR := Blk.far hbR hm9 (by first | exact hne_gR_g5 | exact (hne_g5_gR).symm)
    replace ho := own_far ho hm9 hno_ho_g5
    replace hl := hl.mod hm9 (by simp)
    replace hbd := hbd.gr hm9
    replace hm0 := hm0.old1 hm9 hge_g5
    replace ht34 := ht34.mod hm9 (by simp)
    replace hn34 := hn34.mod hm9 (by simp)
    replace hd34 := hd34.mod hm9 (by simp)
    clear hm9
    replace hb5 := hb5'; clear hb5'
    refine L.nil <| X.seq <| W.drawW (T := [9]) rfl (by decide +kernel) (NoHang.block (NoHang.then (NoHang.next (NoHang.block (NoHang.then NoHang.post))))) (fun w10 hm10 => ?_)
    replace ht8 := ht8.gr hm10
    replace hn8 := hn8.gr hm10
    replace hd8 := hd8.gr hm10
    replace hb3 := Blk.gr hb3 hm10
    replace hbR := Blk.gr hbR hm10
    replace ho := own_gr ho hm10 (by simp)
    replace hl := hl.gr hm10
    replace hbd := hbd.gr hm10
    replace hm0 := hm0.trans (hm10.mono (by simp))
    replace ht34 := ht34.gr hm10
    replace hn34 := hn34.gr hm10
    replace hd34 := hd34.gr hm10
    replace hb5 := Blk.gr hb5 hm10
    have hS1 : Mod [] w10 w10 := Mod.refl _ _
    clear hm10
    have hb3_s := hb3
    have hbR_s := hbR
    have ho_s := ho
    have hb5_s := hb5
    refine D.take 0 rfl (by decide +kernel) (fun w_ hS => (R1.move rfl)) hS1 rfl <| D.take 1 rfl (by decide +kernel) (fun w_ hS => (R1.nilCheck rfl)) hS1 rfl <| D.take 2 rfl (by decide +kernel) (fun w_ hS => (R1.fieldAt rfl tyF70_0)) hS1 rfl <| D.take 3 rfl (by decide +kernel) (fun w_ hS => ((R1.loadFld rfl (Blk.gr hbR_s hS) rfl tyP22).asV (v := vl) rfl)) hS1 rfl <| D.take 4 rfl (by decide +kernel) (fun w_ hS => (R1.move rfl)) hS1 rfl <| D.take 5 rfl (by decide +kernel) (fun w_ hS => (R1.loadBox rfl (Blk.gr hb5_s hS) tyG33)) hS1 rfl <| D.take 6 rfl (by decide +kernel) (fun w_ hS => (R1.loadBox rfl (Blk.gr hb3_s hS) tyG33)) hS1 rfl <| D.one 7 rfl (by decide +kernel) (fun hX => ?_)
    refine L.call rfl (c_less ⟨_, _, _, _, _, _, _, rfl, ht34, hn34, hd34⟩ ⟨_, _, _, _, _, _, _, rfl, ht8, hn8, hd8⟩ hbd (okr _ (List.mem_of_getElem? hz34)).1 okd hrow) rfl ?_
    rintro _ w11 ⟨⟨s42, T42, t42, A42, c42, B42, e42, rfl, ht42, hn42, hd42⟩, hm11⟩
    replace ht8 := ht8.gr hm11
    replace hn8 := hn8.gr hm11
    replace hd8 := hd8.gr hm11
    replace hb3 := Blk.gr hb3 hm11
    replace hbR := Blk.gr hbR hm11
    replace ho := own_gr ho hm11 (by simp)
    replace hl := hl.gr hm11
    replace hbd := hbd.gr hm11
    replace hm0 := hm0.trans (hm11.mono (by simp))
    replace ht34 := ht34.gr hm11
    replace hn34 := hn34.gr hm11
    replace hd34 := hd34.gr hm11
    replace hS1 := hS1.trans hm11
    clear hm11
    refine L.nil (hX _ _ ⟨.inr hS1, ?_⟩)
    refine D.take 8 rfl (by decide +kernel) (fun w_ hS => (R1.atOwn (i := i) rfl rfl (own_gr ho_s hS (by simp)) tyS22 rfl (by omega))) hS1 rfl <| D.one 9 rfl (by decide +kernel) (fun hX => ?_)
    refine L.storeOwnA rfl rfl rfl ho hl (by first | exact mem_own | (intro b hb; simp [hb])) (by rw [updT_length]; omega) ((⟨_, _, _, _, _, _, _, rfl, ht42, hn42, hd42⟩ : rdK.rd _ _ _ (lessT z34.1 z34.2 d.1 d.2))) tyG33 ?_
    intro w12 ho' hl' hm12
    replace ht8 := ht8.mod hm12 (by first | exact mem_own | (intro b hb; simp [hb]))
    replace hn8 := hn8.mod hm12 (by first | exact mem_own | (intro b hb; simp [hb]))
    replace hd8 := hd8.mod hm12 (by first | exact mem_own | (intro b hb; simp [hb]))
    replace hb3 := Blk.ownfar hb3 hm12 hno_ho_g3
    replace hbR := Blk.ownfar hbR hm12 hno_ho_gR
    replace hbd := hbd.gr hm12
    replace hm0 := hm0.trans (hm12.mono (by intro b hb; simp [hb]))
    replace ht34 := ht34.mod hm12 (by first | exact mem_own | (intro b hb; simp [hb]))
    replace hn34 := hn34.mod hm12 (by first | exact mem_own | (intro b hb; simp [hb]))
    replace hd34 := hd34.mod hm12 (by first | exact mem_own | (intro b hb; simp [hb]))
    replace ht42 := ht42.mod hm12 (by first | exact mem_own | (intro b hb; simp [hb]))
    replace hn42 := hn42.mod hm12 (by first | exact mem_own | (intro b hb; simp [hb]))
    replace hd42 := hd42.mod hm12 (by first | exact mem_own | (intro b hb; simp [hb]))
    clear hm12 hl
    replace ho := ho'; clear ho'
    have hl := hl'; clear hl'
    refine L.nil (hX _ _ ⟨.inl rfl, ?_⟩)
    refine D.done (by decide +kernel) ?_ _
    refine X.blockEnd <| X.seq <| W.region <| L.v (R1.addI (b := 1) rfl rfl (by omega)) rfl <| L.v (R1.move rfl) rfl <| L.nil <| X.next (i + 1, css.set i [.int .i64 s42, .slice T42 (lessT z34.1 z34.2 d.1 d.2).1.length t42, .bool (decide ((lessT z34.1 z34.2 d.1 d.2).2.num < 0)), .slice A42 (toL (lessT z34.1 z34.2 d.1 d.2).2.num.natAbs).length c42, .slice B42 (toL (lessT z34.1 z34.2 d.1 d.2).2.den).length e42]) ?_ ?_ ?_
    · exact ⟨rfl, rfl, rfl, rfl, rfl, trivial⟩
    ·
     exact ⟨ht8.sub (by intro b hb; first | exact hb | (simp only [mq] at hb ⊢; grind)), hn8.sub (by intro b hb; first | exact hb | (simp only [mq] at hb ⊢; grind)), hd8.sub (by intro b hb; first | exact hb | (simp only [mq] at hb ⊢; grind)), hb3, hbR, hne_gR_g3, hno_ho_gR, hno_ho_g3, hge_g3, ho, by rw [← updT_set hz34]; exact hl.sub (by intro b hb; first | exact hb | (simp only [mq] at hb ⊢; grind)), hbd.sub (by intro b hb; first | exact hb | (simp only [mq] at hb ⊢; grind)), hm0, by omega⟩
    · first | omega | (dsimp only; omega)
   ·
    intro hc31
    try simp only [bq, ne_eq] at hc31
    obtain rfl : i = rs.length := by omega
    rw [updT_all] at hl
    refine W.exit <| X.thenExit <| X.nextExit <| X.here <| X.seq <| W.drawG (ownL vl) (T := [10]) rfl (by decide +kernel) NoHang.post (fun w13 hm13 => ?_)
    replace ht8 := ht8.gr hm13
    replace hn8 := hn8.gr hm13
    replace hd8 := hd8.gr hm13
    replace hb3 := Blk.gr hb3 hm13
    replace hbR := Blk.gr hbR hm13
    replace ho := own_gr ho hm13 (by simp)
    replace hl := hl.gr hm13
    replace hbd := hbd.gr hm13
    replace hm0 := hm0.trans (hm13.mono (by simp))
    have hS2 : Mod (ownL vl) w13 w13 := Mod.refl _ _
    clear hm13
    have hb3_s := hb3
    have hbR_s := hbR
    refine D.take 0 rfl (by decide +kernel) (fun w_ hS => (R1.move rfl)) hS2 rfl <| D.take 1 rfl (by decide +kernel) (fun w_ hS => (R1.move rfl)) hS2 rfl <| D.take 2 rfl (by decide +kernel) (fun w_ hS => (R1.nilCheck rfl)) hS2 rfl <| D.take 3 rfl (by decide +kernel) (fun w_ hS => (R1.fieldAt rfl tyF70_0)) hS2 rfl <| D.take 4 rfl (by decide +kernel) (fun w_ hS => ((R1.loadFld rfl (Blk.ownfar hbR_s hS hno_ho_gR) rfl tyP22).asV (v := vl) rfl)) hS2 rfl <| D.take 5 rfl (by decide +kernel) (fun w_ hS => (R1.loadBox rfl (Blk.ownfar hb3_s hS hno_ho_g3) tyG33)) hS2 rfl <| D.one 6 rfl (by decide +kernel) (fun hX => ?_)
    refine L.buildSlice (cells := [.int .i64 s8, .slice T8 d.1.length t8, .bool (decide (d.2.num < 0)), .slice A8 (toL d.2.num.natAbs).length c8, .slice B8 (toL d.2.den).length e8]) rfl tyS22 tyZ33 (fillK1 _ _ _ _ _ _ _ _ _ _ _) (by decide) (by decide) rfl ?_
    intro g51 w14 hN51
    replace ht8 := ht8.gr hN51.mod
    replace hn8 := hn8.gr hN51.mod
    replace hd8 := hd8.gr hN51.mod
    replace hbR := Blk.gr hbR hN51.mod
    replace ho := own_gr ho hN51.mod (by simp)
    replace hl := hl.gr hN51.mod
    replace hbd := hbd.gr hN51.mod
    replace hm0 := hm0.trans (hN51.mod.mono (by simp))
    replace hS2 := hS2.trans (hN51.mod.mono (by simp))
    have hrow : Sl [] w14 5 (.slice (some ⟨g51, 0, none⟩) 1 1) 1 [.int .i64 s8, .slice T8 d.1.length t8, .bool (decide (d.2.num < 0)), .slice A8 (toL d.2.num.natAbs).length c8, .slice B8 (toL d.2.den).length e8] := Sl.of_blk hN51.blk 0 (Nat.le_refl _) (by decide) rfl (by simp) (fun j hj => by simp)
    clear hN51
    refine L.nil (hX _ _ ⟨.inr hS2, ?_⟩)
    have hsz0 := hm0.size
    have hB9 := Nat.le_trans hB hm0.size
    refine D.one 7 rfl (by decide +kernel) (fun hX => ?_)
    refine L.append rfl rfl ho hrow (by intro c hc; simp only [List.mem_cons, List.not_mem_nil, or_false] at hc; rcases hc with rfl | rfl | rfl | rfl | rfl <;> rfl) tyS22 tyZ33 (by omega) (by unfold maxLen; omega) hB9 rfl ?_
    intro v52 w15 ho52' hG52
    replace ht8 := ht8.grew2 hG52 (by first | exact mem_own | (intro b hb; simp [hb]))
    replace hn8 := hn8.grew2 hG52 (by first | exact mem_own | (intro b hb; simp [hb]))
    replace hd8 := hd8.grew2 hG52 (by first | exact mem_own | (intro b hb; simp [hb]))
    have hnn_gR := hG52.ne hno_ho_gR hbR
    replace hbR := Blk.grew hbR hG52 hno_ho_gR
    replace hno_ho_gR := hnn_gR
    replace hl := hl.grew2 hG52 (by first | exact mem_own | (intro b hb; simp [hb]))
    replace hbd := hbd.grew2 hG52 (by first | exact mem_own | (intro b hb; simp [hb]))
    replace hm0 := hm0.trans (hG52.mod.mono (by intro b hb; simp [hb]))
    replace ho := ho52'; clear ho52'
    replace hS2 := hS2.trans hG52.mod
    have hgrew := hG52
    clear hG52
    refine L.nil (hX _ _ ⟨.inr hS2, ?_⟩)
    refine D.take 8 rfl (by decide +kernel) (fun w_ hS => (R1.nilCheck rfl)) hS2 rfl <| D.take 9 rfl (by decide +kernel) (fun w_ hS => (R1.fieldAt rfl tyF70_0)) hS2 rfl <| D.one 10 rfl (by decide +kernel) (fun hX => ?_)
    refine L.store rfl rfl hbR (show 0 < 2 by decide) (own_one ho) tyP22 ?_
    intro w16 hbR' hm16
    replace ht8 := ht8.mod hm16 (by simp)
    replace hn8 := hn8.mod hm16 (by simp)
    replace hd8 := hd8.mod hm16 (by simp)
    replace ho := own_far ho hm16 hno_ho_gR
    replace hl := hl.mod hm16 (by simp)
    replace hm0 := hm0.trans (hm16.mono (by simp))
    clear hm16
    replace hbR := hbR'; clear hbR'
    refine L.nil (hX _ _ ⟨.inl rfl, ?_⟩)
    refine D.done (by decide +kernel) ?_ _
    refine X.fall0 rfl ?_
    rw [laysT_cons hdd hc12]
    refine ⟨v52, css ++ [[.int .i64 s8, .slice T8 d.1.length t8, .bool (decide (d.2.num < 0)), .slice A8 (toL d.2.num.natAbs).length c8, .slice B8 (toL d.2.den).length e8]], hbR, own_congr ho (by simp) (by simp), (hl.sub (by intro b hb; first | exact hb | (simp only [mq] at hb ⊢; grind))).append (LayL.one _ d ⟨_, _, _, _, _, _, _, rfl, ht8.sub (by intro b hb; first | exact hb | (simp only [mq] at hb ⊢; grind)), hn8.sub (by intro b hb; first | exact hb | (simp only [mq] at hb ⊢; grind)), hd8.sub (by intro b hb; first | exact hb | (simp only [mq] at hb ⊢; grind))⟩), hno_ho_gR, (fun g h => ?_), hm0⟩
    rcases hgrew.at_ with h1 | h1
    · exact .inl (h1 ▸ h)
    · rw [h1] at h; injection h with h; subst h; exact .inr hsz0

end Go.Proofs.Ytpnhihljgkohcaa
