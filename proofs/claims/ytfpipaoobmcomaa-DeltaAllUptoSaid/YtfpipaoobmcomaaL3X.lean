/- Walks: what the functions compute. -/
import Derived.Test.YtfpipaoobmcomaaL3K
namespace Go.Proofs.Ytfpipaoobmcomaa
open Go.RowKit
set_option linter.unusedVariables false
set_option linter.unusedSimpArgs false
set_option maxRecDepth 10000

theorem nodup_sub_len : ∀ {L K : List Nat}, L.Nodup → (∀ x ∈ L, x ∈ K) → L.length ≤ K.length
  | [], _, _, _ => Nat.zero_le _
  | a :: L, K, h, hs => by
    rw [List.nodup_cons] at h
    have ha := hs a (by simp)
    have h1 := nodup_sub_len (K := K.erase a) h.2 (fun x hx => (List.mem_erase_of_ne (fun (e : x = a) => h.1 (by rw [← e]; exact hx))).2 (hs x (by simp [hx])))
    rw [List.length_erase_of_mem ha] at h1
    have := List.length_pos_of_mem ha
    simp only [List.length_cons]; omega
def conA (n : Nat) (z : Int) (i : Nat) : CR := ⟨andI .i64 z 3, ⟨(i : Int), QR.nf ((1 : Int) : Rat)⟩ :: (if i + 1 < n ∧ andI .i64 z 4 = 4 then [⟨((i + 1 : Nat) : Int), QR.nf ((1 : Int) : Rat)⟩] else []), QR.nf ((-(i : Int) : Int) : Rat)⟩
def allC (n : Nat) (zs : List Int) (k : Nat) : List CR := (List.range k).map fun i => conA n (zs.getD i 0) i
def rowA (n : Nat) (z : Int) (i : Nat) : List Nat := i :: (if i + 1 < n ∧ andI .i64 z 4 = 4 then [i + 1] else [])
theorem and3 (z : Int) : 0 ≤ andI .i64 z 3 ∧ andI .i64 z 3 ≤ 3 := by
  have h2 : andI .i64 z 3 = IntKind.i64.wrap ((BitVec.ofInt 64 z &&& BitVec.ofInt 64 3).toNat : Int) := rfl
  have h3 : (BitVec.ofInt 64 z &&& BitVec.ofInt 64 3).toNat ≤ 3 := by
    rw [BitVec.toNat_and]
    exact Nat.le_trans Nat.and_le_right (by decide)
  rw [h2, wrap_i64 (by omega) (by omega)]
  omega
theorem conA_is {n : Nat} {z : Int} {i : Nat} (hi : i < n) : isC (conA n z i) (n : Int) = true := by
  obtain ⟨h1, h2⟩ := and3 z
  unfold conA
  split
  · rename_i h
    refine isC_true h1 (by show andI .i64 z 3 ≤ 4; omega) (nf_is _) ?_
    show (decide ((0 : Int) ≤ (i : Int)) && (decide ((i : Int) < (n : Int)) && ((QR.nf ((1 : Int) : Rat)).is && (decide ((QR.nf ((1 : Int) : Rat)).n.length ≠ 0) && (decide ((i : Int) + 1 ≤ ((i + 1 : Nat) : Int)) && (decide (((i + 1 : Nat) : Int) < (n : Int)) && ((QR.nf ((1 : Int) : Rat)).is && (decide ((QR.nf ((1 : Int) : Rat)).n.length ≠ 0) && true)))))))) = true
    rw [nf_is, nf_len (by decide) (by decide), decide_eq_true (p := (0 : Int) ≤ (i : Int)) (by omega), decide_eq_true (p := (i : Int) < (n : Int)) (by omega), decide_eq_true (p := (i : Int) + 1 ≤ ((i + 1 : Nat) : Int)) (by omega), decide_eq_true (p := ((i + 1 : Nat) : Int) < (n : Int)) (by omega)]
    rfl
  · refine isC_true h1 (by show andI .i64 z 3 ≤ 4; omega) (nf_is _) ?_
    show (decide ((0 : Int) ≤ (i : Int)) && (decide ((i : Int) < (n : Int)) && ((QR.nf ((1 : Int) : Rat)).is && (decide ((QR.nf ((1 : Int) : Rat)).n.length ≠ 0) && true)))) = true
    rw [nf_is, nf_len (by decide) (by decide), decide_eq_true (p := (0 : Int) ≤ (i : Int)) (by omega), decide_eq_true (p := (i : Int) < (n : Int)) (by omega)]
    rfl
theorem conA_vs (n : Nat) (z : Int) (i : Nat) : vsOf (conA n z i) = rowA n z i := by
  unfold vsOf conA rowA
  split <;> simp
theorem allC_get {n k i : Nat} (zs : List Int) (hi : i < k) : (allC n zs k)[i]? = some (conA n (zs.getD i 0) i) := by
  unfold allC; rw [List.getElem?_map, List.getElem?_range hi]; rfl
theorem allC_len (n : Nat) (zs : List Int) (k : Nat) : (allC n zs k).length = k := by simp [allC]
theorem allC_is {n k : Nat} (zs : List Int) (hk : k ≤ n) : ∀ c ∈ allC n zs k, isC c (n : Int) = true := fun c hc => by
  obtain ⟨i, hi, rfl⟩ := List.mem_map.1 hc
  rw [List.mem_range] at hi
  exact conA_is (by omega)
theorem allC_ws {n k : Nat} (zs : List Int) (hk : k ≤ n) : wsOf n (allC n zs k) = (List.range k).map fun i => rowA n (zs.getD i 0) i := by
  unfold wsOf allC
  rw [List.map_map]
  apply List.map_congr_left
  intro i hi
  rw [List.mem_range] at hi
  show wOf n (conA n (zs.getD i 0) i) = _
  unfold wOf
  rw [if_pos (conA_is (by omega)), conA_vs]
/-- The labels ahead of the k-th row. -/
def LabI (n k : Nat) (l : List Nat) : Prop := l.length = n ∧ (∀ v, k < v → v < n → lab l v = v) ∧ ∀ v, v ≤ k → v < n → lab l v ≤ k
theorem rowA_step {n k : Nat} {z : Int} {l : List Nat} (hk : k < n) (h : LabI n k l) : okW l (rowA n z k) = true ∧ LabI n (k + 1) (apW l (rowA n z k)) := by
  obtain ⟨h1, h2, h3⟩ := h
  unfold rowA
  split
  · rename_i hc
    have e1 := h2 (k + 1) (by omega) hc.1
    have e2 := h3 k (Nat.le_refl _) hk
    refine ⟨?_, ?_⟩
    · show (decide (lab l k ≠ lab l (k + 1)) && true) = true
      rw [decide_eq_true (by omega)]; rfl
    · show LabI n (k + 1) (jn l k (k + 1))
      have e3 : max (lab l k) (lab l (k + 1)) = k + 1 := by omega
      have e4 : min (lab l k) (lab l (k + 1)) ≤ k := by omega
      refine ⟨by rw [jn_length]; exact h1, fun v hv hvn => ?_, fun v hv hvn => ?_⟩
      · have e5 := h2 v (by omega) hvn
        rw [jn_lab (v := v) (by rw [h1]; exact hvn), e3, if_neg (by omega), e5]
      · rw [jn_lab (v := v) (by rw [h1]; exact hvn), e3]
        split
        · omega
        · rcases Nat.lt_or_ge k v with h9 | h9
          · have e5 := h2 v h9 hvn; omega
          · have e5 := h3 v h9 hvn; omega
  · refine ⟨rfl, h1, fun v hv hvn => h2 v (by omega) hvn, fun v hv hvn => ?_⟩
    show lab l v ≤ k + 1
    rcases Nat.lt_or_ge k v with h9 | h9
    · have e5 := h2 v h9 hvn; omega
    · have e5 := h3 v h9 hvn; omega
theorem all_first {n : Nat} (zs : List Int) : ∀ k, k ≤ n → firstW (List.range n) ((List.range k).map fun i => rowA n (zs.getD i 0) i) 0 = none ∧ LabI n k (apAll (List.range n) ((List.range k).map fun i => rowA n (zs.getD i 0) i))
  | 0, _ => ⟨rfl, by simp [apAll], fun v hv hvn => by show lab (List.range n) v = v; exact lab_range hvn, fun v hv hvn => by show lab (List.range n) v ≤ 0; rw [lab_range hvn]; exact hv⟩
  | k + 1, hk => by
    have hkn : k < n := hk
    obtain ⟨h1, h2⟩ := all_first zs k (Nat.le_of_lt hkn)
    obtain ⟨h3, h4⟩ := rowA_step (n := n) (k := k) (z := zs.getD k 0) hkn h2
    rw [List.range_succ, List.map_append]
    refine ⟨?_, ?_⟩
    · rw [firstW_append, h1]
      simp only [List.map_cons, List.map_nil, firstW, h3, if_true]
    · show LabI n (k + 1) (apAll (List.range n) (_ ++ [rowA n (zs.getD k 0) k]))
      rw [apAll_snoc]; exact h4
theorem all_ch {n k : Nat} (zs : List Int) (h1 : 1 ≤ n) (h2 : n ≤ 20) (hk : k ≤ n) : ChB (n : Int) (allC n zs k) (List.replicate k (-1)) = true := by
  refine decide_eq_true ⟨by omega, by omega, by rw [allC_len]; omega, by rw [allC_len]; simp, fun j hj => ?_, ?_⟩
  · rw [allC_len] at hj
    refine ⟨?_, .inl (by simp [List.getD_eq_getElem?_getD, hj])⟩
    rw [getD_of_get (allC_get zs hj)]
    exact conA_is (by omega)
  · rw [Int.toNat_natCast, allC_ws zs hk]
    exact (all_first zs k hk).1
/-- All tell. -/
theorem all_tell {n k : Nat} (zs : List Int) (h1 : 1 ≤ n) (h2 : n ≤ 20) (hk : k ≤ n) {i : Nat} (hi : i < k) : 0 ≤ (setZ (n : Int) (allC n zs k) (List.replicate k (-1))).getD i 0 := by
  have hch := all_ch zs h1 h2 hk
  rw [setZ_yes hch]
  have hC0 := ChoZ.of hch
  have hC := setlZ_cho hC0
  generalize ho : setlZ n (allC n zs k) (List.replicate k (-1)) = o at hC
  have hlow := hC.low (i := i) (by rw [allC_len]; exact hi)
  apply Classical.byContradiction
  intro hneg
  have hno : outF o i = none := (hC.idle (by rw [allC_len]; exact hi)).1 (by omega)
  have hwk : wk (wsOf n (allC n zs k)) (stS (allC n zs k)) o i [] = none := by
    have := setl_idle hC0.st hC0.c (i := i) (by rw [ws_len, allC_len]; exact hi) (by rw [show setl n (wsOf n (allC n zs k)) (stS (allC n zs k)) (List.replicate k (-1)) = o from ho]; exact hno)
    rwa [show setl n (wsOf n (allC n zs k)) (stS (allC n zs k)) (List.replicate k (-1)) = o from ho] at this
  have hz := allC_get (n := n) zs hi
  have hrow : ∀ {j : Nat}, j < k → (wsOf n (allC n zs k)).getD j [] = rowA n (zs.getD j 0) j := fun {j} hj => by
    rw [ws_getD hC.all (allC_get zs hj), conA_vs]
  generalize hS : (stS (allC n zs k)).getD i 0 = S at hwk
  have hS4 : S ≤ 3 := by rw [← hS, stS_get hz]; exact (and3 _).2
  have hle : ∀ u ∈ rowA n (zs.getD i 0) i, strZ n (allC n zs k) o u ≤ S := fun u hu => by
    have := wk_none hwk u (by rw [hrow hi]; exact hu) (by simp)
    rw [hS] at this; exact this
  have hii : ∀ j, j ∈ rowA n (zs.getD j 0) j := fun j => by unfold rowA; simp
  -- who tells a variable that is no weaker
  have tell : ∀ u, u < n → strZ n (allC n zs k) o u ≤ S → ∃ j, who o u = some j ∧ j < k ∧ strZ n (allC n zs k) o j ≤ S ∧ j ≠ i := fun u hu hs => by
    cases hw : who o u with
    | none => rw [hC.none_ hw] at hs; omega
    | some j =>
      have hjk : j < k := by have := hC.lt hw; rwa [allC_len] at this
      refine ⟨j, rfl, hjk, ?_, fun e => ?_⟩
      · have h3 := strong_some (ss := stS (allC n zs k)) hC.c hw
        have h4 : strong (wsOf n (allC n zs k)) (stS (allC n zs k)) o u ≤ S := hs
        rw [h3, fold_le] at h4
        by_cases e : j = u
        · rw [e]; exact hs
        · exact h4.2 j (by rw [hrow hjk]; exact hii j) e
      · have h5 := (who_some hC.c.T).1 hw
        rw [e, hno] at h5; cases h5
  let U := (List.range n).filter fun u => decide (strZ n (allC n zs k) o u ≤ S)
  have hU : ∀ u, u ∈ U ↔ u < n ∧ strZ n (allC n zs k) o u ≤ S := fun u => by simp [U]
  have hUn : U.Nodup := List.nodup_range.filter _
  let f : Nat → Nat := fun u => (who o u).getD 0
  have hf : ∀ u ∈ U, who o u = some (f u) ∧ f u ∈ U ∧ f u ≠ i := fun u hu => by
    obtain ⟨a, b⟩ := (hU u).1 hu
    obtain ⟨j, c, d, e, g⟩ := tell u a b
    have : f u = j := by show (who o u).getD 0 = j; rw [c]; rfl
    rw [this]
    exact ⟨c, (hU j).2 ⟨by omega, e⟩, g⟩
  have hmn : (U.map f).Nodup := by
    rw [List.Nodup, List.pairwise_map]
    refine List.Pairwise.imp_of_mem ?_ hUn
    intro a b ha hb hab e
    have h3 := (who_some hC.c.T).1 (hf a ha).1
    have h4 := (who_some hC.c.T).1 (hf b hb).1
    rw [e, h4] at h3
    injection h3 with h3
    exact hab h3.symm
  have hiU : i ∈ U := (hU i).2 ⟨by omega, hle i (hii i)⟩
  have hlen := nodup_sub_len (K := U.erase i) hmn (fun x hx => by
    obtain ⟨u, hu, rfl⟩ := List.mem_map.1 hx
    exact (List.mem_erase_of_ne (hf u hu).2.2).2 (hf u hu).2.1)
  rw [List.length_map, List.length_erase_of_mem hiU] at hlen
  have := List.length_pos_of_mem hiU
  omega

theorem conA_yes {n i : Nat} {z : Int} (h : i + 1 < n ∧ andI .i64 z 4 = 4) : (conA n z i).ts = [⟨(i : Int), QR.nf ((1 : Int) : Rat)⟩, ⟨((i + 1 : Nat) : Int), QR.nf ((1 : Int) : Rat)⟩] := by
  unfold conA; rw [if_pos h]
theorem conA_no {n i : Nat} {z : Int} (h : ¬ (i + 1 < n ∧ andI .i64 z 4 = 4)) : (conA n z i).ts = [⟨(i : Int), QR.nf ((1 : Int) : Rat)⟩] := by
  unfold conA; rw [if_neg h]
theorem allC_snoc (n : Nat) (zs : List Int) (i : Nat) : allC n zs (i + 1) = allC n zs i ++ [conA n (zs.getD i 0) i] := by simp [allC, List.range_succ]
theorem allC_sm {n k : Nat} (zs : List Int) (hn : n ≤ 20) (hk : k ≤ n) : ∀ c ∈ allC n zs k, SmC 1099511627776 c := fun c hc => by
  obtain ⟨i, hi, rfl⟩ := List.mem_map.1 hc
  rw [List.mem_range] at hi
  have h1 : ∀ z : Int, z.natAbs < 4294967296 → SmQ 150 (QR.nf ((z : Int) : Rat)) := fun z hz => ⟨Nat.le_trans (nf_sm2 hz).1 (by decide), Nat.le_trans (nf_sm2 hz).2 (by decide)⟩
  have h2 : SmC 150 (conA n (zs.getD i 0) i) := by
    by_cases h : i + 1 < n ∧ andI .i64 (zs.getD i 0) 4 = 4
    · refine ⟨by rw [conA_yes h]; show 2 ≤ 150; decide, h1 _ (by omega), fun t ht => ?_⟩
      rw [conA_yes h] at ht
      rcases List.mem_cons.1 ht with rfl | ht
      · exact h1 _ (by decide)
      · rw [List.mem_singleton.1 ht]; exact h1 _ (by decide)
    · refine ⟨by rw [conA_no h]; show 1 ≤ 150; decide, h1 _ (by omega), fun t ht => ?_⟩
      rw [conA_no h] at ht
      rw [List.mem_singleton.1 ht]; exact h1 _ (by decide)
  exact h2.mono (by decide)
theorem Away.no2 {um up v : Value} (h1 : Away um v) (h2 : Away up v) : ∀ g, v.ownBlock = some g → g ∉ (ownL um ++ (ownL up ++ [])) := fun g hg hm => by
  simp only [List.mem_append, List.not_mem_nil, or_false, ownL, Option.mem_toList] at hm
  rcases hm with hm | hm
  · exact h1 g hm hg
  · exact h2 g hm hg

theorem fillK1 (v1 : Int) (T1 : Option Addr) (l1 t1 : Nat) (s1 : Bool) (A1 : Option Addr) (n1 c1 : Nat) (B1 : Option Addr) (m1 d1 : Nat) : Instr.fill (fun i => some (i * 5, 5)) ((Array.range (1 * 5)).map ((Value.agg #[.int .i64 0, .slice none 0 0, .bool false, .slice none 0 0, .slice none 0 0]).cells[· % (Value.agg #[.int .i64 0, .slice none 0 0, .bool false, .slice none 0 0, .slice none 0 0]).cells.size]!)) [(0, .agg #[.int .i64 v1, .slice T1 l1 t1, .bool s1, .slice A1 n1 c1, .slice B1 m1 d1])] = some #[.int .i64 v1, .slice T1 l1 t1, .bool s1, .slice A1 n1 c1, .slice B1 m1 d1] := by kernel_rfl
set_option maxHeartbeats 4000000 in
theorem c_DeltaAll {w : World} {vo : Value} {z0 : Int} {zs : List Int} (hO : Lay rdI [] w vo zs) :
    Ret Try.prog 5 #[.int .i64 z0, vo] w (fun r w' => r = .bool true ∧ Mod [] w w') := by
 have hbd : Bd [] w := fun m hm => by cases hm
 obtain ⟨TO, tO, rfl⟩ := hO.form
 have hmaxO := hO.max; unfold maxLen at hmaxO
 refine Ret.of (vs := [.int .i64 z0, .slice TO zs.length tO]) (n := 105) Try.func5 rfl rfl rfl rfl ?_
 have hm0 : Mod [] w w := Mod.refl _ _
 refine W.seq <| W.region <| L.v (R1.assign rfl) rfl <| L.nil <| X.seq <| W.seq <| W.seq <| W.region <| L.v (R1.move rfl) rfl <| L.v ((R1.lt rfl rfl).asB (c := (decide (z0 < 1))) (rfl)) rfl <| L.v (R1.move rfl) rfl ?_
 cases hgd15 : (decide (z0 < 1))
 ·
  try simp only [bq, ne_eq] at hgd15
  refine L.on rfl rfl rfl (R1.move rfl) rfl <| L.on rfl rfl rfl ((R1.gt rfl rfl).asB (c := (decide (20 < z0))) (rfl)) rfl <| L.v (R1.pickF rfl rfl) rfl <| L.v (R1.move rfl) rfl ?_
  cases hgd19 : (decide (20 < z0))
  ·
   try simp only [bq, ne_eq] at hgd19
   refine L.on rfl rfl rfl (R1.move rfl) rfl <| L.on rfl rfl rfl (R1.lenLay rfl hO tyS24) rfl <| L.on rfl rfl rfl (R1.move rfl) rfl <| L.on rfl rfl rfl (R1.gt rfl rfl) rfl <| L.v (R1.pickF rfl rfl) rfl <| L.nil <| X.seq <| W.cond rfl ?_ ?_
   ·
    intro hc24
    try simp only [bq, ne_eq] at hc24
    refine W.seq <| W.region <| L.v (R1.assign rfl) rfl <| L.nil <| X.seq <| W.ret <| X.thenRet <| X.result1 rfl (.tmp rfl .nil) ?_
    exact ⟨rfl, hm0⟩
   ·
    intro hc24
    try simp only [bq, ne_eq] at hc24
    obtain ⟨n, rfl⟩ : ∃ n : Nat, z0 = (n : Int) := ⟨z0.toNat, by omega⟩
    have hn1 : 1 ≤ n := by omega
    have hn20 : n ≤ 20 := by omega
    have hln : zs.length ≤ n := by omega
    refine W.skip <| X.seq <| W.seq <| W.region <| L.call rfl (c_ref2_Int (n := 1) (by decide) (by decide) hbd) rfl ?_
    rintro _ w1 ⟨⟨A25, c25, B25, e25, rfl, hn25, hd25⟩, hm1⟩
    replace hO := hO.gr hm1
    replace hbd := hbd.gr hm1
    replace hm0 := hm0.trans hm1
    clear hm1
    have F25 := Fit.int (n := 1) (by decide) (by decide)
    refine L.alloc tyZ35 rfl ?_
    intro g5 w2 hN5
    replace hO := hO.new hN5
    replace hbd := hbd.new hN5
    have hge_g5 := New.ge hN5 hm0.size
    replace hm0 := hm0.trans (hN5.mod.mono (by simp))
    replace hn25 := hn25.new hN5
    replace hd25 := hd25.new hN5
    have hb5 := hN5.blk
    clear hN5
    refine L.storeBox rfl rfl hb5 rfl rfl tyG35 ?_
    intro w3 hb5' hm3
    replace hO := hO.mod hm3 (by simp)
    replace hbd := hbd.gr hm3
    replace hm0 := hm0.old1 hm3 hge_g5
    replace hn25 := hn25.mod hm3 (by simp)
    replace hd25 := hd25.mod hm3 (by simp)
    clear hm3
    replace hb5 := hb5'; clear hb5'
    refine L.nil <| X.seq <| W.seq <| W.region <| L.v (R1.assign rfl) rfl <| L.nil <| X.seq <| W.seq <| W.region <| L.v (R1.assign rfl) rfl <| L.nil ?_
    refine X.seq <| W.seq <| W.seq <| W.region <| L.v (R1.assign rfl) rfl <| L.nil <| X.seq <| W.block <| W.loop (ι := Nat × Value × Value × List (List Value)) (fun (i, um, up, csm) => [(0, .int .i64 ((n : Nat) : Int)), (1, .slice TO zs.length tO), (5, .pointer (some ⟨g5, 0, none⟩)), (6, um), (7, up), (8, .int .i64 ((i : Nat) : Int))]) (fun (i, um, up, csm) w_ => Lay rdI (ownL um ++ (ownL up ++ [])) w_ (.slice TO zs.length tO) zs ∧ U32 (ownL um ++ (ownL up ++ [])) w_ (.slice A25 (toL (((1 : Int)) : Rat).num.natAbs).length c25) (toL (((1 : Int)) : Rat).num.natAbs) ∧ U32 (ownL um ++ (ownL up ++ [])) w_ (.slice B25 (toL (((1 : Int)) : Rat).den).length e25) (toL (((1 : Int)) : Rat).den) ∧ Blk w_ g5 35 #[.bool (decide ((((1 : Int)) : Rat).num < 0)), .slice A25 (toL (((1 : Int)) : Rat).num.natAbs).length c25, .slice B25 (toL (((1 : Int)) : Rat).den).length e25] ∧ w_.ownsRow w.heap.size 41 5 um i csm.flatten ∧ LayL rdC (ownL um ++ (ownL up ++ [])) w_ csm (allC n zs i) ∧ w_.ownsRow w.heap.size 3 1 up i (intsZ (List.replicate i (-1))) ∧ Away um up ∧ um.ownBlock ≠ some g5 ∧ up.ownBlock ≠ some g5 ∧ Bd (ownL um ++ (ownL up ++ [])) w_ ∧ Mod [] w w_ ∧ i ≤ zs.length) (fun (i, um, up, csm) => zs.length - i) (0, .slice none 0 0, .slice none 0 0, []) ?_ ?_ ?_
    · exact ⟨rfl, rfl, rfl, rfl, rfl, rfl, trivial⟩
    ·
     exact ⟨hO.sub (by intro b hb; first | exact hb | (simp only [mq] at hb; done) | (simp only [mq] at hb ⊢; grind)), hn25.sub (by intro b hb; first | exact hb | (simp only [mq] at hb; done) | (simp only [mq] at hb ⊢; grind)), hd25.sub (by intro b hb; first | exact hb | (simp only [mq] at hb; done) | (simp only [mq] at hb ⊢; grind)), hb5, own_nil _ _ _ _, LayL.nil, own_nil _ _ _ _, Away.nil _ _, by simp [Value.ownBlock], by simp [Value.ownBlock], hbd.sub (by intro b hb; first | exact hb | (simp only [mq] at hb; done) | (simp only [mq] at hb ⊢; grind)), hm0, Nat.zero_le _⟩
    ·
     rintro ⟨i, um, up, csm⟩ w4 ⟨hO, hn25, hd25, hb5, hm, hlm, hp, hawmp, hno_hm_g5, hno_hp_g5, hbd, hm0, hi⟩
     refine W.seq <| W.seq <| W.region <| L.v (R1.move rfl) rfl <| L.v (R1.move rfl) rfl <| L.v (R1.lenLay rfl hO tyS24) rfl <| L.v (R1.lt rfl rfl) rfl <| L.nil <| X.seq <| W.cond rfl ?_ ?_
     ·
      intro hc29
      try simp only [bq, ne_eq] at hc29
      refine W.skip <| X.seq <| W.seq <| W.block <| W.seq <| W.cut (ι := Nat × Option Addr × Nat × Option Addr × Nat × Option Addr × Nat) (fun (g9, TT, cT, A43, c43, B43, e43) => [(0, .int .i64 ((n : Nat) : Int)), (1, .slice TO zs.length tO), (5, .pointer (some ⟨g5, 0, none⟩)), (6, um), (7, up), (8, .int .i64 ((i : Nat) : Int)), (9, .pointer (some ⟨g9, 0, none⟩))]) (fun (g9, TT, cT, A43, c43, B43, e43) w_ => Lay rdI (g9 :: (ownL (.slice TT 1 cT) ++ (ownL um ++ (ownL up ++ [])))) w_ (.slice TO zs.length tO) zs ∧ U32 (g9 :: (ownL (.slice TT 1 cT) ++ (ownL um ++ (ownL up ++ [])))) w_ (.slice A25 (toL (((1 : Int)) : Rat).num.natAbs).length c25) (toL (((1 : Int)) : Rat).num.natAbs) ∧ U32 (g9 :: (ownL (.slice TT 1 cT) ++ (ownL um ++ (ownL up ++ [])))) w_ (.slice B25 (toL (((1 : Int)) : Rat).den).length e25) (toL (((1 : Int)) : Rat).den) ∧ Blk w_ g5 35 #[.bool (decide ((((1 : Int)) : Rat).num < 0)), .slice A25 (toL (((1 : Int)) : Rat).num.natAbs).length c25, .slice B25 (toL (((1 : Int)) : Rat).den).length e25] ∧ w_.ownsRow w.heap.size 41 5 um i csm.flatten ∧ LayL rdC (g9 :: (ownL (.slice TT 1 cT) ++ (ownL um ++ (ownL up ++ [])))) w_ csm (allC n zs i) ∧ w_.ownsRow w.heap.size 3 1 up i (intsZ (List.replicate i (-1))) ∧ Away um up ∧ um.ownBlock ≠ some g5 ∧ up.ownBlock ≠ some g5 ∧ Bd (g9 :: (ownL (.slice TT 1 cT) ++ (ownL um ++ (ownL up ++ [])))) w_ ∧ Mod [] w w_ ∧ Blk w_ g9 41 #[.int .i64 (andI .i64 (zs.getD i 0) 3), (.slice TT 1 cT), .bool (decide ((((-(i : Int) : Int)) : Rat).num < 0)), .slice A43 (toL (((-(i : Int) : Int)) : Rat).num.natAbs).length c43, .slice B43 (toL (((-(i : Int) : Int)) : Rat).den).length e43] ∧ U32 (g9 :: (ownL (.slice TT 1 cT) ++ (ownL um ++ (ownL up ++ [])))) w_ (.slice A43 (toL (((-(i : Int) : Int)) : Rat).num.natAbs).length c43) (toL (((-(i : Int) : Int)) : Rat).num.natAbs) ∧ U32 (g9 :: (ownL (.slice TT 1 cT) ++ (ownL um ++ (ownL up ++ [])))) w_ (.slice B43 (toL (((-(i : Int) : Int)) : Rat).den).length e43) (toL (((-(i : Int) : Int)) : Rat).den) ∧ w_.ownsRow w.heap.size 38 4 (.slice TT 1 cT) 1 [.int .i64 ((i : Nat) : Int), .bool (decide ((((1 : Int)) : Rat).num < 0)), .slice A25 (toL (((1 : Int)) : Rat).num.natAbs).length c25, .slice B25 (toL (((1 : Int)) : Rat).den).length e25] ∧ Away um (.slice TT 1 cT) ∧ Away up (.slice TT 1 cT) ∧ g5 ≠ g9 ∧ Value.ownBlock (.slice TT 1 cT) ≠ some g5 ∧ Value.ownBlock (.slice TT 1 cT) ≠ some g9 ∧ um.ownBlock ≠ some g9 ∧ up.ownBlock ≠ some g9 ∧ w.heap.size ≤ g9) ?_ ?_
      ·
       refine W.drawW (T := [14]) rfl (by decide +kernel) (NoHang.join (NoHang.then (NoHang.block (NoHang.then (NoHang.next (NoHang.block (NoHang.then NoHang.post))))))) (fun w5 hm5 => ?_)
       replace hO := hO.gr hm5
       replace hn25 := hn25.gr hm5
       replace hd25 := hd25.gr hm5
       replace hb5 := Blk.gr hb5 hm5
       replace hm := own_gr hm hm5 (by simp)
       replace hlm := hlm.gr hm5
       replace hp := own_gr hp hm5 (by simp)
       replace hbd := hbd.gr hm5
       replace hm0 := hm0.trans hm5
       have hS1 : Mod [] w5 w5 := Mod.refl _ _
       clear hm5
       have hb5_s := hb5
       refine D.take 0 rfl (by decide +kernel) (fun w_ hS => (R1.move rfl)) hS1 rfl <| D.take 1 rfl (by decide +kernel) (fun w_ hS => (R1.move rfl)) hS1 rfl <| D.take 2 rfl (by decide +kernel) (fun w_ hS => (R1.atLay (j := i) rfl rfl (Lay.gr hO hS) tyS24 rfl (by omega))) hS1 rfl <| D.take 3 rfl (by decide +kernel) (fun w_ hS => (R1.loadLI rfl (Lay.gr hO hS) tyP3 (by omega) (getD_at _))) hS1 rfl <| D.take 4 rfl (by decide +kernel) (fun w_ hS => (R1.and rfl rfl)) hS1 rfl <| D.take 5 rfl (by decide +kernel) (fun w_ hS => (R1.move rfl)) hS1 rfl <| D.take 6 rfl (by decide +kernel) (fun w_ hS => (R1.loadBox rfl (Blk.gr hb5_s hS) tyG35)) hS1 rfl <| D.take 7 rfl (by decide +kernel) (fun w_ hS => (R1.build (vs := [.int .i64 ((i : Nat) : Int), .agg #[.bool (decide ((((1 : Int)) : Rat).num < 0)), .slice A25 (toL (((1 : Int)) : Rat).num.natAbs).length c25, .slice B25 (toL (((1 : Int)) : Rat).den).length e25]]) rfl (built_T01 _ _ _ _ _ _ _ _))) hS1 rfl <| D.take 9 rfl (by decide +kernel) (fun w_ hS => (R1.move rfl)) hS1 rfl <| D.take 10 rfl (by decide +kernel) (fun w_ hS => ((R1.neg rfl).as (wrap_i64 (by omega) (by omega)))) hS1 rfl <| D.many (rs := [8, 11, 13]) (by decide +kernel) rfl ?_
       intro i_ hi_
       simp only [List.mem_cons, List.not_mem_nil, or_false] at hi_
       rcases hi_ with rfl | rfl | rfl
       ·
        refine ⟨_, rfl, fun hX => ?_⟩
        refine L.buildSlice (cells := [.int .i64 ((i : Nat) : Int), .bool (decide ((((1 : Int)) : Rat).num < 0)), .slice A25 (toL (((1 : Int)) : Rat).num.natAbs).length c25, .slice B25 (toL (((1 : Int)) : Rat).den).length e25]) rfl tyS39 tyZ38 (fillN1 _ _ _ _ _ _ _ _) (by decide) (by decide) rfl ?_
        intro g40 w6 hN40
        have hgs_g40 := New.ge hN40 hS1.size
        replace hS1 := hS1.trans hN40.mod
        have hT : World.ownsRow w6 w.heap.size 38 4 (.slice (some ⟨g40, 0, none⟩) 1 1) 1 [.int .i64 ((i : Nat) : Int), .bool (decide ((((1 : Int)) : Rat).num < 0)), .slice A25 (toL (((1 : Int)) : Rat).num.natAbs).length c25, .slice B25 (toL (((1 : Int)) : Rat).den).length e25] := own_lit hN40.blk (New.ge hN40 hm0.size) rfl
        replace hO := hO.new hN40
        replace hn25 := hn25.new hN40
        replace hd25 := hd25.new hN40
        have hno_hT_g5 : (Value.slice (some ⟨g40, 0, none⟩) 1 1).ownBlock ≠ some g5 := own_ne_new' (hb5.ne_ hN40)
        replace hb5 := Blk.gr hb5 hN40.mod
        have haw_hm_hT : Away _ (.slice (some ⟨g40, 0, none⟩) 1 1) := own_away_new hm hN40
        replace hm := own_gr hm hN40.mod (by simp)
        replace hlm := hlm.new hN40
        have haw_hp_hT : Away _ (.slice (some ⟨g40, 0, none⟩) 1 1) := own_away_new hp hN40
        replace hp := own_gr hp hN40.mod (by simp)
        replace hbd := hbd.new hN40
        replace hm0 := hm0.trans (hN40.mod.mono (by simp))
        clear hN40
        obtain ⟨vT, hv_vT⟩ : ∃ v, v = Value.slice (some ⟨g40, 0, none⟩) 1 1 := ⟨_, rfl⟩
        have hol_vT : ownL vT = [g40] := by rw [hv_vT]; rfl
        have hgs_vT : ∀ g, vT.ownBlock = some g → _ ≤ g := fun g h9 => by rw [hv_vT] at h9; simp only [Value.ownBlock, Option.some.injEq] at h9; subst h9; exact hgs_g40
        rw [← hv_vT] at hT ⊢
        replace hO := hO.sub (of_cons hol_vT)
        replace hn25 := hn25.sub (of_cons hol_vT)
        replace hd25 := hd25.sub (of_cons hol_vT)
        rw [← hv_vT] at hno_hT_g5
        rw [← hv_vT] at haw_hm_hT
        replace hlm := hlm.sub (of_cons hol_vT)
        rw [← hv_vT] at haw_hp_hT
        replace hbd := hbd.sub (of_cons hol_vT)
        clear hv_vT hol_vT
        refine L.nil (hX _ _ ⟨.inr hS1, ?_⟩)
        refine D.many (rs := [11, 13]) (by decide +kernel) rfl ?_
        intro i_ hi_
        simp only [List.mem_cons, List.not_mem_nil, or_false] at hi_
        rcases hi_ with rfl | rfl
        ·
         refine ⟨_, rfl, fun hX => ?_⟩
         refine L.call rfl (c_ref2_Int (n := -(i : Int)) (by omega) (by omega) hbd) rfl ?_
         rintro _ w7 ⟨⟨A43, c43, B43, e43, rfl, hn43, hd43⟩, hm7⟩
         replace hO := hO.gr hm7
         replace hn25 := hn25.gr hm7
         replace hd25 := hd25.gr hm7
         replace hb5 := Blk.gr hb5 hm7
         replace hm := own_gr hm hm7 (by simp)
         replace hlm := hlm.gr hm7
         replace hp := own_gr hp hm7 (by simp)
         replace hbd := hbd.gr hm7
         replace hm0 := hm0.trans hm7
         replace hT := own_gr hT hm7 (by simp)
         replace hS1 := hS1.trans hm7
         clear hm7
         have F43 := Fit.int (n := -(i : Int)) (by omega) (by omega)
         refine L.nil (hX _ _ ⟨.inr hS1, ?_⟩)
         obtain ⟨TT, cT, rfl⟩ := own_form hT
         refine D.take 12 rfl (by decide +kernel) (fun w_ hS => (R1.build (vs := [.int .i64 (andI .i64 (zs.getD i 0) 3), (.slice TT 1 cT), .agg #[.bool (decide ((((-(i : Int) : Int)) : Rat).num < 0)), .slice A43 (toL (((-(i : Int) : Int)) : Rat).num.natAbs).length c43, .slice B43 (toL (((-(i : Int) : Int)) : Rat).den).length e43]]) rfl (built_C012 _ _ _ _ _ _ _ _ _ _ _))) hS1 rfl <| D.one 13 rfl (by decide +kernel) (fun hX => ?_)
         refine L.alloc tyZ41 rfl ?_
         intro g9 w8 hN9
         replace hS1 := hS1.trans hN9.mod
         replace hO := hO.new hN9
         replace hn25 := hn25.new hN9
         replace hd25 := hd25.new hN9
         have hne_g5_g9 := hb5.ne_ hN9
         replace hb5 := Blk.gr hb5 hN9.mod
         have hno_hm_g9 := own_ne_new hm hN9
         replace hm := own_gr hm hN9.mod (by simp)
         replace hlm := hlm.new hN9
         have hno_hp_g9 := own_ne_new hp hN9
         replace hp := own_gr hp hN9.mod (by simp)
         replace hbd := hbd.new hN9
         have hge_g9 := New.ge hN9 hm0.size
         replace hm0 := hm0.trans (hN9.mod.mono (by simp))
         have hno_hT_g9 := own_ne_new hT hN9
         replace hT := own_gr hT hN9.mod (by simp)
         replace hn43 := hn43.new hN9
         replace hd43 := hd43.new hN9
         have hb9 := hN9.blk
         clear hN9
         refine L.nil (hX _ _ ⟨.inr hS1, ?_⟩)
         refine D.one 14 rfl (by decide +kernel) (fun hX => ?_)
         refine L.storeBox rfl rfl hb9 rfl rfl tyG41 ?_
         intro w9 hb9' hm9
         replace hO := hO.mod hm9 (by simp)
         replace hn25 := hn25.mod hm9 (by simp)
         replace hd25 := hd25.mod hm9 (by simp)
         replace hb5 := Blk.far hb5 hm9 (by first | exact hne_g5_g9 | exact (hne_g9_g5).symm)
         replace hm := own_far hm hm9 hno_hm_g9
         replace hlm := hlm.mod hm9 (by simp)
         replace hp := own_far hp hm9 hno_hp_g9
         replace hbd := hbd.gr hm9
         replace hm0 := hm0.old1 hm9 hge_g9
         replace hT := own_far hT hm9 hno_hT_g9
         replace hn43 := hn43.mod hm9 (by simp)
         replace hd43 := hd43.mod hm9 (by simp)
         clear hm9
         replace hb9 := hb9'; clear hb9'
         refine L.nil (hX _ _ ⟨.inl rfl, ?_⟩)
         refine D.done (by decide +kernel) ?_ _
         refine X.join (g9, TT, cT, A43, c43, B43, e43) ?_ ?_
         · exact ⟨rfl, rfl, rfl, rfl, rfl, rfl, rfl, trivial⟩
         ·
          exact ⟨hO.sub (by intro b hb; first | exact hb | (simp only [mq] at hb ⊢; grind)), hn25.sub (by intro b hb; first | exact hb | (simp only [mq] at hb ⊢; grind)), hd25.sub (by intro b hb; first | exact hb | (simp only [mq] at hb ⊢; grind)), hb5, hm, hlm.sub (by intro b hb; first | exact hb | (simp only [mq] at hb ⊢; grind)), hp, hawmp, hno_hm_g5, hno_hp_g5, hbd.sub (by intro b hb; first | exact hb | (simp only [mq] at hb ⊢; grind)), hm0, hb9, hn43.sub (by intro b hb; first | exact hb | (simp only [mq] at hb ⊢; grind)), hd43.sub (by intro b hb; first | exact hb | (simp only [mq] at hb ⊢; grind)), hT, haw_hm_hT, haw_hp_hT, hne_g5_g9, hno_hT_g5, hno_hT_g9, hno_hm_g9, hno_hp_g9, hge_g9⟩
        ·
         refine ⟨_, rfl, fun hX => ?_⟩
         refine L.alloc tyZ41 rfl ?_
         intro g9 w10 hN9
         replace hS1 := hS1.trans hN9.mod
         replace hO := hO.new hN9
         replace hn25 := hn25.new hN9
         replace hd25 := hd25.new hN9
         have hne_g5_g9 := hb5.ne_ hN9
         replace hb5 := Blk.gr hb5 hN9.mod
         have hno_hm_g9 := own_ne_new hm hN9
         replace hm := own_gr hm hN9.mod (by simp)
         replace hlm := hlm.new hN9
         have hno_hp_g9 := own_ne_new hp hN9
         replace hp := own_gr hp hN9.mod (by simp)
         replace hbd := hbd.new hN9
         have hge_g9 := New.ge hN9 hm0.size
         replace hm0 := hm0.trans (hN9.mod.mono (by simp))
         have hno_hT_g9 := own_ne_new hT hN9
         replace hT := own_gr hT hN9.mod (by simp)
         have hb9 := hN9.blk
         clear hN9
         refine L.nil (hX _ _ ⟨.inr hS1, ?_⟩)
         refine D.one 11 rfl (by decide +kernel) (fun hX => ?_)
         refine L.call rfl (c_ref2_Int (n := -(i : Int)) (by omega) (by omega) hbd) rfl ?_
         rintro _ w11 ⟨⟨A43, c43, B43, e43, rfl, hn43, hd43⟩, hm11⟩
         replace hO := hO.gr hm11
         replace hn25 := hn25.gr hm11
         replace hd25 := hd25.gr hm11
         replace hb5 := Blk.gr hb5 hm11
         replace hm := own_gr hm hm11 (by simp)
         replace hlm := hlm.gr hm11
         replace hp := own_gr hp hm11 (by simp)
         replace hbd := hbd.gr hm11
         replace hm0 := hm0.trans hm11
         replace hT := own_gr hT hm11 (by simp)
         replace hb9 := Blk.gr hb9 hm11
         replace hS1 := hS1.trans hm11
         clear hm11
         have F43 := Fit.int (n := -(i : Int)) (by omega) (by omega)
         refine L.nil (hX _ _ ⟨.inr hS1, ?_⟩)
         obtain ⟨TT, cT, rfl⟩ := own_form hT
         refine D.take 12 rfl (by decide +kernel) (fun w_ hS => (R1.build (vs := [.int .i64 (andI .i64 (zs.getD i 0) 3), (.slice TT 1 cT), .agg #[.bool (decide ((((-(i : Int) : Int)) : Rat).num < 0)), .slice A43 (toL (((-(i : Int) : Int)) : Rat).num.natAbs).length c43, .slice B43 (toL (((-(i : Int) : Int)) : Rat).den).length e43]]) rfl (built_C012 _ _ _ _ _ _ _ _ _ _ _))) hS1 rfl <| D.one 14 rfl (by decide +kernel) (fun hX => ?_)
         refine L.storeBox rfl rfl hb9 rfl rfl tyG41 ?_
         intro w12 hb9' hm12
         replace hO := hO.mod hm12 (by simp)
         replace hn25 := hn25.mod hm12 (by simp)
         replace hd25 := hd25.mod hm12 (by simp)
         replace hb5 := Blk.far hb5 hm12 (by first | exact hne_g5_g9 | exact (hne_g9_g5).symm)
         replace hm := own_far hm hm12 hno_hm_g9
         replace hlm := hlm.mod hm12 (by simp)
         replace hp := own_far hp hm12 hno_hp_g9
         replace hbd := hbd.gr hm12
         replace hm0 := hm0.old1 hm12 hge_g9
         replace hT := own_far hT hm12 hno_hT_g9
         replace hn43 := hn43.mod hm12 (by simp)
         replace hd43 := hd43.mod hm12 (by simp)
         clear hm12
         replace hb9 := hb9'; clear hb9'
         refine L.nil (hX _ _ ⟨.inl rfl, ?_⟩)
         refine D.done (by decide +kernel) ?_ _
         refine X.join (g9, TT, cT, A43, c43, B43, e43) ?_ ?_
         · exact ⟨rfl, rfl, rfl, rfl, rfl, rfl, rfl, trivial⟩
         ·
          exact ⟨hO.sub (by intro b hb; first | exact hb | (simp only [mq] at hb ⊢; grind)), hn25.sub (by intro b hb; first | exact hb | (simp only [mq] at hb ⊢; grind)), hd25.sub (by intro b hb; first | exact hb | (simp only [mq] at hb ⊢; grind)), hb5, hm, hlm.sub (by intro b hb; first | exact hb | (simp only [mq] at hb ⊢; grind)), hp, hawmp, hno_hm_g5, hno_hp_g5, hbd.sub (by intro b hb; first | exact hb | (simp only [mq] at hb ⊢; grind)), hm0, hb9, hn43.sub (by intro b hb; first | exact hb | (simp only [mq] at hb ⊢; grind)), hd43.sub (by intro b hb; first | exact hb | (simp only [mq] at hb ⊢; grind)), hT, haw_hm_hT, haw_hp_hT, hne_g5_g9, hno_hT_g5, hno_hT_g9, hno_hm_g9, hno_hp_g9, hge_g9⟩
       ·
        refine ⟨_, rfl, fun hX => ?_⟩
        refine L.call rfl (c_ref2_Int (n := -(i : Int)) (by omega) (by omega) hbd) rfl ?_
        rintro _ w13 ⟨⟨A43, c43, B43, e43, rfl, hn43, hd43⟩, hm13⟩
        replace hO := hO.gr hm13
        replace hn25 := hn25.gr hm13
        replace hd25 := hd25.gr hm13
        replace hb5 := Blk.gr hb5 hm13
        replace hm := own_gr hm hm13 (by simp)
        replace hlm := hlm.gr hm13
        replace hp := own_gr hp hm13 (by simp)
        replace hbd := hbd.gr hm13
        replace hm0 := hm0.trans hm13
        replace hS1 := hS1.trans hm13
        clear hm13
        have F43 := Fit.int (n := -(i : Int)) (by omega) (by omega)
        refine L.nil (hX _ _ ⟨.inr hS1, ?_⟩)
        refine D.many (rs := [8, 13]) (by decide +kernel) rfl ?_
        intro i_ hi_
        simp only [List.mem_cons, List.not_mem_nil, or_false] at hi_
        rcases hi_ with rfl | rfl
        ·
         refine ⟨_, rfl, fun hX => ?_⟩
         refine L.buildSlice (cells := [.int .i64 ((i : Nat) : Int), .bool (decide ((((1 : Int)) : Rat).num < 0)), .slice A25 (toL (((1 : Int)) : Rat).num.natAbs).length c25, .slice B25 (toL (((1 : Int)) : Rat).den).length e25]) rfl tyS39 tyZ38 (fillN1 _ _ _ _ _ _ _ _) (by decide) (by decide) rfl ?_
         intro g40 w14 hN40
         have hgs_g40 := New.ge hN40 hS1.size
         replace hS1 := hS1.trans hN40.mod
         have hT : World.ownsRow w14 w.heap.size 38 4 (.slice (some ⟨g40, 0, none⟩) 1 1) 1 [.int .i64 ((i : Nat) : Int), .bool (decide ((((1 : Int)) : Rat).num < 0)), .slice A25 (toL (((1 : Int)) : Rat).num.natAbs).length c25, .slice B25 (toL (((1 : Int)) : Rat).den).length e25] := own_lit hN40.blk (New.ge hN40 hm0.size) rfl
         replace hO := hO.new hN40
         replace hn25 := hn25.new hN40
         replace hd25 := hd25.new hN40
         have hno_hT_g5 : (Value.slice (some ⟨g40, 0, none⟩) 1 1).ownBlock ≠ some g5 := own_ne_new' (hb5.ne_ hN40)
         replace hb5 := Blk.gr hb5 hN40.mod
         have haw_hm_hT : Away _ (.slice (some ⟨g40, 0, none⟩) 1 1) := own_away_new hm hN40
         replace hm := own_gr hm hN40.mod (by simp)
         replace hlm := hlm.new hN40
         have haw_hp_hT : Away _ (.slice (some ⟨g40, 0, none⟩) 1 1) := own_away_new hp hN40
         replace hp := own_gr hp hN40.mod (by simp)
         replace hbd := hbd.new hN40
         replace hm0 := hm0.trans (hN40.mod.mono (by simp))
         replace hn43 := hn43.new hN40
         replace hd43 := hd43.new hN40
         clear hN40
         obtain ⟨vT, hv_vT⟩ : ∃ v, v = Value.slice (some ⟨g40, 0, none⟩) 1 1 := ⟨_, rfl⟩
         have hol_vT : ownL vT = [g40] := by rw [hv_vT]; rfl
         have hgs_vT : ∀ g, vT.ownBlock = some g → _ ≤ g := fun g h9 => by rw [hv_vT] at h9; simp only [Value.ownBlock, Option.some.injEq] at h9; subst h9; exact hgs_g40
         rw [← hv_vT] at hT ⊢
         replace hO := hO.sub (of_cons hol_vT)
         replace hn25 := hn25.sub (of_cons hol_vT)
         replace hd25 := hd25.sub (of_cons hol_vT)
         rw [← hv_vT] at hno_hT_g5
         rw [← hv_vT] at haw_hm_hT
         replace hlm := hlm.sub (of_cons hol_vT)
         rw [← hv_vT] at haw_hp_hT
         replace hbd := hbd.sub (of_cons hol_vT)
         replace hn43 := hn43.sub (of_cons hol_vT)
         replace hd43 := hd43.sub (of_cons hol_vT)
         clear hv_vT hol_vT
         refine L.nil (hX _ _ ⟨.inr hS1, ?_⟩)
         obtain ⟨TT, cT, rfl⟩ := own_form hT
         refine D.take 12 rfl (by decide +kernel) (fun w_ hS => (R1.build (vs := [.int .i64 (andI .i64 (zs.getD i 0) 3), (.slice TT 1 cT), .agg #[.bool (decide ((((-(i : Int) : Int)) : Rat).num < 0)), .slice A43 (toL (((-(i : Int) : Int)) : Rat).num.natAbs).length c43, .slice B43 (toL (((-(i : Int) : Int)) : Rat).den).length e43]]) rfl (built_C012 _ _ _ _ _ _ _ _ _ _ _))) hS1 rfl <| D.one 13 rfl (by decide +kernel) (fun hX => ?_)
         refine L.alloc tyZ41 rfl ?_
         intro g9 w15 hN9
         replace hS1 := hS1.trans hN9.mod
         replace hO := hO.new hN9
         replace hn25 := hn25.new hN9
         replace hd25 := hd25.new hN9
         have hne_g5_g9 := hb5.ne_ hN9
         replace hb5 := Blk.gr hb5 hN9.mod
         have hno_hm_g9 := own_ne_new hm hN9
         replace hm := own_gr hm hN9.mod (by simp)
         replace hlm := hlm.new hN9
         have hno_hp_g9 := own_ne_new hp hN9
         replace hp := own_gr hp hN9.mod (by simp)
         replace hbd := hbd.new hN9
         have hge_g9 := New.ge hN9 hm0.size
         replace hm0 := hm0.trans (hN9.mod.mono (by simp))
         replace hn43 := hn43.new hN9
         replace hd43 := hd43.new hN9
         have hno_hT_g9 := own_ne_new hT hN9
         replace hT := own_gr hT hN9.mod (by simp)
         have hb9 := hN9.blk
         clear hN9
         refine L.nil (hX _ _ ⟨.inr hS1, ?_⟩)
         refine D.one 14 rfl (by decide +kernel) (fun hX => ?_)
         refine L.storeBox rfl rfl hb9 rfl rfl tyG41 ?_
         intro w16 hb9' hm16
         replace hO := hO.mod hm16 (by simp)
         replace hn25 := hn25.mod hm16 (by simp)
         replace hd25 := hd25.mod hm16 (by simp)
         replace hb5 := Blk.far hb5 hm16 (by first | exact hne_g5_g9 | exact (hne_g9_g5).symm)
         replace hm := own_far hm hm16 hno_hm_g9
         replace hlm := hlm.mod hm16 (by simp)
         replace hp := own_far hp hm16 hno_hp_g9
         replace hbd := hbd.gr hm16
         replace hm0 := hm0.old1 hm16 hge_g9
         replace hn43 := hn43.mod hm16 (by simp)
         replace hd43 := hd43.mod hm16 (by simp)
         replace hT := own_far hT hm16 hno_hT_g9
         clear hm16
         replace hb9 := hb9'; clear hb9'
         refine L.nil (hX _ _ ⟨.inl rfl, ?_⟩)
         refine D.done (by decide +kernel) ?_ _
         refine X.join (g9, TT, cT, A43, c43, B43, e43) ?_ ?_
         · exact ⟨rfl, rfl, rfl, rfl, rfl, rfl, rfl, trivial⟩
         ·
          exact ⟨hO.sub (by intro b hb; first | exact hb | (simp only [mq] at hb ⊢; grind)), hn25.sub (by intro b hb; first | exact hb | (simp only [mq] at hb ⊢; grind)), hd25.sub (by intro b hb; first | exact hb | (simp only [mq] at hb ⊢; grind)), hb5, hm, hlm.sub (by intro b hb; first | exact hb | (simp only [mq] at hb ⊢; grind)), hp, hawmp, hno_hm_g5, hno_hp_g5, hbd.sub (by intro b hb; first | exact hb | (simp only [mq] at hb ⊢; grind)), hm0, hb9, hn43.sub (by intro b hb; first | exact hb | (simp only [mq] at hb ⊢; grind)), hd43.sub (by intro b hb; first | exact hb | (simp only [mq] at hb ⊢; grind)), hT, haw_hm_hT, haw_hp_hT, hne_g5_g9, hno_hT_g5, hno_hT_g9, hno_hm_g9, hno_hp_g9, hge_g9⟩
        ·
         refine ⟨_, rfl, fun hX => ?_⟩
         refine L.alloc tyZ41 rfl ?_
         intro g9 w17 hN9
         replace hS1 := hS1.trans hN9.mod
         replace hO := hO.new hN9
         replace hn25 := hn25.new hN9
         replace hd25 := hd25.new hN9
         have hne_g5_g9 := hb5.ne_ hN9
         replace hb5 := Blk.gr hb5 hN9.mod
         have hno_hm_g9 := own_ne_new hm hN9
         replace hm := own_gr hm hN9.mod (by simp)
         replace hlm := hlm.new hN9
         have hno_hp_g9 := own_ne_new hp hN9
         replace hp := own_gr hp hN9.mod (by simp)
         replace hbd := hbd.new hN9
         have hge_g9 := New.ge hN9 hm0.size
         replace hm0 := hm0.trans (hN9.mod.mono (by simp))
         replace hn43 := hn43.new hN9
         replace hd43 := hd43.new hN9
         have hb9 := hN9.blk
         clear hN9
         refine L.nil (hX _ _ ⟨.inr hS1, ?_⟩)
         refine D.one 8 rfl (by decide +kernel) (fun hX => ?_)
         refine L.buildSlice (cells := [.int .i64 ((i : Nat) : Int), .bool (decide ((((1 : Int)) : Rat).num < 0)), .slice A25 (toL (((1 : Int)) : Rat).num.natAbs).length c25, .slice B25 (toL (((1 : Int)) : Rat).den).length e25]) rfl tyS39 tyZ38 (fillN1 _ _ _ _ _ _ _ _) (by decide) (by decide) rfl ?_
         intro g40 w18 hN40
         have hgs_g40 := New.ge hN40 hS1.size
         replace hS1 := hS1.trans hN40.mod
         have hT : World.ownsRow w18 w.heap.size 38 4 (.slice (some ⟨g40, 0, none⟩) 1 1) 1 [.int .i64 ((i : Nat) : Int), .bool (decide ((((1 : Int)) : Rat).num < 0)), .slice A25 (toL (((1 : Int)) : Rat).num.natAbs).length c25, .slice B25 (toL (((1 : Int)) : Rat).den).length e25] := own_lit hN40.blk (New.ge hN40 hm0.size) rfl
         replace hO := hO.new hN40
         replace hn25 := hn25.new hN40
         replace hd25 := hd25.new hN40
         have hno_hT_g5 : (Value.slice (some ⟨g40, 0, none⟩) 1 1).ownBlock ≠ some g5 := own_ne_new' (hb5.ne_ hN40)
         replace hb5 := Blk.gr hb5 hN40.mod
         have haw_hm_hT : Away _ (.slice (some ⟨g40, 0, none⟩) 1 1) := own_away_new hm hN40
         replace hm := own_gr hm hN40.mod (by simp)
         replace hlm := hlm.new hN40
         have haw_hp_hT : Away _ (.slice (some ⟨g40, 0, none⟩) 1 1) := own_away_new hp hN40
         replace hp := own_gr hp hN40.mod (by simp)
         replace hbd := hbd.new hN40
         replace hm0 := hm0.trans (hN40.mod.mono (by simp))
         replace hn43 := hn43.new hN40
         replace hd43 := hd43.new hN40
         have hno_hT_g9 : (Value.slice (some ⟨g40, 0, none⟩) 1 1).ownBlock ≠ some g9 := own_ne_new' (hb9.ne_ hN40)
         replace hb9 := Blk.gr hb9 hN40.mod
         clear hN40
         obtain ⟨vT, hv_vT⟩ : ∃ v, v = Value.slice (some ⟨g40, 0, none⟩) 1 1 := ⟨_, rfl⟩
         have hol_vT : ownL vT = [g40] := by rw [hv_vT]; rfl
         have hgs_vT : ∀ g, vT.ownBlock = some g → _ ≤ g := fun g h9 => by rw [hv_vT] at h9; simp only [Value.ownBlock, Option.some.injEq] at h9; subst h9; exact hgs_g40
         rw [← hv_vT] at hT ⊢
         replace hO := hO.sub (of_cons hol_vT)
         replace hn25 := hn25.sub (of_cons hol_vT)
         replace hd25 := hd25.sub (of_cons hol_vT)
         rw [← hv_vT] at hno_hT_g5
         rw [← hv_vT] at haw_hm_hT
         replace hlm := hlm.sub (of_cons hol_vT)
         rw [← hv_vT] at haw_hp_hT
         replace hbd := hbd.sub (of_cons hol_vT)
         replace hn43 := hn43.sub (of_cons hol_vT)
         replace hd43 := hd43.sub (of_cons hol_vT)
         rw [← hv_vT] at hno_hT_g9
         clear hv_vT hol_vT
         refine L.nil (hX _ _ ⟨.inr hS1, ?_⟩)
         obtain ⟨TT, cT, rfl⟩ := own_form hT
         refine D.take 12 rfl (by decide +kernel) (fun w_ hS => (R1.build (vs := [.int .i64 (andI .i64 (zs.getD i 0) 3), (.slice TT 1 cT), .agg #[.bool (decide ((((-(i : Int) : Int)) : Rat).num < 0)), .slice A43 (toL (((-(i : Int) : Int)) : Rat).num.natAbs).length c43, .slice B43 (toL (((-(i : Int) : Int)) : Rat).den).length e43]]) rfl (built_C012 _ _ _ _ _ _ _ _ _ _ _))) hS1 rfl <| D.one 14 rfl (by decide +kernel) (fun hX => ?_)
         refine L.storeBox rfl rfl hb9 rfl rfl tyG41 ?_
         intro w19 hb9' hm19
         replace hO := hO.mod hm19 (by simp)
         replace hn25 := hn25.mod hm19 (by simp)
         replace hd25 := hd25.mod hm19 (by simp)
         replace hb5 := Blk.far hb5 hm19 (by first | exact hne_g5_g9 | exact (hne_g9_g5).symm)
         replace hm := own_far hm hm19 hno_hm_g9
         replace hlm := hlm.mod hm19 (by simp)
         replace hp := own_far hp hm19 hno_hp_g9
         replace hbd := hbd.gr hm19
         replace hm0 := hm0.old1 hm19 hge_g9
         replace hn43 := hn43.mod hm19 (by simp)
         replace hd43 := hd43.mod hm19 (by simp)
         replace hT := own_far hT hm19 hno_hT_g9
         clear hm19
         replace hb9 := hb9'; clear hb9'
         refine L.nil (hX _ _ ⟨.inl rfl, ?_⟩)
         refine D.done (by decide +kernel) ?_ _
         refine X.join (g9, TT, cT, A43, c43, B43, e43) ?_ ?_
         · exact ⟨rfl, rfl, rfl, rfl, rfl, rfl, rfl, trivial⟩
         ·
          exact ⟨hO.sub (by intro b hb; first | exact hb | (simp only [mq] at hb ⊢; grind)), hn25.sub (by intro b hb; first | exact hb | (simp only [mq] at hb ⊢; grind)), hd25.sub (by intro b hb; first | exact hb | (simp only [mq] at hb ⊢; grind)), hb5, hm, hlm.sub (by intro b hb; first | exact hb | (simp only [mq] at hb ⊢; grind)), hp, hawmp, hno_hm_g5, hno_hp_g5, hbd.sub (by intro b hb; first | exact hb | (simp only [mq] at hb ⊢; grind)), hm0, hb9, hn43.sub (by intro b hb; first | exact hb | (simp only [mq] at hb ⊢; grind)), hd43.sub (by intro b hb; first | exact hb | (simp only [mq] at hb ⊢; grind)), hT, haw_hm_hT, haw_hp_hT, hne_g5_g9, hno_hT_g5, hno_hT_g9, hno_hm_g9, hno_hp_g9, hge_g9⟩
       ·
        refine ⟨_, rfl, fun hX => ?_⟩
        refine L.alloc tyZ41 rfl ?_
        intro g9 w20 hN9
        replace hS1 := hS1.trans hN9.mod
        replace hO := hO.new hN9
        replace hn25 := hn25.new hN9
        replace hd25 := hd25.new hN9
        have hne_g5_g9 := hb5.ne_ hN9
        replace hb5 := Blk.gr hb5 hN9.mod
        have hno_hm_g9 := own_ne_new hm hN9
        replace hm := own_gr hm hN9.mod (by simp)
        replace hlm := hlm.new hN9
        have hno_hp_g9 := own_ne_new hp hN9
        replace hp := own_gr hp hN9.mod (by simp)
        replace hbd := hbd.new hN9
        have hge_g9 := New.ge hN9 hm0.size
        replace hm0 := hm0.trans (hN9.mod.mono (by simp))
        have hb9 := hN9.blk
        clear hN9
        refine L.nil (hX _ _ ⟨.inr hS1, ?_⟩)
        refine D.many (rs := [8, 11]) (by decide +kernel) rfl ?_
        intro i_ hi_
        simp only [List.mem_cons, List.not_mem_nil, or_false] at hi_
        rcases hi_ with rfl | rfl
        ·
         refine ⟨_, rfl, fun hX => ?_⟩
         refine L.buildSlice (cells := [.int .i64 ((i : Nat) : Int), .bool (decide ((((1 : Int)) : Rat).num < 0)), .slice A25 (toL (((1 : Int)) : Rat).num.natAbs).length c25, .slice B25 (toL (((1 : Int)) : Rat).den).length e25]) rfl tyS39 tyZ38 (fillN1 _ _ _ _ _ _ _ _) (by decide) (by decide) rfl ?_
         intro g40 w21 hN40
         have hgs_g40 := New.ge hN40 hS1.size
         replace hS1 := hS1.trans hN40.mod
         have hT : World.ownsRow w21 w.heap.size 38 4 (.slice (some ⟨g40, 0, none⟩) 1 1) 1 [.int .i64 ((i : Nat) : Int), .bool (decide ((((1 : Int)) : Rat).num < 0)), .slice A25 (toL (((1 : Int)) : Rat).num.natAbs).length c25, .slice B25 (toL (((1 : Int)) : Rat).den).length e25] := own_lit hN40.blk (New.ge hN40 hm0.size) rfl
         replace hO := hO.new hN40
         replace hn25 := hn25.new hN40
         replace hd25 := hd25.new hN40
         have hno_hT_g5 : (Value.slice (some ⟨g40, 0, none⟩) 1 1).ownBlock ≠ some g5 := own_ne_new' (hb5.ne_ hN40)
         replace hb5 := Blk.gr hb5 hN40.mod
         have haw_hm_hT : Away _ (.slice (some ⟨g40, 0, none⟩) 1 1) := own_away_new hm hN40
         replace hm := own_gr hm hN40.mod (by simp)
         replace hlm := hlm.new hN40
         have haw_hp_hT : Away _ (.slice (some ⟨g40, 0, none⟩) 1 1) := own_away_new hp hN40
         replace hp := own_gr hp hN40.mod (by simp)
         replace hbd := hbd.new hN40
         replace hm0 := hm0.trans (hN40.mod.mono (by simp))
         have hno_hT_g9 : (Value.slice (some ⟨g40, 0, none⟩) 1 1).ownBlock ≠ some g9 := own_ne_new' (hb9.ne_ hN40)
         replace hb9 := Blk.gr hb9 hN40.mod
         clear hN40
         obtain ⟨vT, hv_vT⟩ : ∃ v, v = Value.slice (some ⟨g40, 0, none⟩) 1 1 := ⟨_, rfl⟩
         have hol_vT : ownL vT = [g40] := by rw [hv_vT]; rfl
         have hgs_vT : ∀ g, vT.ownBlock = some g → _ ≤ g := fun g h9 => by rw [hv_vT] at h9; simp only [Value.ownBlock, Option.some.injEq] at h9; subst h9; exact hgs_g40
         rw [← hv_vT] at hT ⊢
         replace hO := hO.sub (of_cons hol_vT)
         replace hn25 := hn25.sub (of_cons hol_vT)
         replace hd25 := hd25.sub (of_cons hol_vT)
         rw [← hv_vT] at hno_hT_g5
         rw [← hv_vT] at haw_hm_hT
         replace hlm := hlm.sub (of_cons hol_vT)
         rw [← hv_vT] at haw_hp_hT
         replace hbd := hbd.sub (of_cons hol_vT)
         rw [← hv_vT] at hno_hT_g9
         clear hv_vT hol_vT
         refine L.nil (hX _ _ ⟨.inr hS1, ?_⟩)
         refine D.one 11 rfl (by decide +kernel) (fun hX => ?_)
         refine L.call rfl (c_ref2_Int (n := -(i : Int)) (by omega) (by omega) hbd) rfl ?_
         rintro _ w22 ⟨⟨A43, c43, B43, e43, rfl, hn43, hd43⟩, hm22⟩
         replace hO := hO.gr hm22
         replace hn25 := hn25.gr hm22
         replace hd25 := hd25.gr hm22
         replace hb5 := Blk.gr hb5 hm22
         replace hm := own_gr hm hm22 (by simp)
         replace hlm := hlm.gr hm22
         replace hp := own_gr hp hm22 (by simp)
         replace hbd := hbd.gr hm22
         replace hm0 := hm0.trans hm22
         replace hb9 := Blk.gr hb9 hm22
         replace hT := own_gr hT hm22 (by simp)
         replace hS1 := hS1.trans hm22
         clear hm22
         have F43 := Fit.int (n := -(i : Int)) (by omega) (by omega)
         refine L.nil (hX _ _ ⟨.inr hS1, ?_⟩)
         obtain ⟨TT, cT, rfl⟩ := own_form hT
         refine D.take 12 rfl (by decide +kernel) (fun w_ hS => (R1.build (vs := [.int .i64 (andI .i64 (zs.getD i 0) 3), (.slice TT 1 cT), .agg #[.bool (decide ((((-(i : Int) : Int)) : Rat).num < 0)), .slice A43 (toL (((-(i : Int) : Int)) : Rat).num.natAbs).length c43, .slice B43 (toL (((-(i : Int) : Int)) : Rat).den).length e43]]) rfl (built_C012 _ _ _ _ _ _ _ _ _ _ _))) hS1 rfl <| D.one 14 rfl (by decide +kernel) (fun hX => ?_)
         refine L.storeBox rfl rfl hb9 rfl rfl tyG41 ?_
         intro w23 hb9' hm23
         replace hO := hO.mod hm23 (by simp)
         replace hn25 := hn25.mod hm23 (by simp)
         replace hd25 := hd25.mod hm23 (by simp)
         replace hb5 := Blk.far hb5 hm23 (by first | exact hne_g5_g9 | exact (hne_g9_g5).symm)
         replace hm := own_far hm hm23 hno_hm_g9
         replace hlm := hlm.mod hm23 (by simp)
         replace hp := own_far hp hm23 hno_hp_g9
         replace hbd := hbd.gr hm23
         replace hm0 := hm0.old1 hm23 hge_g9
         replace hT := own_far hT hm23 hno_hT_g9
         replace hn43 := hn43.mod hm23 (by simp)
         replace hd43 := hd43.mod hm23 (by simp)
         clear hm23
         replace hb9 := hb9'; clear hb9'
         refine L.nil (hX _ _ ⟨.inl rfl, ?_⟩)
         refine D.done (by decide +kernel) ?_ _
         refine X.join (g9, TT, cT, A43, c43, B43, e43) ?_ ?_
         · exact ⟨rfl, rfl, rfl, rfl, rfl, rfl, rfl, trivial⟩
         ·
          exact ⟨hO.sub (by intro b hb; first | exact hb | (simp only [mq] at hb ⊢; grind)), hn25.sub (by intro b hb; first | exact hb | (simp only [mq] at hb ⊢; grind)), hd25.sub (by intro b hb; first | exact hb | (simp only [mq] at hb ⊢; grind)), hb5, hm, hlm.sub (by intro b hb; first | exact hb | (simp only [mq] at hb ⊢; grind)), hp, hawmp, hno_hm_g5, hno_hp_g5, hbd.sub (by intro b hb; first | exact hb | (simp only [mq] at hb ⊢; grind)), hm0, hb9, hn43.sub (by intro b hb; first | exact hb | (simp only [mq] at hb ⊢; grind)), hd43.sub (by intro b hb; first | exact hb | (simp only [mq] at hb ⊢; grind)), hT, haw_hm_hT, haw_hp_hT, hne_g5_g9, hno_hT_g5, hno_hT_g9, hno_hm_g9, hno_hp_g9, hge_g9⟩
        ·
         refine ⟨_, rfl, fun hX => ?_⟩
         refine L.call rfl (c_ref2_Int (n := -(i : Int)) (by omega) (by omega) hbd) rfl ?_
         rintro _ w24 ⟨⟨A43, c43, B43, e43, rfl, hn43, hd43⟩, hm24⟩
         replace hO := hO.gr hm24
         replace hn25 := hn25.gr hm24
         replace hd25 := hd25.gr hm24
         replace hb5 := Blk.gr hb5 hm24
         replace hm := own_gr hm hm24 (by simp)
         replace hlm := hlm.gr hm24
         replace hp := own_gr hp hm24 (by simp)
         replace hbd := hbd.gr hm24
         replace hm0 := hm0.trans hm24
         replace hb9 := Blk.gr hb9 hm24
         replace hS1 := hS1.trans hm24
         clear hm24
         have F43 := Fit.int (n := -(i : Int)) (by omega) (by omega)
         refine L.nil (hX _ _ ⟨.inr hS1, ?_⟩)
         refine D.one 8 rfl (by decide +kernel) (fun hX => ?_)
         refine L.buildSlice (cells := [.int .i64 ((i : Nat) : Int), .bool (decide ((((1 : Int)) : Rat).num < 0)), .slice A25 (toL (((1 : Int)) : Rat).num.natAbs).length c25, .slice B25 (toL (((1 : Int)) : Rat).den).length e25]) rfl tyS39 tyZ38 (fillN1 _ _ _ _ _ _ _ _) (by decide) (by decide) rfl ?_
         intro g40 w25 hN40
         have hgs_g40 := New.ge hN40 hS1.size
         replace hS1 := hS1.trans hN40.mod
         have hT : World.ownsRow w25 w.heap.size 38 4 (.slice (some ⟨g40, 0, none⟩) 1 1) 1 [.int .i64 ((i : Nat) : Int), .bool (decide ((((1 : Int)) : Rat).num < 0)), .slice A25 (toL (((1 : Int)) : Rat).num.natAbs).length c25, .slice B25 (toL (((1 : Int)) : Rat).den).length e25] := own_lit hN40.blk (New.ge hN40 hm0.size) rfl
         replace hO := hO.new hN40
         replace hn25 := hn25.new hN40
         replace hd25 := hd25.new hN40
         have hno_hT_g5 : (Value.slice (some ⟨g40, 0, none⟩) 1 1).ownBlock ≠ some g5 := own_ne_new' (hb5.ne_ hN40)
         replace hb5 := Blk.gr hb5 hN40.mod
         have haw_hm_hT : Away _ (.slice (some ⟨g40, 0, none⟩) 1 1) := own_away_new hm hN40
         replace hm := own_gr hm hN40.mod (by simp)
         replace hlm := hlm.new hN40
         have haw_hp_hT : Away _ (.slice (some ⟨g40, 0, none⟩) 1 1) := own_away_new hp hN40
         replace hp := own_gr hp hN40.mod (by simp)
         replace hbd := hbd.new hN40
         replace hm0 := hm0.trans (hN40.mod.mono (by simp))
         have hno_hT_g9 : (Value.slice (some ⟨g40, 0, none⟩) 1 1).ownBlock ≠ some g9 := own_ne_new' (hb9.ne_ hN40)
         replace hb9 := Blk.gr hb9 hN40.mod
         replace hn43 := hn43.new hN40
         replace hd43 := hd43.new hN40
         clear hN40
         obtain ⟨vT, hv_vT⟩ : ∃ v, v = Value.slice (some ⟨g40, 0, none⟩) 1 1 := ⟨_, rfl⟩
         have hol_vT : ownL vT = [g40] := by rw [hv_vT]; rfl
         have hgs_vT : ∀ g, vT.ownBlock = some g → _ ≤ g := fun g h9 => by rw [hv_vT] at h9; simp only [Value.ownBlock, Option.some.injEq] at h9; subst h9; exact hgs_g40
         rw [← hv_vT] at hT ⊢
         replace hO := hO.sub (of_cons hol_vT)
         replace hn25 := hn25.sub (of_cons hol_vT)
         replace hd25 := hd25.sub (of_cons hol_vT)
         rw [← hv_vT] at hno_hT_g5
         rw [← hv_vT] at haw_hm_hT
         replace hlm := hlm.sub (of_cons hol_vT)
         rw [← hv_vT] at haw_hp_hT
         replace hbd := hbd.sub (of_cons hol_vT)
         rw [← hv_vT] at hno_hT_g9
         replace hn43 := hn43.sub (of_cons hol_vT)
         replace hd43 := hd43.sub (of_cons hol_vT)
         clear hv_vT hol_vT
         refine L.nil (hX _ _ ⟨.inr hS1, ?_⟩)
         obtain ⟨TT, cT, rfl⟩ := own_form hT
         refine D.take 12 rfl (by decide +kernel) (fun w_ hS => (R1.build (vs := [.int .i64 (andI .i64 (zs.getD i 0) 3), (.slice TT 1 cT), .agg #[.bool (decide ((((-(i : Int) : Int)) : Rat).num < 0)), .slice A43 (toL (((-(i : Int) : Int)) : Rat).num.natAbs).length c43, .slice B43 (toL (((-(i : Int) : Int)) : Rat).den).length e43]]) rfl (built_C012 _ _ _ _ _ _ _ _ _ _ _))) hS1 rfl <| D.one 14 rfl (by decide +kernel) (fun hX => ?_)
         refine L.storeBox rfl rfl hb9 rfl rfl tyG41 ?_
         intro w26 hb9' hm26
         replace hO := hO.mod hm26 (by simp)
         replace hn25 := hn25.mod hm26 (by simp)
         replace hd25 := hd25.mod hm26 (by simp)
         replace hb5 := Blk.far hb5 hm26 (by first | exact hne_g5_g9 | exact (hne_g9_g5).symm)
         replace hm := own_far hm hm26 hno_hm_g9
         replace hlm := hlm.mod hm26 (by simp)
         replace hp := own_far hp hm26 hno_hp_g9
         replace hbd := hbd.gr hm26
         replace hm0 := hm0.old1 hm26 hge_g9
         replace hn43 := hn43.mod hm26 (by simp)
         replace hd43 := hd43.mod hm26 (by simp)
         replace hT := own_far hT hm26 hno_hT_g9
         clear hm26
         replace hb9 := hb9'; clear hb9'
         refine L.nil (hX _ _ ⟨.inl rfl, ?_⟩)
         refine D.done (by decide +kernel) ?_ _
         refine X.join (g9, TT, cT, A43, c43, B43, e43) ?_ ?_
         · exact ⟨rfl, rfl, rfl, rfl, rfl, rfl, rfl, trivial⟩
         ·
          exact ⟨hO.sub (by intro b hb; first | exact hb | (simp only [mq] at hb ⊢; grind)), hn25.sub (by intro b hb; first | exact hb | (simp only [mq] at hb ⊢; grind)), hd25.sub (by intro b hb; first | exact hb | (simp only [mq] at hb ⊢; grind)), hb5, hm, hlm.sub (by intro b hb; first | exact hb | (simp only [mq] at hb ⊢; grind)), hp, hawmp, hno_hm_g5, hno_hp_g5, hbd.sub (by intro b hb; first | exact hb | (simp only [mq] at hb ⊢; grind)), hm0, hb9, hn43.sub (by intro b hb; first | exact hb | (simp only [mq] at hb ⊢; grind)), hd43.sub (by intro b hb; first | exact hb | (simp only [mq] at hb ⊢; grind)), hT, haw_hm_hT, haw_hp_hT, hne_g5_g9, hno_hT_g5, hno_hT_g9, hno_hm_g9, hno_hp_g9, hge_g9⟩
      ·
       rintro ⟨g9, TT, cT, A43, c43, B43, e43⟩ wj ⟨hO, hn25, hd25, hb5, hm, hlm, hp, hawmp, hno_hm_g5, hno_hp_g5, hbd, hm0, hb9, hn43, hd43, hT, haw_hm_hT, haw_hp_hT, hne_g5_g9, hno_hT_g5, hno_hT_g9, hno_hm_g9, hno_hp_g9, hge_g9⟩
       refine X.seq <| W.seq <| W.seq <| W.cut (ι := Nat × Option Addr × Nat × Option Addr × Nat × Option Addr × Nat) (fun (g9, TT, cT, A43, c43, B43, e43) => [(0, .int .i64 ((n : Nat) : Int)), (1, .slice TO zs.length tO), (5, .pointer (some ⟨g5, 0, none⟩)), (6, um), (7, up), (8, .int .i64 ((i : Nat) : Int)), (9, .pointer (some ⟨g9, 0, none⟩)), (56, .bool (decide (i + 1 < n ∧ andI .i64 (zs.getD i 0) 4 = 4)))]) (fun (g9, TT, cT, A43, c43, B43, e43) w_ => Lay rdI (g9 :: (ownL (.slice TT 1 cT) ++ (ownL um ++ (ownL up ++ [])))) w_ (.slice TO zs.length tO) zs ∧ U32 (g9 :: (ownL (.slice TT 1 cT) ++ (ownL um ++ (ownL up ++ [])))) w_ (.slice A25 (toL (((1 : Int)) : Rat).num.natAbs).length c25) (toL (((1 : Int)) : Rat).num.natAbs) ∧ U32 (g9 :: (ownL (.slice TT 1 cT) ++ (ownL um ++ (ownL up ++ [])))) w_ (.slice B25 (toL (((1 : Int)) : Rat).den).length e25) (toL (((1 : Int)) : Rat).den) ∧ Blk w_ g5 35 #[.bool (decide ((((1 : Int)) : Rat).num < 0)), .slice A25 (toL (((1 : Int)) : Rat).num.natAbs).length c25, .slice B25 (toL (((1 : Int)) : Rat).den).length e25] ∧ w_.ownsRow w.heap.size 41 5 um i csm.flatten ∧ LayL rdC (g9 :: (ownL (.slice TT 1 cT) ++ (ownL um ++ (ownL up ++ [])))) w_ csm (allC n zs i) ∧ w_.ownsRow w.heap.size 3 1 up i (intsZ (List.replicate i (-1))) ∧ Away um up ∧ um.ownBlock ≠ some g5 ∧ up.ownBlock ≠ some g5 ∧ Bd (g9 :: (ownL (.slice TT 1 cT) ++ (ownL um ++ (ownL up ++ [])))) w_ ∧ Mod [] w w_ ∧ Blk w_ g9 41 #[.int .i64 (andI .i64 (zs.getD i 0) 3), (.slice TT 1 cT), .bool (decide ((((-(i : Int) : Int)) : Rat).num < 0)), .slice A43 (toL (((-(i : Int) : Int)) : Rat).num.natAbs).length c43, .slice B43 (toL (((-(i : Int) : Int)) : Rat).den).length e43] ∧ U32 (g9 :: (ownL (.slice TT 1 cT) ++ (ownL um ++ (ownL up ++ [])))) w_ (.slice A43 (toL (((-(i : Int) : Int)) : Rat).num.natAbs).length c43) (toL (((-(i : Int) : Int)) : Rat).num.natAbs) ∧ U32 (g9 :: (ownL (.slice TT 1 cT) ++ (ownL um ++ (ownL up ++ [])))) w_ (.slice B43 (toL (((-(i : Int) : Int)) : Rat).den).length e43) (toL (((-(i : Int) : Int)) : Rat).den) ∧ w_.ownsRow w.heap.size 38 4 (.slice TT 1 cT) 1 [.int .i64 ((i : Nat) : Int), .bool (decide ((((1 : Int)) : Rat).num < 0)), .slice A25 (toL (((1 : Int)) : Rat).num.natAbs).length c25, .slice B25 (toL (((1 : Int)) : Rat).den).length e25] ∧ Away um (.slice TT 1 cT) ∧ Away up (.slice TT 1 cT) ∧ g5 ≠ g9 ∧ Value.ownBlock (.slice TT 1 cT) ≠ some g5 ∧ Value.ownBlock (.slice TT 1 cT) ≠ some g9 ∧ um.ownBlock ≠ some g9 ∧ up.ownBlock ≠ some g9 ∧ w.heap.size ≤ g9) ?_ ?_
       ·
        refine W.region <| L.v (R1.move rfl) rfl <| L.v (R1.addI (b := 1) rfl rfl (by omega)) rfl <| L.v (R1.move rfl) rfl <| L.v ((R1.lt rfl rfl).asB (c := (decide (((i + 1 : Nat) : Int) < (n : Int)))) (rfl)) rfl <| L.v (R1.move rfl) rfl ?_
        cases hgd49 : (decide (((i + 1 : Nat) : Int) < (n : Int)))
        ·
         try simp only [bq, ne_eq] at hgd49
         refine L.off rfl rfl rfl rfl rfl <| L.off rfl rfl rfl rfl rfl <| L.off rfl rfl rfl rfl rfl <| L.off rfl rfl rfl rfl rfl <| L.off rfl rfl rfl rfl rfl <| L.off rfl rfl rfl rfl rfl <| L.v (R1.pickF rfl rfl) rfl <| L.nil <| X.join (g9, TT, cT, A43, c43, B43, e43) ?_ ?_
         · exact ⟨rfl, rfl, rfl, rfl, rfl, rfl, rfl, congrArg (fun b => some (Value.bool b)) (by first | exact (decide_eq_false (fun h9 => by omega)).symm | exact decide_eq_decide.2 ⟨fun h9 => ⟨by omega, h9⟩, fun h9 => h9.2⟩), trivial⟩
         ·
          exact ⟨hO.sub (by intro b hb; first | exact hb | (simp only [mq] at hb ⊢; grind)), hn25.sub (by intro b hb; first | exact hb | (simp only [mq] at hb ⊢; grind)), hd25.sub (by intro b hb; first | exact hb | (simp only [mq] at hb ⊢; grind)), hb5, hm, hlm.sub (by intro b hb; first | exact hb | (simp only [mq] at hb ⊢; grind)), hp, hawmp, hno_hm_g5, hno_hp_g5, hbd.sub (by intro b hb; first | exact hb | (simp only [mq] at hb ⊢; grind)), hm0, hb9, hn43.sub (by intro b hb; first | exact hb | (simp only [mq] at hb ⊢; grind)), hd43.sub (by intro b hb; first | exact hb | (simp only [mq] at hb ⊢; grind)), hT, haw_hm_hT, haw_hp_hT, hne_g5_g9, hno_hT_g5, hno_hT_g9, hno_hm_g9, hno_hp_g9, hge_g9⟩
        ·
         try simp only [bq, ne_eq] at hgd49
         refine L.on rfl rfl rfl (R1.move rfl) rfl <| L.on rfl rfl rfl (R1.move rfl) rfl <| L.on rfl rfl rfl (R1.atLay (j := i) rfl rfl hO tyS24 rfl (by omega)) rfl <| L.on rfl rfl rfl (R1.loadLI rfl hO tyP3 (by omega) (getD_at _)) rfl <| L.on rfl rfl rfl (R1.and rfl rfl) rfl <| L.on rfl rfl rfl (R1.eq rfl rfl) rfl <| L.v (R1.pickT rfl rfl) rfl <| L.nil <| X.join (g9, TT, cT, A43, c43, B43, e43) ?_ ?_
         · exact ⟨rfl, rfl, rfl, rfl, rfl, rfl, rfl, congrArg (fun b => some (Value.bool b)) (by first | exact (decide_eq_false (fun h9 => by omega)).symm | exact decide_eq_decide.2 ⟨fun h9 => ⟨by omega, h9⟩, fun h9 => h9.2⟩), trivial⟩
         ·
          exact ⟨hO.sub (by intro b hb; first | exact hb | (simp only [mq] at hb ⊢; grind)), hn25.sub (by intro b hb; first | exact hb | (simp only [mq] at hb ⊢; grind)), hd25.sub (by intro b hb; first | exact hb | (simp only [mq] at hb ⊢; grind)), hb5, hm, hlm.sub (by intro b hb; first | exact hb | (simp only [mq] at hb ⊢; grind)), hp, hawmp, hno_hm_g5, hno_hp_g5, hbd.sub (by intro b hb; first | exact hb | (simp only [mq] at hb ⊢; grind)), hm0, hb9, hn43.sub (by intro b hb; first | exact hb | (simp only [mq] at hb ⊢; grind)), hd43.sub (by intro b hb; first | exact hb | (simp only [mq] at hb ⊢; grind)), hT, haw_hm_hT, haw_hp_hT, hne_g5_g9, hno_hT_g5, hno_hT_g9, hno_hm_g9, hno_hp_g9, hge_g9⟩
       ·
        rintro ⟨g9, TT, cT, A43, c43, B43, e43⟩ wk ⟨hO, hn25, hd25, hb5, hm, hlm, hp, hawmp, hno_hm_g5, hno_hp_g5, hbd, hm0, hb9, hn43, hd43, hT, haw_hm_hT, haw_hp_hT, hne_g5_g9, hno_hT_g5, hno_hT_g9, hno_hm_g9, hno_hp_g9, hge_g9⟩
        refine X.seq <| W.cut (ι := Nat × Option Addr × Nat × Option Addr × Nat × Option Addr × Nat) (fun (g9, Tc, tc, A43, c43, B43, e43) => [(0, .int .i64 ((n : Nat) : Int)), (1, .slice TO zs.length tO), (5, .pointer (some ⟨g5, 0, none⟩)), (6, um), (7, up), (8, .int .i64 ((i : Nat) : Int)), (9, .pointer (some ⟨g9, 0, none⟩))]) (fun (g9, Tc, tc, A43, c43, B43, e43) w_ => Lay rdI (ownL um ++ (ownL up ++ [])) w_ (.slice TO zs.length tO) zs ∧ U32 (ownL um ++ (ownL up ++ [])) w_ (.slice A25 (toL (((1 : Int)) : Rat).num.natAbs).length c25) (toL (((1 : Int)) : Rat).num.natAbs) ∧ U32 (ownL um ++ (ownL up ++ [])) w_ (.slice B25 (toL (((1 : Int)) : Rat).den).length e25) (toL (((1 : Int)) : Rat).den) ∧ Blk w_ g5 35 #[.bool (decide ((((1 : Int)) : Rat).num < 0)), .slice A25 (toL (((1 : Int)) : Rat).num.natAbs).length c25, .slice B25 (toL (((1 : Int)) : Rat).den).length e25] ∧ w_.ownsRow w.heap.size 41 5 um i csm.flatten ∧ LayL rdC (ownL um ++ (ownL up ++ [])) w_ csm (allC n zs i) ∧ w_.ownsRow w.heap.size 3 1 up i (intsZ (List.replicate i (-1))) ∧ Away um up ∧ um.ownBlock ≠ some g5 ∧ up.ownBlock ≠ some g5 ∧ Bd (ownL um ++ (ownL up ++ [])) w_ ∧ Mod [] w w_ ∧ Blk w_ g9 41 #[.int .i64 (andI .i64 (zs.getD i 0) 3), .slice Tc (conA n (zs.getD i 0) i).ts.length tc, .bool (decide ((((-(i : Int) : Int)) : Rat).num < 0)), .slice A43 (toL (((-(i : Int) : Int)) : Rat).num.natAbs).length c43, .slice B43 (toL (((-(i : Int) : Int)) : Rat).den).length e43] ∧ U32 (ownL um ++ (ownL up ++ [])) w_ (.slice A43 (toL (((-(i : Int) : Int)) : Rat).num.natAbs).length c43) (toL (((-(i : Int) : Int)) : Rat).num.natAbs) ∧ U32 (ownL um ++ (ownL up ++ [])) w_ (.slice B43 (toL (((-(i : Int) : Int)) : Rat).den).length e43) (toL (((-(i : Int) : Int)) : Rat).den) ∧ Lay rdT (ownL um ++ (ownL up ++ [])) w_ (.slice Tc (conA n (zs.getD i 0) i).ts.length tc) (conA n (zs.getD i 0) i).ts ∧ um.ownBlock ≠ some g9 ∧ up.ownBlock ≠ some g9) ?_ ?_
        ·
         refine W.cond rfl ?_ ?_
         ·
          intro hc56
          try simp only [bq, ne_eq] at hc56
          refine W.region <| L.v (R1.fieldAt rfl tyF41_1) rfl <| L.v ((R1.loadFld rfl hb9 rfl tyP39).asV (v := (.slice TT 1 cT)) rfl) rfl <| L.v (R1.move rfl) rfl <| L.v (R1.addI (b := 1) rfl rfl (by omega)) rfl <| L.v (R1.loadBox rfl hb5 tyG35) rfl <| L.v (R1.build (vs := [.int .i64 ((i + 1 : Nat) : Int), .agg #[.bool (decide ((((1 : Int)) : Rat).num < 0)), .slice A25 (toL (((1 : Int)) : Rat).num.natAbs).length c25, .slice B25 (toL (((1 : Int)) : Rat).den).length e25]]) rfl (built_T01 _ _ _ _ _ _ _ _)) rfl <| L.buildSlice (cells := [.int .i64 ((i + 1 : Nat) : Int), .bool (decide ((((1 : Int)) : Rat).num < 0)), .slice A25 (toL (((1 : Int)) : Rat).num.natAbs).length c25, .slice B25 (toL (((1 : Int)) : Rat).den).length e25]) rfl tyS39 tyZ38 (fillN1 _ _ _ _ _ _ _ _) (by decide) (by decide) rfl ?_
          intro g63 w27 hN63
          replace hO := hO.new hN63
          replace hn25 := hn25.new hN63
          replace hd25 := hd25.new hN63
          have hne_g5_g63 := hb5.ne_ hN63
          replace hb5 := Blk.gr hb5 hN63.mod
          have hno_hm_g63 := own_ne_new hm hN63
          replace hm := own_gr hm hN63.mod (by simp)
          replace hlm := hlm.new hN63
          have hno_hp_g63 := own_ne_new hp hN63
          replace hp := own_gr hp hN63.mod (by simp)
          replace hbd := hbd.new hN63
          have hge_g63 := New.ge hN63 hm0.size
          replace hm0 := hm0.trans (hN63.mod.mono (by simp))
          have hne_g9_g63 := hb9.ne_ hN63
          replace hb9 := Blk.gr hb9 hN63.mod
          replace hn43 := hn43.new hN63
          replace hd43 := hd43.new hN63
          have hno_hT_g63 := own_ne_new hT hN63
          replace hT := own_gr hT hN63.mod (by simp)
          have hb63 := hN63.blk
          clear hN63
          have hrowT : Sl [] w27 4 (.slice (some ⟨g63, 0, none⟩) 1 1) 1 [.int .i64 ((i + 1 : Nat) : Int), .bool (decide ((((1 : Int)) : Rat).num < 0)), .slice A25 (toL (((1 : Int)) : Rat).num.natAbs).length c25, .slice B25 (toL (((1 : Int)) : Rat).den).length e25] := Sl.of_blk hb63 0 (Nat.le_refl _) (by decide) rfl (by simp) (fun j hj => by simp)
          refine L.append rfl rfl hT hrowT (by simp [Value.oneCell']) tyS39 tyZ38 (by omega) (by unfold maxLen; omega) hm0.size rfl ?_
          intro v64 w28 hT' hG64
          have haw_hm_hT_ := Away.grew haw_hm_hT hG64 hm
          have haw_hp_hT_ := Away.grew haw_hp_hT hG64 hp
          replace hO := hO.grew2 hG64 (by first | exact mem_own | (intro b hb; simp [hb]))
          replace hn25 := hn25.grew2 hG64 (by first | exact mem_own | (intro b hb; simp [hb]))
          replace hd25 := hd25.grew2 hG64 (by first | exact mem_own | (intro b hb; simp [hb]))
          have hnn_g5 := hG64.ne hno_hT_g5 hb5
          replace hb5 := Blk.grew hb5 hG64 hno_hT_g5
          replace hno_hT_g5 := hnn_g5
          replace hm := own_away (s' := 1) (el' := 0) (k' := 0) (B' := 0) (ys := []) hm hG64.mod (by first | assumption | exact Away.symm (by assumption))
          replace hlm := hlm.grew2 hG64 (by first | exact mem_own | (intro b hb; simp [hb]))
          replace hp := own_away (s' := 1) (el' := 0) (k' := 0) (B' := 0) (ys := []) hp hG64.mod (by first | assumption | exact Away.symm (by assumption))
          replace hbd := hbd.grew2 hG64 (by first | exact mem_own | (intro b hb; simp [hb]))
          replace hm0 := Mod.oldOwn hm0 hG64.mod hT
          have hnn_g9 := hG64.ne hno_hT_g9 hb9
          replace hb9 := Blk.grew hb9 hG64 hno_hT_g9
          replace hno_hT_g9 := hnn_g9
          replace hn43 := hn43.grew2 hG64 (by first | exact mem_own | (intro b hb; simp [hb]))
          replace hd43 := hd43.grew2 hG64 (by first | exact mem_own | (intro b hb; simp [hb]))
          replace haw_hm_hT := haw_hm_hT_; clear haw_hm_hT_
          replace haw_hp_hT := haw_hp_hT_; clear haw_hp_hT_
          replace hT := hT'; clear hT'
          clear hG64
          refine L.v (R1.fieldAt rfl tyF41_1) rfl <| L.store rfl rfl hb9 (by show (1 : Nat) < 5; decide) (own_one hT) tyP39 ?_
          intro w29 hb9' hm29
          replace hO := hO.mod hm29 (by simp)
          replace hn25 := hn25.mod hm29 (by simp)
          replace hd25 := hd25.mod hm29 (by simp)
          replace hb5 := Blk.far hb5 hm29 (by first | exact hne_g5_g9 | exact (hne_g9_g5).symm)
          replace hm := own_far hm hm29 hno_hm_g9
          replace hlm := hlm.mod hm29 (by simp)
          replace hp := own_far hp hm29 hno_hp_g9
          replace hbd := hbd.gr hm29
          replace hm0 := hm0.old1 hm29 hge_g9
          replace hn43 := hn43.mod hm29 (by simp)
          replace hd43 := hd43.mod hm29 (by simp)
          replace hT := own_far hT hm29 hno_hT_g9
          clear hm29
          replace hb9 := hb9'; clear hb9'
          have e9 := conA_yes hc56
          have hTL : Lay rdT (ownL um ++ (ownL up ++ [])) w29 v64 (conA n (zs.getD i 0) i).ts := by rw [e9]; exact Lay.of_own (css := [[.int .i64 ((i : Nat) : Int), .bool (decide ((((1 : Int)) : Rat).num < 0)), .slice A25 (toL (((1 : Int)) : Rat).num.natAbs).length c25, .slice B25 (toL (((1 : Int)) : Rat).den).length e25], [.int .i64 ((i + 1 : Nat) : Int), .bool (decide ((((1 : Int)) : Rat).num < 0)), .slice A25 (toL (((1 : Int)) : Rat).num.natAbs).length c25, .slice B25 (toL (((1 : Int)) : Rat).den).length e25]]) hT ((LayL.one _ (⟨((i : Nat) : Int), QR.nf (((1 : Int)) : Rat)⟩ : TR) (rdT_mk (t := ⟨((i : Nat) : Int), QR.nf (((1 : Int)) : Rat)⟩) (hn25.sub (by intro b hb; first | exact hb | (simp only [mq] at hb ⊢; grind))) (hd25.sub (by intro b hb; first | exact hb | (simp only [mq] at hb ⊢; grind))))).append (LayL.one _ (⟨((i + 1 : Nat) : Int), QR.nf (((1 : Int)) : Rat)⟩ : TR) (rdT_mk (t := ⟨((i + 1 : Nat) : Int), QR.nf (((1 : Int)) : Rat)⟩) (hn25.sub (by intro b hb; first | exact hb | (simp only [mq] at hb ⊢; grind))) (hd25.sub (by intro b hb; first | exact hb | (simp only [mq] at hb ⊢; grind)))))) (Away.no2 haw_hm_hT haw_hp_hT)
          obtain ⟨Tc, tc, rfl⟩ := hTL.form
          refine L.nil <| X.join (g9, Tc, tc, A43, c43, B43, e43) ?_ ?_
          · exact ⟨rfl, rfl, rfl, rfl, rfl, rfl, rfl, trivial⟩
          ·
           exact ⟨hO.sub (by intro b hb; first | exact hb | (simp only [mq] at hb ⊢; grind)), hn25.sub (by intro b hb; first | exact hb | (simp only [mq] at hb ⊢; grind)), hd25.sub (by intro b hb; first | exact hb | (simp only [mq] at hb ⊢; grind)), hb5, hm, hlm.sub (by intro b hb; first | exact hb | (simp only [mq] at hb ⊢; grind)), hp, hawmp, hno_hm_g5, hno_hp_g5, hbd.sub (by intro b hb; first | exact hb | (simp only [mq] at hb ⊢; grind)), hm0, hb9, hn43.sub (by intro b hb; first | exact hb | (simp only [mq] at hb ⊢; grind)), hd43.sub (by intro b hb; first | exact hb | (simp only [mq] at hb ⊢; grind)), hTL, hno_hm_g9, hno_hp_g9⟩
         ·
          intro hc56
          try simp only [bq, ne_eq] at hc56
          have e9 := conA_no hc56
          have hTL : Lay rdT (ownL um ++ (ownL up ++ [])) wk (.slice TT 1 cT) (conA n (zs.getD i 0) i).ts := by rw [e9]; exact Lay.of_own (css := [[.int .i64 ((i : Nat) : Int), .bool (decide ((((1 : Int)) : Rat).num < 0)), .slice A25 (toL (((1 : Int)) : Rat).num.natAbs).length c25, .slice B25 (toL (((1 : Int)) : Rat).den).length e25]]) hT (LayL.one _ (⟨((i : Nat) : Int), QR.nf (((1 : Int)) : Rat)⟩ : TR) (rdT_mk (t := ⟨((i : Nat) : Int), QR.nf (((1 : Int)) : Rat)⟩) (hn25.sub (by intro b hb; first | exact hb | (simp only [mq] at hb ⊢; grind))) (hd25.sub (by intro b hb; first | exact hb | (simp only [mq] at hb ⊢; grind))))) (Away.no2 haw_hm_hT haw_hp_hT)
          refine W.skip <| X.join (g9, TT, cT, A43, c43, B43, e43) ?_ ?_
          · exact ⟨rfl, rfl, rfl, rfl, rfl, rfl, rfl, trivial⟩
          ·
           exact ⟨hO.sub (by intro b hb; first | exact hb | (simp only [mq] at hb ⊢; grind)), hn25.sub (by intro b hb; first | exact hb | (simp only [mq] at hb ⊢; grind)), hd25.sub (by intro b hb; first | exact hb | (simp only [mq] at hb ⊢; grind)), hb5, hm, hlm.sub (by intro b hb; first | exact hb | (simp only [mq] at hb ⊢; grind)), hp, hawmp, hno_hm_g5, hno_hp_g5, hbd.sub (by intro b hb; first | exact hb | (simp only [mq] at hb ⊢; grind)), hm0, by rw [e9]; exact hb9, hn43.sub (by intro b hb; first | exact hb | (simp only [mq] at hb ⊢; grind)), hd43.sub (by intro b hb; first | exact hb | (simp only [mq] at hb ⊢; grind)), by rw [e9] at hTL ⊢; exact hTL, hno_hm_g9, hno_hp_g9⟩
        ·
         rintro ⟨g9, Tc, tc, A43, c43, B43, e43⟩ wl ⟨hO, hn25, hd25, hb5, hm, hlm, hp, hawmp, hno_hm_g5, hno_hp_g5, hbd, hm0, hb9, hn43, hd43, hTc, hno_hm_g9, hno_hp_g9⟩
         refine X.seq <| W.region <| L.v (R1.move rfl) rfl <| L.v (R1.loadBox rfl hb9 tyG41) rfl <| L.buildSlice (cells := [.int .i64 (andI .i64 (zs.getD i 0) 3), .slice Tc (conA n (zs.getD i 0) i).ts.length tc, .bool (decide ((((-(i : Int) : Int)) : Rat).num < 0)), .slice A43 (toL (((-(i : Int) : Int)) : Rat).num.natAbs).length c43, .slice B43 (toL (((-(i : Int) : Int)) : Rat).den).length e43]) rfl tyS22 tyZ41 (fillK1 _ _ _ _ _ _ _ _ _ _ _) (by decide) (by decide) rfl ?_
         intro g68 w30 hN68
         replace hO := hO.new hN68
         replace hn25 := hn25.new hN68
         replace hd25 := hd25.new hN68
         have hne_g5_g68 := hb5.ne_ hN68
         replace hb5 := Blk.gr hb5 hN68.mod
         have hno_hm_g68 := own_ne_new hm hN68
         replace hm := own_gr hm hN68.mod (by simp)
         replace hlm := hlm.new hN68
         have hno_hp_g68 := own_ne_new hp hN68
         replace hp := own_gr hp hN68.mod (by simp)
         replace hbd := hbd.new hN68
         have hge_g68 := New.ge hN68 hm0.size
         replace hm0 := hm0.trans (hN68.mod.mono (by simp))
         have hne_g9_g68 := hb9.ne_ hN68
         replace hb9 := Blk.gr hb9 hN68.mod
         replace hn43 := hn43.new hN68
         replace hd43 := hd43.new hN68
         replace hTc := hTc.new hN68
         have hb68 := hN68.blk
         clear hN68
         have hrowA : Sl [] w30 5 (.slice (some ⟨g68, 0, none⟩) 1 1) 1 [.int .i64 (andI .i64 (zs.getD i 0) 3), .slice Tc (conA n (zs.getD i 0) i).ts.length tc, .bool (decide ((((-(i : Int) : Int)) : Rat).num < 0)), .slice A43 (toL (((-(i : Int) : Int)) : Rat).num.natAbs).length c43, .slice B43 (toL (((-(i : Int) : Int)) : Rat).den).length e43] := Sl.of_blk hb68 0 (Nat.le_refl _) (by decide) rfl (by simp) (fun j hj => by simp)
         refine L.append rfl rfl hm hrowA (by intro c hc; simp only [List.mem_cons, List.not_mem_nil, or_false] at hc; rcases hc with rfl | rfl | rfl | rfl | rfl <;> rfl) tyS22 tyZ41 (by omega) (by unfold maxLen; omega) hm0.size rfl ?_
         intro v69 w31 hm' hG69
         have hawmp_ := (Away.grew hawmp.symm hG69 hp).symm
         replace hO := hO.grew2 hG69 (by first | exact mem_own | (intro b hb; simp [hb]))
         replace hn25 := hn25.grew2 hG69 (by first | exact mem_own | (intro b hb; simp [hb]))
         replace hd25 := hd25.grew2 hG69 (by first | exact mem_own | (intro b hb; simp [hb]))
         have hnn_g5 := hG69.ne hno_hm_g5 hb5
         replace hb5 := Blk.grew hb5 hG69 hno_hm_g5
         replace hno_hm_g5 := hnn_g5
         replace hlm := hlm.grew2 hG69 (by first | exact mem_own | (intro b hb; simp [hb]))
         replace hp := own_away (s' := 1) (el' := 0) (k' := 0) (B' := 0) (ys := []) hp hG69.mod (by first | assumption | exact Away.symm (by assumption))
         replace hbd := hbd.grew2 hG69 (by first | exact mem_own | (intro b hb; simp [hb]))
         replace hm0 := Mod.oldOwn hm0 hG69.mod hm
         have hnn_g9 := hG69.ne hno_hm_g9 hb9
         replace hb9 := Blk.grew hb9 hG69 hno_hm_g9
         replace hno_hm_g9 := hnn_g9
         replace hn43 := hn43.grew2 hG69 (by first | exact mem_own | (intro b hb; simp [hb]))
         replace hd43 := hd43.grew2 hG69 (by first | exact mem_own | (intro b hb; simp [hb]))
         replace hTc := hTc.grew2 hG69 (by first | exact mem_own | (intro b hb; simp [hb]))
         have hnn_g68 := hG69.ne hno_hm_g68 hb68
         replace hb68 := Blk.grew hb68 hG69 hno_hm_g68
         replace hno_hm_g68 := hnn_g68
         replace hawmp := hawmp_; clear hawmp_
         replace hm := hm'; clear hm'
         clear hG69
         refine L.v (R1.move rfl) rfl <| L.build1 rfl rfl tyS24 tyZ3 rfl ?_
         intro g71 w32 hN71
         replace hO := hO.gr hN71.mod
         replace hn25 := hn25.gr hN71.mod
         replace hd25 := hd25.gr hN71.mod
         replace hb5 := Blk.gr hb5 hN71.mod
         replace hm := own_gr hm hN71.mod (by simp)
         replace hlm := hlm.gr hN71.mod
         replace hp := own_gr hp hN71.mod (by simp)
         replace hbd := hbd.gr hN71.mod
         replace hm0 := hm0.trans hN71.mod
         replace hb9 := Blk.gr hb9 hN71.mod
         replace hn43 := hn43.gr hN71.mod
         replace hd43 := hd43.gr hN71.mod
         replace hTc := hTc.gr hN71.mod
         replace hb68 := Blk.gr hb68 hN71.mod
         have hrow : Sl [] w32 1 (.slice (some ⟨g71, 0, none⟩) 1 1) 1 [.int .i64 (-1)] := Sl.of_blk hN71.blk 0 (Nat.le_refl _) (by decide) rfl (by simp) (fun j hj => by simp)
         clear hN71
         refine L.append rfl rfl hp hrow (by simp [Value.oneCell']) tyS24 tyZ3 (by omega) (by unfold maxLen; omega) hm0.size rfl ?_
         intro v72 w33 hp' hG72
         have hawmp_ := Away.grew hawmp hG72 hm
         replace hO := hO.grew2 hG72 (by first | exact mem_own | (intro b hb; simp [hb]))
         replace hn25 := hn25.grew2 hG72 (by first | exact mem_own | (intro b hb; simp [hb]))
         replace hd25 := hd25.grew2 hG72 (by first | exact mem_own | (intro b hb; simp [hb]))
         have hnn_g5 := hG72.ne hno_hp_g5 hb5
         replace hb5 := Blk.grew hb5 hG72 hno_hp_g5
         replace hno_hp_g5 := hnn_g5
         replace hm := own_away (s' := 1) (el' := 0) (k' := 0) (B' := 0) (ys := []) hm hG72.mod (by first | assumption | exact Away.symm (by assumption))
         replace hlm := hlm.grew2 hG72 (by first | exact mem_own | (intro b hb; simp [hb]))
         replace hbd := hbd.grew2 hG72 (by first | exact mem_own | (intro b hb; simp [hb]))
         replace hm0 := Mod.oldOwn hm0 hG72.mod hp
         replace hn43 := hn43.grew2 hG72 (by first | exact mem_own | (intro b hb; simp [hb]))
         replace hd43 := hd43.grew2 hG72 (by first | exact mem_own | (intro b hb; simp [hb]))
         replace hTc := hTc.grew2 hG72 (by first | exact mem_own | (intro b hb; simp [hb]))
         replace hawmp := hawmp_; clear hawmp_
         replace hp := hp'; clear hp'
         clear hG72
         refine L.v (R1.assign rfl) rfl <| L.v (R1.assign rfl) rfl <| L.nil <| X.blockEnd <| X.seq <| W.region <| L.v (R1.move rfl) rfl <| L.v (R1.addI (b := 1) rfl rfl (by omega)) rfl <| L.v (R1.assign rfl) rfl <| L.nil <| X.next (i + 1, v69, v72, csm ++ [[.int .i64 (andI .i64 (zs.getD i 0) 3), .slice Tc (conA n (zs.getD i 0) i).ts.length tc, .bool (decide ((((-(i : Int) : Int)) : Rat).num < 0)), .slice A43 (toL (((-(i : Int) : Int)) : Rat).num.natAbs).length c43, .slice B43 (toL (((-(i : Int) : Int)) : Rat).den).length e43]]) ?_ ?_ ?_
         · exact ⟨rfl, rfl, rfl, rfl, rfl, rfl, trivial⟩
         ·
          exact ⟨hO.sub (by intro b hb; first | exact hb | (simp only [mq] at hb ⊢; grind)), hn25.sub (by intro b hb; first | exact hb | (simp only [mq] at hb ⊢; grind)), hd25.sub (by intro b hb; first | exact hb | (simp only [mq] at hb ⊢; grind)), hb5, own_congr hm rfl (by simp), by rw [allC_snoc]; exact (hlm.sub (by intro b hb; first | exact hb | (simp only [mq] at hb ⊢; grind))).append (LayL.one _ (conA n (zs.getD i 0) i) (rdC_mk (c := (conA n (zs.getD i 0) i)) (hTc.sub (by intro b hb; first | exact hb | (simp only [mq] at hb ⊢; grind))) (hn43.sub (by intro b hb; first | exact hb | (simp only [mq] at hb ⊢; grind))) (hd43.sub (by intro b hb; first | exact hb | (simp only [mq] at hb ⊢; grind))))), own_congr hp rfl (by simp [intsZ, List.replicate_succ']), hawmp, hno_hm_g5, hno_hp_g5, hbd.sub (by intro b hb; first | exact hb | (simp only [mq] at hb ⊢; grind)), hm0, by omega⟩
         · first | omega | (dsimp only; omega)
     ·
      intro hc29
      try simp only [bq, ne_eq] at hc29
      obtain rfl : i = zs.length := by omega
      have hL : Lay rdC [] w4 um (allC n zs zs.length) := Lay.of_own (own_congr hm (allC_len _ _ _).symm rfl) (LayL.sub hlm (fun b hb => by cases hb)) (by simp)
      have hN : Lay rdI [] w4 up (List.replicate zs.length (-1)) := Lay.of_Z (M := []) hp (by simp)
      have hsm9 := allC_sm zs hn20 hln
      have hch9 := all_ch zs hn1 hn20 hln
      have hsl9 := setZ_len hch9
      have hl9 := allC_len n zs zs.length
      have hfi : firstW (List.range (held (n : Int))) (wsOf (held (n : Int)) (allC n zs zs.length)) 0 = none := by rw [show held (n : Int) = n by unfold held; omega, allC_ws zs hln]; exact (all_first zs _ hln).1
      refine W.exit <| X.thenExit <| X.nextExit <| X.here <| X.seq <| W.seq <| W.seq <| W.region <| L.v (R1.move rfl) rfl <| L.v (R1.move rfl) rfl <| L.call rfl (c_r11_First (M := []) (z0 := (n : Int)) hL (hbd.sub (fun b hb => by cases hb)) hsm9) rfl ?_
      rintro _ w34 ⟨rfl, hm34⟩
      replace hbd := hbd.gr hm34
      replace hm0 := hm0.trans hm34
      replace hL := hL.gr hm34
      replace hN := hN.gr hm34
      clear hm34
      refine L.v ((R1.ge rfl rfl).asB (c := false) (by rw [hfi]; rfl)) rfl <| L.nil <| X.seq <| W.condF rfl <| W.skip <| X.seq <| W.seq <| W.region <| L.v (R1.move rfl) rfl <| L.v (R1.move rfl) rfl <| L.v (R1.move rfl) rfl ?_
      refine L.call rfl (c_SettleL (z0 := (n : Int)) hL hN (hbd.sub (fun b hb => by cases hb)) hsm9 (by simp; omega) (by rw [allC_len]; omega)) rfl ?_
      rintro _ w35 ⟨v81, rfl, hR, hm35⟩
      replace hm0 := hm0.trans hm35
      replace hL := hL.gr hm35
      clear hm35
      rw [hch9]
      refine L.v (R1.move rfl) rfl <| L.v (R1.extract rfl rfl) rfl <| L.v (R1.extract rfl rfl) rfl <| L.v (R1.assign rfl) rfl <| L.v (R1.assign rfl) rfl <| L.nil <| X.seq <| W.seq <| W.seq <| W.region <| L.v (R1.move rfl) rfl ?_
      refine L.v ((R1.not rfl).asB (c := false) rfl) rfl <| L.v (R1.move rfl) rfl <| L.on rfl rfl rfl (R1.move rfl) rfl <| L.on rfl rfl rfl (R1.lenLay rfl hR tyS24) rfl <| L.on rfl rfl rfl (R1.move rfl) rfl <| L.on rfl rfl rfl (R1.lenLay rfl hL tyS22) rfl <| L.on rfl rfl rfl ((R1.ne rfl rfl).asB (c := false) (by rw [hsl9]; simp)) rfl <| L.v (R1.pickF rfl rfl) rfl <| L.nil <| X.seq <| W.condF rfl ?_
      refine W.skip <| X.seq <| W.seq <| W.seq <| W.region <| L.v (R1.assign rfl) rfl <| L.nil <| X.seq <| W.block <| W.loop (ι := Nat) (fun j => [(10, v81), (12, .int .i64 ((j : Nat) : Int))]) (fun j w_ => Lay rdI [] w_ v81 (setZ (n : Int) (allC n zs zs.length) (List.replicate zs.length (-1))) ∧ j ≤ (setZ (n : Int) (allC n zs zs.length) (List.replicate zs.length (-1))).length ∧ Mod [] w w_) (fun j => (setZ (n : Int) (allC n zs zs.length) (List.replicate zs.length (-1))).length - j) 0 ?_ ?_ ?_
      · exact ⟨rfl, rfl, trivial⟩
      ·
       exact ⟨hR.sub (by intro b hb; first | exact hb | (simp only [mq] at hb ⊢; grind)), Nat.zero_le _, hm0⟩
      ·
       rintro j w36 ⟨hR, hj, hm0⟩
       refine W.seq <| W.seq <| W.region <| L.v (R1.move rfl) rfl <| L.v (R1.move rfl) rfl <| L.v (R1.lenLay rfl hR tyS24) rfl <| L.v (R1.lt rfl rfl) rfl <| L.nil <| X.seq <| W.cond rfl ?_ ?_
       ·
        intro hc96
        try simp only [bq, ne_eq] at hc96
        refine W.skip <| X.seq <| W.seq <| W.block <| W.seq <| W.region <| L.v (R1.move rfl) rfl <| L.v (R1.move rfl) rfl <| L.v (R1.atLay (j := j) rfl rfl hR tyS24 rfl (by omega)) rfl <| L.v (R1.loadLI rfl hR tyP3 (by omega) (getD_at _)) rfl <| L.v ((R1.lt rfl rfl).asB (c := false) (decide_eq_false (by have h9 := all_tell (n := n) zs hn1 hn20 hln (i := j) (by omega); omega))) rfl ?_
        refine L.nil <| X.seq <| W.condF rfl <| W.skip <| X.blockEnd <| X.seq <| W.region <| L.v (R1.move rfl) rfl <| L.v (R1.addI (b := 1) rfl rfl (by omega)) rfl <| L.v (R1.assign rfl) rfl <| L.nil ?_
        refine X.next (j + 1) ?_ ?_ ?_
        · exact ⟨rfl, rfl, trivial⟩
        ·
         exact ⟨hR.sub (by intro b hb; first | exact hb | (simp only [mq] at hb ⊢; grind)), by omega, hm0⟩
        · first | omega | (dsimp only; omega)
       ·
        intro hc96
        try simp only [bq, ne_eq] at hc96
        refine W.exit <| X.thenExit <| X.nextExit <| X.here <| X.seq <| W.seq <| W.region <| L.call rfl (c_known13) rfl ?_
        rintro _ w37 ⟨rfl, hm37⟩
        replace hm0 := hm0.trans hm37
        clear hm37
        refine L.v (R1.assign rfl) rfl <| L.nil <| X.seq <| W.ret <| X.result1 rfl (.tmp rfl .nil) ?_
        exact ⟨rfl, hm0⟩
  ·
   try simp only [bq, ne_eq] at hgd19
   refine L.off rfl rfl rfl rfl rfl <| L.off rfl rfl rfl rfl rfl <| L.off rfl rfl rfl rfl rfl <| L.off rfl rfl rfl rfl rfl <| L.v (R1.pickT rfl rfl) rfl <| L.nil <| X.seq <| W.condT rfl <| W.seq <| W.region <| L.v (R1.assign rfl) rfl ?_
   refine L.nil <| X.seq <| W.ret <| X.thenRet <| X.result1 rfl (.tmp rfl .nil) ?_
   exact ⟨rfl, hm0⟩
 ·
  try simp only [bq, ne_eq] at hgd15
  refine L.off rfl rfl rfl rfl rfl <| L.off rfl rfl rfl rfl rfl <| L.v (R1.pickT rfl rfl) rfl <| L.v (R1.move rfl) rfl <| L.off rfl rfl rfl rfl rfl <| L.off rfl rfl rfl rfl rfl <| L.off rfl rfl rfl rfl rfl <| L.off rfl rfl rfl rfl rfl <| L.v (R1.pickT rfl rfl) rfl <| L.nil <| X.seq ?_
  refine W.condT rfl <| W.seq <| W.region <| L.v (R1.assign rfl) rfl <| L.nil <| X.seq <| W.ret <| X.thenRet <| X.result1 rfl (.tmp rfl .nil) ?_
  exact ⟨rfl, hm0⟩

end Go.Proofs.Ytfpipaoobmcomaa
