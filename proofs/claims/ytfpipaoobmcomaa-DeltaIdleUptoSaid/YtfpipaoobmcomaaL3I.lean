/- Walks: what the functions compute. -/
import Derived.Test.YtfpipaoobmcomaaL3K
namespace Go.Proofs.Ytfpipaoobmcomaa
open Go.RowKit
set_option linter.unusedVariables false
set_option linter.unusedSimpArgs false
set_option maxRecDepth 10000

theorem firstW_sub {n : Nat} {us ws : List (List Nat)} (h : us.Sublist ws) : ∀ (P : List (List Nat)), InW n (P ++ ws) → firstW (List.range n) (P ++ ws) 0 = none → firstW (List.range n) (P ++ us) 0 = none := by
  induction h with
  | slnil => intro P _ h; exact h
  | @cons us l a _ ih =>
    intro P hw h
    refine ih P (fun w hw2 => hw w ?_) (firstW_fewer hw h)
    rcases List.mem_append.1 hw2 with h1 | h1
    · exact List.mem_append_left _ h1
    · exact List.mem_append_right _ (List.mem_cons_of_mem _ h1)
  | @cons_cons us l a _ ih =>
    intro P hw h
    have := ih (P ++ [a]) (by simpa using hw) (by simpa using h)
    simpa using this
def subI (o : List Int) (i : Nat) : List Nat := (List.range i).filter fun j => decide (0 ≤ o.getD j 0)
def subC (cs : List CR) (o : List Int) (i : Nat) : List CR := (subI o i).map fun j => cs.getD j c0R
def subO (o : List Int) (i : Nat) : List Int := (subI o i).map fun j => o.getD j 0
theorem subI_yes {o : List Int} {i : Nat} (h : 0 ≤ o.getD i 0) : subI o (i + 1) = subI o i ++ [i] := by
  unfold subI; rw [List.range_succ, List.filter_append, List.filter_cons, if_pos (decide_eq_true h)]; rfl
theorem subI_no {o : List Int} {i : Nat} (h : ¬ 0 ≤ o.getD i 0) : subI o (i + 1) = subI o i := by
  unfold subI; rw [List.range_succ, List.filter_append, List.filter_cons, if_neg (by rw [decide_eq_false h]; decide)]; exact List.append_nil _
theorem subC_yes {cs : List CR} {o : List Int} {i : Nat} {z : CR} (hz : cs[i]? = some z) (h : 0 ≤ o.getD i 0) : subC cs o (i + 1) = subC cs o i ++ [z] := by
  unfold subC; rw [subI_yes h, List.map_append]
  show _ ++ [cs.getD i c0R] = _
  rw [getD_of_get hz]
theorem subI_le (o : List Int) (i : Nat) : (subI o i).length ≤ i := by
  unfold subI; exact Nat.le_trans (List.length_filter_le _ _) (by simp)
theorem map_getD (cs : List CR) : (List.range cs.length).map (fun j => cs.getD j c0R) = cs := by
  apply List.ext_getElem (by simp)
  intro i h1 h2
  simp [List.getD_eq_getElem?_getD, h2]
theorem sub_mem {cs : List CR} {o : List Int} : ∀ c ∈ subC cs o cs.length, c ∈ cs := fun c hc => by
  obtain ⟨j, hj, rfl⟩ := List.mem_map.1 hc
  unfold subI at hj
  have := (List.mem_filter.1 hj).1
  rw [List.mem_range] at this
  rw [List.getD_eq_getElem?_getD, List.getElem?_eq_getElem this]
  exact List.getElem_mem this
theorem sub_ch {z : Int} {cs : List CR} {o : List Int} (h : ChB z cs o = true) : ChB z (subC cs o cs.length) (subO o cs.length) = true := by
  obtain ⟨h1, h2, h3, h4, h5, h6⟩ := ChB_true h
  have hle := subI_le o cs.length
  have hsrt : (subI o cs.length).Pairwise (· < ·) := List.pairwise_lt_range.filter _
  have hat : ∀ j (hj : j < (subI o cs.length).length), (subI o cs.length)[j] < cs.length ∧ 0 ≤ o.getD ((subI o cs.length)[j]) 0 := fun j hj => by
    have hm := List.getElem_mem hj
    unfold subI at hm
    obtain ⟨a, b⟩ := List.mem_filter.1 hm
    exact ⟨List.mem_range.1 a, of_decide_eq_true b⟩
  refine decide_eq_true ⟨h1, h2, by unfold subC; rw [List.length_map]; omega, by simp [subC, subO], fun j hj => ?_, ?_⟩
  · unfold subC at hj
    rw [List.length_map] at hj
    obtain ⟨a1, a2⟩ := hat j hj
    have e1 : (subC cs o cs.length).getD j c0R = cs.getD ((subI o cs.length)[j]) c0R := by
      unfold subC; rw [List.getD_eq_getElem?_getD, List.getElem?_map, List.getElem?_eq_getElem hj]; rfl
    have e2 : ∀ k (hk : k < (subI o cs.length).length), (subO o cs.length).getD k 0 = o.getD ((subI o cs.length)[k]) 0 := fun k hk => by
      unfold subO; rw [List.getD_eq_getElem?_getD, List.getElem?_map, List.getElem?_eq_getElem hk]; rfl
    obtain ⟨b1, b2⟩ := h5 _ a1
    unfold stepP
    rw [e1, e2 j hj]
    refine ⟨b1, .inr ?_⟩
    rcases b2 with b2 | b2
    · omega
    · refine ⟨b2.1, fun k hk => ?_⟩
      rw [e2 k (by omega)]
      exact b2.2 _ ((List.pairwise_iff_getElem.1 hsrt) k j (by omega) hj hk)
  · have hs : (wsOf z.toNat (subC cs o cs.length)).Sublist (wsOf z.toNat cs) := by
      unfold wsOf
      refine List.Sublist.map _ ?_
      have h9 : (subC cs o cs.length).Sublist ((List.range cs.length).map fun j => cs.getD j c0R) := List.Sublist.map _ List.filter_sublist
      rwa [map_getD] at h9
    have := firstW_sub hs [] (by simpa using wsOf_in z.toNat cs) (by simpa using h6)
    simpa using this
theorem sub_set {z : Int} {cs : List CR} {o : List Int} (h : ChB z cs o = true) : setZ z (subC cs o cs.length) (subO o cs.length) = subO o cs.length := by
  have h2 := sub_ch h
  obtain ⟨n, rfl, _⟩ := nat_of h
  rw [setZ_yes h2]
  have hC := ChoZ.of h2
  refine setl_same (passF_same hC.c (fun i hi hno => ?_))
  rw [ws_len] at hi
  exfalso
  have h3 := (hC.idle hi).2 hno
  have h4 : i < (subI o cs.length).length := by unfold subC at hi; rwa [List.length_map] at hi
  have e2 : (subO o cs.length).getD i 0 = o.getD ((subI o cs.length)[i]) 0 := by
    unfold subO; rw [List.getD_eq_getElem?_getD, List.getElem?_map, List.getElem?_eq_getElem h4]; rfl
  have hm := List.getElem_mem h4
  unfold subI at hm
  have h5 := (List.mem_filter.1 hm).2
  rw [decide_eq_true_eq] at h5
  rw [e2] at h3
  have h6 : 0 ≤ o.getD ((subI o cs.length)[i]) 0 := h5
  omega

theorem fillK1 (v1 : Int) (T1 : Option Addr) (l1 t1 : Nat) (s1 : Bool) (A1 : Option Addr) (n1 c1 : Nat) (B1 : Option Addr) (m1 d1 : Nat) : Instr.fill (fun i => some (i * 5, 5)) ((Array.range (1 * 5)).map ((Value.agg #[.int .i64 0, .slice none 0 0, .bool false, .slice none 0 0, .slice none 0 0]).cells[· % (Value.agg #[.int .i64 0, .slice none 0 0, .bool false, .slice none 0 0, .slice none 0 0]).cells.size]!)) [(0, .agg #[.int .i64 v1, .slice T1 l1 t1, .bool s1, .slice A1 n1 c1, .slice B1 m1 d1])] = some #[.int .i64 v1, .slice T1 l1 t1, .bool s1, .slice A1 n1 c1, .slice B1 m1 d1] := by kernel_rfl
set_option maxHeartbeats 1000000 in
theorem c_DeltaIdle {w : World} {vl : Value} {cs : List CR} {z0 : Int} (hL : Lay rdC [] w vl cs) (hb : szCs cs ≤ 4194304) :
    Ret Try.prog 6 #[vl, .int .i64 z0] w (fun r w' => r = .bool true ∧ Mod [] w w') := by
 have hbd : Bd [] w := fun m hm => by cases hm
 obtain ⟨TL, tL, rfl⟩ := hL.form
 have hmaxL := hL.max; unfold maxLen at hmaxL
 refine Ret.of (vs := [.slice TL cs.length tL, .int .i64 z0]) (n := 93) Try.func6 rfl rfl rfl rfl ?_
 have hm0 : Mod [] w w := Mod.refl _ _
 refine W.seq <| W.region <| L.v (R1.assign rfl) rfl <| L.nil <| X.seq <| W.seq <| W.seq <| W.region <| L.v (R1.move rfl) rfl <| L.call rfl (c_heavy_pantographlaw13 hL hb) rfl ?_
 rintro _ w1 ⟨rfl, hm1⟩
 replace hL := hL.gr hm1
 replace hbd := hbd.gr hm1
 replace hm0 := hm0.trans hm1
 clear hm1
 refine L.v (R1.move rfl) rfl ?_
 cases hgd16 : (decide (150 < szCs cs))
 ·
  have hcc_ := hgd16
  refine L.on rfl rfl rfl (R1.move rfl) rfl <| L.on rfl rfl rfl (R1.lenLay rfl hL tyS22) rfl <| L.on rfl rfl rfl ((R1.gt rfl rfl).asB (c := (decide ((12 : Int) < (cs.length : Int)))) (rfl)) rfl <| L.v (R1.pickF rfl rfl) rfl <| L.nil <| X.seq <| W.cond rfl ?_ ?_
  ·
   intro hc20
   have hcc_ := hc20
   refine W.seq <| W.region <| L.v (R1.assign rfl) rfl <| L.nil <| X.seq <| W.ret <| X.thenRet <| X.result1 rfl (.tmp rfl .nil) ?_
   exact ⟨rfl, hm0⟩
  ·
   intro hc20
   have hcc_ := hc20
   have hsm := sm150 (by simpa using hgd16)
   have hcl : cs.length ≤ 12 := by have h9 := of_decide_eq_false hc20; omega
   refine W.skip <| X.seq <| W.seq <| W.region <| L.v (R1.assign rfl) rfl <| L.nil <| X.seq <| W.seq <| W.seq <| W.region <| L.v (R1.assign rfl) rfl ?_
   refine L.nil <| X.seq <| W.block <| W.loop (ι := Nat × Value) (fun (i, u) => [(0, .slice TL cs.length tL), (1, .int .i64 z0), (5, u), (6, .int .i64 ((i : Nat) : Int))]) (fun (i, u) w_ => Lay rdC (ownL u ++ []) w_ (.slice TL cs.length tL) cs ∧ w_.ownsRow w.heap.size 3 1 u i (intsZ (List.replicate i (-1))) ∧ i ≤ cs.length ∧ Bd (ownL u ++ []) w_ ∧ Mod [] w w_) (fun (i, u) => cs.length - i) (0, .slice none 0 0) ?_ ?_ ?_
   · exact ⟨rfl, rfl, rfl, rfl, trivial⟩
   ·
    exact ⟨hL.sub (by intro b hb; first | exact hb | (simp only [mq] at hb ⊢; grind)), own_nil _ _ _ _, Nat.zero_le _, hbd.sub (by intro b hb; first | exact hb | (simp only [mq] at hb ⊢; grind)), hm0⟩
   ·
    rintro ⟨i, u⟩ w2 ⟨hL, ho, hi, hbd, hm0⟩
    refine W.seq <| W.seq <| W.region <| L.v (R1.move rfl) rfl <| L.v (R1.move rfl) rfl <| L.v (R1.lenLay rfl hL tyS22) rfl <| L.v (R1.lt rfl rfl) rfl <| L.nil <| X.seq <| W.cond rfl ?_ ?_
    ·
     intro hc24
     try simp only [bq, ne_eq] at hc24
     refine W.skip <| X.seq <| W.seq <| W.block <| W.region <| L.v (R1.move rfl) rfl <| L.build1 rfl rfl tyS24 tyZ3 rfl ?_
     intro g28 w3 hN28
     replace hL := hL.gr hN28.mod
     replace ho := own_gr ho hN28.mod (by simp)
     replace hbd := hbd.gr hN28.mod
     replace hm0 := hm0.trans hN28.mod
     have hrow : Sl [] w3 1 (.slice (some ⟨g28, 0, none⟩) 1 1) 1 [.int .i64 (-1)] := Sl.of_blk hN28.blk 0 (Nat.le_refl _) (by decide) rfl (by simp) (fun j hj => by simp)
     clear hN28
     refine L.append rfl rfl ho hrow (by simp [Value.oneCell']) tyS24 tyZ3 (by omega) (by unfold maxLen; omega) hm0.size rfl ?_
     intro v29 w4 ho29' hG29
     replace hL := hL.grew2 hG29 (by first | exact mem_own | (intro b hb; simp [hb]))
     replace hbd := hbd.grew2 hG29 (by first | exact mem_own | (intro b hb; simp [hb]))
     replace hm0 := Mod.oldOwn hm0 hG29.mod ho
     replace ho := ho29'; clear ho29'
     clear hG29
     refine L.v (R1.assign rfl) rfl <| L.nil <| X.blockEnd <| X.seq <| W.region <| L.v (R1.move rfl) rfl <| L.v (R1.addI (b := 1) rfl rfl (by omega)) rfl <| L.v (R1.assign rfl) rfl <| L.nil <| X.next (i + 1, v29) ?_ ?_ ?_
     · exact ⟨rfl, rfl, rfl, rfl, trivial⟩
     ·
      exact ⟨hL.sub (by intro b hb; first | exact hb | (simp only [mq] at hb ⊢; grind)), own_congr ho rfl (by simp [intsZ, List.replicate_succ']), by omega, hbd.sub (by intro b hb; first | exact hb | (simp only [mq] at hb ⊢; grind)), hm0⟩
     · first | omega | (dsimp only; omega)
    ·
     intro hc24
     try simp only [bq, ne_eq] at hc24
     obtain rfl : i = cs.length := by omega
     have hO := Lay.of_Z (M := []) ho (by simp)
     have hol : (List.replicate cs.length (-1)).length ≤ 1000000 := by rw [List.length_replicate]; omega
     refine W.exit <| X.thenExit <| X.nextExit <| X.here <| X.seq <| W.seq <| W.region <| L.v (R1.move rfl) rfl <| L.v (R1.move rfl) rfl <| L.v (R1.move rfl) rfl <| L.call rfl (c_SettleL (hL.sub (M' := []) (fun b hb => by cases hb)) (hO.sub (M' := []) (fun b hb => by cases hb)) (hbd.sub (M' := []) (fun b hb => by cases hb)) hsm hol hcl) rfl ?_
     rintro _ w5 ⟨v34, rfl, hR, hm5⟩
     replace hL := hL.gr hm5
     replace hbd := hbd.gr hm5
     replace hm0 := hm0.trans hm5
     replace hO := hO.gr hm5
     clear hm5
     refine L.v (R1.move rfl) rfl <| L.v (R1.extract rfl rfl) rfl <| L.v (R1.extract rfl rfl) rfl <| L.v (R1.assign rfl) rfl <| L.v (R1.assign rfl) rfl <| L.nil <| X.seq <| W.seq <| W.seq <| W.region <| L.v (R1.move rfl) rfl ?_
     refine L.v (R1.not rfl) rfl <| L.nil <| X.seq <| W.cond rfl ?_ ?_
     ·
      intro hc38
      simp only [Bool.not_eq_true', Bool.not_eq_false'] at hc38
      refine W.seq <| W.region <| L.v (R1.move rfl) rfl <| L.v (R1.move rfl) rfl <| L.v (R1.move rfl) rfl <| L.call rfl (c_r13_Is (hL.sub (M' := []) (fun b hb => by cases hb)) (hO.sub (M' := []) (fun b hb => by cases hb)) (hbd.sub (M' := []) (fun b hb => by cases hb)) hsm) rfl ?_
      rintro _ w6 ⟨rfl, hm6⟩
      replace hm0 := hm0.trans hm6
      clear hm6
      refine L.v ((R1.not rfl).asB (c := true) (by rw [hc38]; rfl)) rfl <| L.v (R1.move rfl) rfl <| L.callOn rfl rfl rfl rfl (c_known13) rfl ?_
      rintro _ w7 ⟨rfl, hm7⟩
      replace hm0 := hm0.trans hm7
      clear hm7
      refine L.v (R1.pickT rfl rfl) rfl <| L.v (R1.assign rfl) rfl <| L.nil <| X.seq <| W.ret <| X.thenRet <| X.result1 rfl (.tmp rfl .nil) ?_
      exact ⟨rfl, hm0⟩
     ·
      intro hc38
      simp only [Bool.not_eq_true', Bool.not_eq_false'] at hc38
      have hsl0 := setZ_len hc38
      refine W.skip <| X.seq <| W.seq <| W.seq <| W.region <| L.v (R1.move rfl) rfl <| L.v (R1.lenLay rfl hR tyS24) rfl <| L.v (R1.move rfl) rfl <| L.v (R1.lenLay rfl hL tyS22) rfl <| L.v ((R1.ne rfl rfl).asB (c := false) (by rw [setZ_len hc38]; simp)) rfl <| L.nil ?_
      refine X.seq <| W.condF rfl <| W.skip <| X.seq <| W.seq <| W.region <| L.v (R1.assign rfl) rfl <| L.nil <| X.seq <| W.seq <| W.region ?_
      refine L.v (R1.assign rfl) rfl <| L.nil <| X.seq <| W.seq <| W.seq <| W.region <| L.v (R1.assign rfl) rfl <| L.nil <| X.seq <| W.block <| W.loop (ι := Nat × Value × Value × List (List Value)) (fun (i, um, up, csm) => [(0, .slice TL cs.length tL), (1, .int .i64 z0), (7, v34), (9, um), (10, up), (11, .int .i64 ((i : Nat) : Int))]) (fun (i, um, up, csm) w_ => Lay rdC (ownL um ++ (ownL up ++ [])) w_ (.slice TL cs.length tL) cs ∧ Lay rdI (ownL um ++ (ownL up ++ [])) w_ v34 (setZ z0 cs (List.replicate cs.length (-1))) ∧ w_.ownsRow w.heap.size 41 5 um (subC cs (setZ z0 cs (List.replicate cs.length (-1))) i).length csm.flatten ∧ LayL rdC (ownL um ++ (ownL up ++ [])) w_ csm (subC cs (setZ z0 cs (List.replicate cs.length (-1))) i) ∧ w_.ownsRow w.heap.size 3 1 up (subO (setZ z0 cs (List.replicate cs.length (-1))) i).length (intsZ (subO (setZ z0 cs (List.replicate cs.length (-1))) i)) ∧ Away um up ∧ Bd (ownL um ++ (ownL up ++ [])) w_ ∧ Mod [] w w_ ∧ i ≤ cs.length) (fun (i, um, up, csm) => cs.length - i) (0, .slice none 0 0, .slice none 0 0, []) ?_ ?_ ?_
      · exact ⟨rfl, rfl, rfl, rfl, rfl, rfl, trivial⟩
      ·
       exact ⟨hL.sub (by intro b hb; first | exact hb | (simp only [mq] at hb; done) | (simp only [mq] at hb ⊢; grind)), hR.sub (by intro b hb; first | exact hb | (simp only [mq] at hb ⊢; grind)), own_nil _ _ _ _, LayL.nil, own_nil _ _ _ _, Away.nil _ _, hbd.sub (by intro b hb; first | exact hb | (simp only [mq] at hb; done) | (simp only [mq] at hb ⊢; grind)), hm0, Nat.zero_le _⟩
      ·
       rintro ⟨i, um, up, csm⟩ w8 ⟨hL, hR, hm, hlm, hp, hawmp, hbd, hm0, hi⟩
       refine W.seq <| W.seq <| W.region <| L.v (R1.move rfl) rfl <| L.v (R1.move rfl) rfl <| L.v (R1.lenLay rfl hL tyS22) rfl <| L.v (R1.lt rfl rfl) rfl <| L.nil <| X.seq <| W.cond rfl ?_ ?_
       ·
        intro hc55
        try simp only [bq, ne_eq] at hc55
        refine W.skip <| X.seq <| W.seq <| W.block <| W.seq <| W.region <| L.v (R1.move rfl) rfl <| L.v (R1.move rfl) rfl <| L.v (R1.atLay (j := i) rfl rfl hR tyS24 rfl (by omega)) rfl <| L.v (R1.loadLI rfl hR tyP3 (by omega) (getD_at _)) rfl <| L.v (R1.ge rfl rfl) rfl ?_
        refine L.nil <| X.seq <| W.cond rfl ?_ ?_
        ·
         intro hc62
         try simp only [bq, ne_eq] at hc62
         refine W.cut (ι := Value × Value × List (List Value)) (fun (um, up, csm) => [(0, .slice TL cs.length tL), (1, .int .i64 z0), (7, v34), (9, um), (10, up), (11, .int .i64 ((i : Nat) : Int))]) (fun (um, up, csm) w_ => Lay rdC (ownL um ++ (ownL up ++ [])) w_ (.slice TL cs.length tL) cs ∧ Lay rdI (ownL um ++ (ownL up ++ [])) w_ v34 (setZ z0 cs (List.replicate cs.length (-1))) ∧ w_.ownsRow w.heap.size 41 5 um (subC cs (setZ z0 cs (List.replicate cs.length (-1))) (i + 1)).length csm.flatten ∧ LayL rdC (ownL um ++ (ownL up ++ [])) w_ csm (subC cs (setZ z0 cs (List.replicate cs.length (-1))) (i + 1)) ∧ w_.ownsRow w.heap.size 3 1 up (subO (setZ z0 cs (List.replicate cs.length (-1))) (i + 1)).length (intsZ (subO (setZ z0 cs (List.replicate cs.length (-1))) (i + 1))) ∧ Away um up ∧ Bd (ownL um ++ (ownL up ++ [])) w_ ∧ Mod [] w w_) ?_ ?_
         ·
          refine W.drawG (ownL um) (T := [13, 14, 15]) rfl (by decide +kernel) (NoHang.join (NoHang.block (NoHang.then (NoHang.next (NoHang.block (NoHang.then NoHang.post)))))) (fun w9 hm9 => ?_)
          replace hL := hL.gr hm9
          replace hR := hR.gr hm9
          replace hm := own_gr hm hm9 (by simp)
          replace hlm := hlm.gr hm9
          replace hp := own_gr hp hm9 (by simp)
          replace hbd := hbd.gr hm9
          replace hm0 := hm0.trans hm9
          have hS1 : Mod (ownL um) w9 w9 := Mod.refl _ _
          clear hm9
          refine D.take 0 rfl (by decide +kernel) (fun w_ hS => (R1.move rfl)) hS1 rfl <| D.take 1 rfl (by decide +kernel) (fun w_ hS => (R1.move rfl)) hS1 rfl <| D.take 2 rfl (by decide +kernel) (fun w_ hS => (R1.move rfl)) hS1 rfl <| D.take 3 rfl (by decide +kernel) (fun w_ hS => (R1.atLay (j := i) rfl rfl (Lay.mod hL hS (by first | exact mem_own | (intro b hb; simp [hb]))) tyS22 rfl (by omega))) hS1 rfl ?_
          obtain ⟨z67, cs67, hz67, hE67, vt67, ds67, rfl, ht67, vn67, vd67, rfl, hn67, hd67⟩ := Lay.elemQ hL (j := i) (by omega)
          obtain ⟨T67, t67, rfl⟩ := ht67.form
          obtain ⟨A67, c67, rfl⟩ := hn67.form
          obtain ⟨B67, e67, rfl⟩ := hd67.form
          refine D.take 4 rfl (by decide +kernel) (fun w_ hS => (R1.loadE rfl (SlE.mod hE67 hS (by first | exact mem_own | (intro b hb; simp [hb]))) tyG41)) hS1 rfl <| D.take 7 rfl (by decide +kernel) (fun w_ hS => (R1.move rfl)) hS1 rfl <| D.take 8 rfl (by decide +kernel) (fun w_ hS => (R1.move rfl)) hS1 rfl <| D.take 9 rfl (by decide +kernel) (fun w_ hS => (R1.move rfl)) hS1 rfl <| D.take 10 rfl (by decide +kernel) (fun w_ hS => (R1.atLay (j := i) rfl rfl (Lay.mod hR hS (by first | exact mem_own | (intro b hb; simp [hb]))) tyS24 rfl (by omega))) hS1 rfl <| D.take 11 rfl (by decide +kernel) (fun w_ hS => (R1.loadLI rfl (Lay.mod hR hS (by first | exact mem_own | (intro b hb; simp [hb]))) tyP3 (by omega) (getD_at _))) hS1 rfl <| D.many (rs := [5, 12]) (by decide +kernel) rfl ?_
          intro i_ hi_
          simp only [List.mem_cons, List.not_mem_nil, or_false] at hi_
          rcases hi_ with rfl | rfl
          ·
           refine ⟨_, rfl, fun hX => ?_⟩
           refine L.buildSlice (cells := [.int .i64 z67.st, .slice T67 z67.ts.length t67, .bool z67.k.s, .slice A67 z67.k.n.length c67, .slice B67 z67.k.d.length e67]) rfl tyS22 tyZ41 (fillK1 _ _ _ _ _ _ _ _ _ _ _) (by decide) (by decide) rfl ?_
           intro g68 w10 hN68
           have hgs_g68 := New.ge hN68 hS1.size
           replace hS1 := hS1.trans (hN68.mod.mono (by simp))
           replace hL := hL.new hN68
           replace hR := hR.new hN68
           have hno_hm_g68 := own_ne_new hm hN68
           replace hm := own_gr hm hN68.mod (by simp)
           replace hlm := hlm.new hN68
           have hno_hp_g68 := own_ne_new hp hN68
           replace hp := own_gr hp hN68.mod (by simp)
           replace hbd := hbd.new hN68
           have hge_g68 := New.ge hN68 hm0.size
           replace hm0 := hm0.trans (hN68.mod.mono (by simp))
           replace ht67 := ht67.new hN68
           replace hn67 := hn67.new hN68
           replace hd67 := hd67.new hN68
           have hb68 := hN68.blk
           clear hN68
           refine L.nil (hX _ _ ⟨.inr hS1, ?_⟩)
           refine D.many (rs := [6, 12]) (by decide +kernel) rfl ?_
           intro i_ hi_
           simp only [List.mem_cons, List.not_mem_nil, or_false] at hi_
           rcases hi_ with rfl | rfl
           ·
            refine ⟨_, rfl, fun hX => ?_⟩
            have hsl := subI_le (setZ z0 cs (List.replicate cs.length (-1))) i
            have hrowA : Sl [] w10 5 (.slice (some ⟨g68, 0, none⟩) 1 1) 1 [.int .i64 z67.st, .slice T67 z67.ts.length t67, .bool z67.k.s, .slice A67 z67.k.n.length c67, .slice B67 z67.k.d.length e67] := Sl.of_blk hb68 0 (Nat.le_refl _) (by decide) rfl (by simp) (fun j hj => by simp)
            have hslC : (subC cs (setZ z0 cs (List.replicate cs.length (-1))) i).length ≤ 12 := by unfold subC; rw [List.length_map]; omega
            refine L.append rfl rfl hm hrowA (by intro c hc; simp only [List.mem_cons, List.not_mem_nil, or_false] at hc; rcases hc with rfl | rfl | rfl | rfl | rfl <;> rfl) tyS22 tyZ41 (by omega) (by unfold maxLen; omega) hm0.size rfl ?_
            intro v69 w11 hm' hG69
            have hawmp_ := (Away.grew hawmp.symm hG69 hp).symm
            replace hL := hL.grew2 hG69 (by first | exact mem_own | (intro b hb; simp [hb]))
            replace hR := hR.grew2 hG69 (by first | exact mem_own | (intro b hb; simp [hb]))
            replace hlm := hlm.grew2 hG69 (by first | exact mem_own | (intro b hb; simp [hb]))
            replace hp := own_away (s' := 1) (el' := 0) (k' := 0) (B' := 0) (ys := []) hp hG69.mod (by first | assumption | exact Away.symm (by assumption))
            replace hbd := hbd.grew2 hG69 (by first | exact mem_own | (intro b hb; simp [hb]))
            replace hm0 := Mod.oldOwn hm0 hG69.mod hm
            replace ht67 := ht67.grew2 hG69 (by first | exact mem_own | (intro b hb; simp [hb]))
            replace hn67 := hn67.grew2 hG69 (by first | exact mem_own | (intro b hb; simp [hb]))
            replace hd67 := hd67.grew2 hG69 (by first | exact mem_own | (intro b hb; simp [hb]))
            have hnn_g68 := hG69.ne hno_hm_g68 hb68
            replace hb68 := Blk.grew hb68 hG69 hno_hm_g68
            replace hno_hm_g68 := hnn_g68
            replace hawmp := hawmp_; clear hawmp_
            replace hm := hm'; clear hm'
            replace hS1 := hS1.trans hG69.mod
            clear hG69
            refine L.nil (hX _ _ ⟨.inr hS1, ?_⟩)
            refine D.one 12 rfl (by decide +kernel) (fun hX => ?_)
            refine L.build1 rfl rfl tyS24 tyZ3 rfl ?_
            intro g75 w12 hN75
            have hgs_g75 := New.ge hN75 hS1.size
            replace hS1 := hS1.trans (hN75.mod.mono (by simp))
            replace hL := hL.new hN75
            replace hR := hR.new hN75
            have hno_hm_g75 := own_ne_new hm hN75
            replace hm := own_gr hm hN75.mod (by simp)
            replace hlm := hlm.new hN75
            have hno_hp_g75 := own_ne_new hp hN75
            replace hp := own_gr hp hN75.mod (by simp)
            replace hbd := hbd.new hN75
            have hge_g75 := New.ge hN75 hm0.size
            replace hm0 := hm0.trans (hN75.mod.mono (by simp))
            replace ht67 := ht67.new hN75
            replace hn67 := hn67.new hN75
            replace hd67 := hd67.new hN75
            have hne_g68_g75 := hb68.ne_ hN75
            replace hb68 := Blk.gr hb68 hN75.mod
            have hb75 := hN75.blk
            clear hN75
            refine L.nil (hX _ _ ⟨.inr hS1, ?_⟩)
            have hslO : (subO (setZ z0 cs (List.replicate cs.length (-1))) i).length ≤ 12 := by have h9 := subI_le (setZ z0 cs (List.replicate cs.length (-1))) i; unfold subO; rw [List.length_map]; omega
            have hrowB : Sl [] w12 1 (.slice (some ⟨g75, 0, none⟩) 1 1) 1 [.int .i64 ((setZ z0 cs (List.replicate cs.length (-1))).getD i 0)] := Sl.of_blk hb75 0 (Nat.le_refl _) (by decide) rfl (by simp) (fun j hj => by simp)
            refine D.one 13 rfl (by decide +kernel) (fun hX => ?_)
            refine L.append rfl rfl hp hrowB (by simp [Value.oneCell']) tyS24 tyZ3 (by omega) (by unfold maxLen; omega) hm0.size rfl ?_
            intro v76 w13 hp' hG76
            have hawmp_ := Away.grew hawmp hG76 hm
            replace hL := hL.grew2 hG76 (by first | exact mem_own | (intro b hb; simp [hb]))
            replace hR := hR.grew2 hG76 (by first | exact mem_own | (intro b hb; simp [hb]))
            replace hm := own_away (s' := 1) (el' := 0) (k' := 0) (B' := 0) (ys := []) hm hG76.mod (by first | assumption | exact Away.symm (by assumption))
            replace hlm := hlm.grew2 hG76 (by first | exact mem_own | (intro b hb; simp [hb]))
            replace hbd := hbd.grew2 hG76 (by first | exact mem_own | (intro b hb; simp [hb]))
            replace hm0 := Mod.oldOwn hm0 hG76.mod hp
            replace ht67 := ht67.grew2 hG76 (by first | exact mem_own | (intro b hb; simp [hb]))
            replace hn67 := hn67.grew2 hG76 (by first | exact mem_own | (intro b hb; simp [hb]))
            replace hd67 := hd67.grew2 hG76 (by first | exact mem_own | (intro b hb; simp [hb]))
            replace hawmp := hawmp_; clear hawmp_
            replace hp := hp'; clear hp'
            clear hG76
            refine L.nil (hX _ _ ⟨.inl rfl, ?_⟩)
            refine D.one 14 rfl (by decide +kernel) (fun hX => ?_)
            refine L.v (R1.assign rfl) rfl (L.nil (hX _ _ ⟨.inl rfl, ?_⟩))
            refine D.one 15 rfl (by decide +kernel) (fun hX => ?_)
            refine L.v (R1.assign rfl) rfl (L.nil (hX _ _ ⟨.inl rfl, ?_⟩))
            refine D.done (by decide +kernel) ?_ _
            refine X.join (v69, v76, csm ++ [[.int .i64 z67.st, .slice T67 z67.ts.length t67, .bool z67.k.s, .slice A67 z67.k.n.length c67, .slice B67 z67.k.d.length e67]]) ?_ ?_
            · exact ⟨rfl, rfl, rfl, rfl, rfl, rfl, trivial⟩
            ·
             exact ⟨hL.sub (by intro b hb; first | exact hb | (simp only [mq] at hb ⊢; grind)), hR.sub (by intro b hb; first | exact hb | (simp only [mq] at hb ⊢; grind)), own_congr hm (by rw [show (subC cs (setZ z0 cs (List.replicate cs.length (-1))) (i + 1)) = (subC cs (setZ z0 cs (List.replicate cs.length (-1))) i) ++ [z67] from (subC_yes hz67 hc62)]; try simp) (by try simp), by rw [show (subC cs (setZ z0 cs (List.replicate cs.length (-1))) (i + 1)) = (subC cs (setZ z0 cs (List.replicate cs.length (-1))) i) ++ [z67] from (subC_yes hz67 hc62)]; exact (hlm.sub (by intro b hb; first | exact hb | (simp only [mq] at hb ⊢; grind))).append (LayL.one _ z67 (rdC_mk (ht67.sub (by intro b hb; first | exact hb | (simp only [mq] at hb ⊢; grind))) (hn67.sub (by intro b hb; first | exact hb | (simp only [mq] at hb ⊢; grind))) (hd67.sub (by intro b hb; first | exact hb | (simp only [mq] at hb ⊢; grind))))), own_congr hp (by unfold subO; rw [subI_yes hc62]; try simp) (by unfold subO; rw [subI_yes hc62, List.map_append, intsZ_append]; try rfl), hawmp, hbd.sub (by intro b hb; first | exact hb | (simp only [mq] at hb ⊢; grind)), hm0⟩
           ·
            refine ⟨_, rfl, fun hX => ?_⟩
            refine L.build1 rfl rfl tyS24 tyZ3 rfl ?_
            intro g75 w14 hN75
            have hgs_g75 := New.ge hN75 hS1.size
            replace hS1 := hS1.trans (hN75.mod.mono (by simp))
            replace hL := hL.new hN75
            replace hR := hR.new hN75
            have hno_hm_g75 := own_ne_new hm hN75
            replace hm := own_gr hm hN75.mod (by simp)
            replace hlm := hlm.new hN75
            have hno_hp_g75 := own_ne_new hp hN75
            replace hp := own_gr hp hN75.mod (by simp)
            replace hbd := hbd.new hN75
            have hge_g75 := New.ge hN75 hm0.size
            replace hm0 := hm0.trans (hN75.mod.mono (by simp))
            replace ht67 := ht67.new hN75
            replace hn67 := hn67.new hN75
            replace hd67 := hd67.new hN75
            have hne_g68_g75 := hb68.ne_ hN75
            replace hb68 := Blk.gr hb68 hN75.mod
            have hb75 := hN75.blk
            clear hN75
            refine L.nil (hX _ _ ⟨.inr hS1, ?_⟩)
            have hsl := subI_le (setZ z0 cs (List.replicate cs.length (-1))) i
            have hrowA : Sl [] w14 5 (.slice (some ⟨g68, 0, none⟩) 1 1) 1 [.int .i64 z67.st, .slice T67 z67.ts.length t67, .bool z67.k.s, .slice A67 z67.k.n.length c67, .slice B67 z67.k.d.length e67] := Sl.of_blk hb68 0 (Nat.le_refl _) (by decide) rfl (by simp) (fun j hj => by simp)
            have hslC : (subC cs (setZ z0 cs (List.replicate cs.length (-1))) i).length ≤ 12 := by unfold subC; rw [List.length_map]; omega
            refine D.one 6 rfl (by decide +kernel) (fun hX => ?_)
            refine L.append rfl rfl hm hrowA (by intro c hc; simp only [List.mem_cons, List.not_mem_nil, or_false] at hc; rcases hc with rfl | rfl | rfl | rfl | rfl <;> rfl) tyS22 tyZ41 (by omega) (by unfold maxLen; omega) hm0.size rfl ?_
            intro v69 w15 hm' hG69
            have hawmp_ := (Away.grew hawmp.symm hG69 hp).symm
            replace hL := hL.grew2 hG69 (by first | exact mem_own | (intro b hb; simp [hb]))
            replace hR := hR.grew2 hG69 (by first | exact mem_own | (intro b hb; simp [hb]))
            replace hlm := hlm.grew2 hG69 (by first | exact mem_own | (intro b hb; simp [hb]))
            replace hp := own_away (s' := 1) (el' := 0) (k' := 0) (B' := 0) (ys := []) hp hG69.mod (by first | assumption | exact Away.symm (by assumption))
            replace hbd := hbd.grew2 hG69 (by first | exact mem_own | (intro b hb; simp [hb]))
            replace hm0 := Mod.oldOwn hm0 hG69.mod hm
            replace ht67 := ht67.grew2 hG69 (by first | exact mem_own | (intro b hb; simp [hb]))
            replace hn67 := hn67.grew2 hG69 (by first | exact mem_own | (intro b hb; simp [hb]))
            replace hd67 := hd67.grew2 hG69 (by first | exact mem_own | (intro b hb; simp [hb]))
            have hnn_g68 := hG69.ne hno_hm_g68 hb68
            replace hb68 := Blk.grew hb68 hG69 hno_hm_g68
            replace hno_hm_g68 := hnn_g68
            have hnn_g75 := hG69.ne hno_hm_g75 hb75
            replace hb75 := Blk.grew hb75 hG69 hno_hm_g75
            replace hno_hm_g75 := hnn_g75
            replace hawmp := hawmp_; clear hawmp_
            replace hm := hm'; clear hm'
            replace hS1 := hS1.trans hG69.mod
            clear hG69
            refine L.nil (hX _ _ ⟨.inr hS1, ?_⟩)
            have hslO : (subO (setZ z0 cs (List.replicate cs.length (-1))) i).length ≤ 12 := by have h9 := subI_le (setZ z0 cs (List.replicate cs.length (-1))) i; unfold subO; rw [List.length_map]; omega
            have hrowB : Sl [] w15 1 (.slice (some ⟨g75, 0, none⟩) 1 1) 1 [.int .i64 ((setZ z0 cs (List.replicate cs.length (-1))).getD i 0)] := Sl.of_blk hb75 0 (Nat.le_refl _) (by decide) rfl (by simp) (fun j hj => by simp)
            refine D.one 13 rfl (by decide +kernel) (fun hX => ?_)
            refine L.append rfl rfl hp hrowB (by simp [Value.oneCell']) tyS24 tyZ3 (by omega) (by unfold maxLen; omega) hm0.size rfl ?_
            intro v76 w16 hp' hG76
            have hawmp_ := Away.grew hawmp hG76 hm
            replace hL := hL.grew2 hG76 (by first | exact mem_own | (intro b hb; simp [hb]))
            replace hR := hR.grew2 hG76 (by first | exact mem_own | (intro b hb; simp [hb]))
            replace hm := own_away (s' := 1) (el' := 0) (k' := 0) (B' := 0) (ys := []) hm hG76.mod (by first | assumption | exact Away.symm (by assumption))
            replace hlm := hlm.grew2 hG76 (by first | exact mem_own | (intro b hb; simp [hb]))
            replace hbd := hbd.grew2 hG76 (by first | exact mem_own | (intro b hb; simp [hb]))
            replace hm0 := Mod.oldOwn hm0 hG76.mod hp
            replace ht67 := ht67.grew2 hG76 (by first | exact mem_own | (intro b hb; simp [hb]))
            replace hn67 := hn67.grew2 hG76 (by first | exact mem_own | (intro b hb; simp [hb]))
            replace hd67 := hd67.grew2 hG76 (by first | exact mem_own | (intro b hb; simp [hb]))
            replace hawmp := hawmp_; clear hawmp_
            replace hp := hp'; clear hp'
            clear hG76
            refine L.nil (hX _ _ ⟨.inl rfl, ?_⟩)
            refine D.one 14 rfl (by decide +kernel) (fun hX => ?_)
            refine L.v (R1.assign rfl) rfl (L.nil (hX _ _ ⟨.inl rfl, ?_⟩))
            refine D.one 15 rfl (by decide +kernel) (fun hX => ?_)
            refine L.v (R1.assign rfl) rfl (L.nil (hX _ _ ⟨.inl rfl, ?_⟩))
            refine D.done (by decide +kernel) ?_ _
            refine X.join (v69, v76, csm ++ [[.int .i64 z67.st, .slice T67 z67.ts.length t67, .bool z67.k.s, .slice A67 z67.k.n.length c67, .slice B67 z67.k.d.length e67]]) ?_ ?_
            · exact ⟨rfl, rfl, rfl, rfl, rfl, rfl, trivial⟩
            ·
             exact ⟨hL.sub (by intro b hb; first | exact hb | (simp only [mq] at hb ⊢; grind)), hR.sub (by intro b hb; first | exact hb | (simp only [mq] at hb ⊢; grind)), own_congr hm (by rw [show (subC cs (setZ z0 cs (List.replicate cs.length (-1))) (i + 1)) = (subC cs (setZ z0 cs (List.replicate cs.length (-1))) i) ++ [z67] from (subC_yes hz67 hc62)]; try simp) (by try simp), by rw [show (subC cs (setZ z0 cs (List.replicate cs.length (-1))) (i + 1)) = (subC cs (setZ z0 cs (List.replicate cs.length (-1))) i) ++ [z67] from (subC_yes hz67 hc62)]; exact (hlm.sub (by intro b hb; first | exact hb | (simp only [mq] at hb ⊢; grind))).append (LayL.one _ z67 (rdC_mk (ht67.sub (by intro b hb; first | exact hb | (simp only [mq] at hb ⊢; grind))) (hn67.sub (by intro b hb; first | exact hb | (simp only [mq] at hb ⊢; grind))) (hd67.sub (by intro b hb; first | exact hb | (simp only [mq] at hb ⊢; grind))))), own_congr hp (by unfold subO; rw [subI_yes hc62]; try simp) (by unfold subO; rw [subI_yes hc62, List.map_append, intsZ_append]; try rfl), hawmp, hbd.sub (by intro b hb; first | exact hb | (simp only [mq] at hb ⊢; grind)), hm0⟩
          ·
           refine ⟨_, rfl, fun hX => ?_⟩
           refine L.build1 rfl rfl tyS24 tyZ3 rfl ?_
           intro g75 w17 hN75
           have hgs_g75 := New.ge hN75 hS1.size
           replace hS1 := hS1.trans (hN75.mod.mono (by simp))
           replace hL := hL.new hN75
           replace hR := hR.new hN75
           have hno_hm_g75 := own_ne_new hm hN75
           replace hm := own_gr hm hN75.mod (by simp)
           replace hlm := hlm.new hN75
           have hno_hp_g75 := own_ne_new hp hN75
           replace hp := own_gr hp hN75.mod (by simp)
           replace hbd := hbd.new hN75
           have hge_g75 := New.ge hN75 hm0.size
           replace hm0 := hm0.trans (hN75.mod.mono (by simp))
           replace ht67 := ht67.new hN75
           replace hn67 := hn67.new hN75
           replace hd67 := hd67.new hN75
           have hb75 := hN75.blk
           clear hN75
           refine L.nil (hX _ _ ⟨.inr hS1, ?_⟩)
           refine D.one 5 rfl (by decide +kernel) (fun hX => ?_)
           refine L.buildSlice (cells := [.int .i64 z67.st, .slice T67 z67.ts.length t67, .bool z67.k.s, .slice A67 z67.k.n.length c67, .slice B67 z67.k.d.length e67]) rfl tyS22 tyZ41 (fillK1 _ _ _ _ _ _ _ _ _ _ _) (by decide) (by decide) rfl ?_
           intro g68 w18 hN68
           have hgs_g68 := New.ge hN68 hS1.size
           replace hS1 := hS1.trans (hN68.mod.mono (by simp))
           replace hL := hL.new hN68
           replace hR := hR.new hN68
           have hno_hm_g68 := own_ne_new hm hN68
           replace hm := own_gr hm hN68.mod (by simp)
           replace hlm := hlm.new hN68
           have hno_hp_g68 := own_ne_new hp hN68
           replace hp := own_gr hp hN68.mod (by simp)
           replace hbd := hbd.new hN68
           have hge_g68 := New.ge hN68 hm0.size
           replace hm0 := hm0.trans (hN68.mod.mono (by simp))
           replace ht67 := ht67.new hN68
           replace hn67 := hn67.new hN68
           replace hd67 := hd67.new hN68
           have hne_g75_g68 := hb75.ne_ hN68
           replace hb75 := Blk.gr hb75 hN68.mod
           have hb68 := hN68.blk
           clear hN68
           refine L.nil (hX _ _ ⟨.inr hS1, ?_⟩)
           have hsl := subI_le (setZ z0 cs (List.replicate cs.length (-1))) i
           have hrowA : Sl [] w18 5 (.slice (some ⟨g68, 0, none⟩) 1 1) 1 [.int .i64 z67.st, .slice T67 z67.ts.length t67, .bool z67.k.s, .slice A67 z67.k.n.length c67, .slice B67 z67.k.d.length e67] := Sl.of_blk hb68 0 (Nat.le_refl _) (by decide) rfl (by simp) (fun j hj => by simp)
           have hslC : (subC cs (setZ z0 cs (List.replicate cs.length (-1))) i).length ≤ 12 := by unfold subC; rw [List.length_map]; omega
           refine D.one 6 rfl (by decide +kernel) (fun hX => ?_)
           refine L.append rfl rfl hm hrowA (by intro c hc; simp only [List.mem_cons, List.not_mem_nil, or_false] at hc; rcases hc with rfl | rfl | rfl | rfl | rfl <;> rfl) tyS22 tyZ41 (by omega) (by unfold maxLen; omega) hm0.size rfl ?_
           intro v69 w19 hm' hG69
           have hawmp_ := (Away.grew hawmp.symm hG69 hp).symm
           replace hL := hL.grew2 hG69 (by first | exact mem_own | (intro b hb; simp [hb]))
           replace hR := hR.grew2 hG69 (by first | exact mem_own | (intro b hb; simp [hb]))
           replace hlm := hlm.grew2 hG69 (by first | exact mem_own | (intro b hb; simp [hb]))
           replace hp := own_away (s' := 1) (el' := 0) (k' := 0) (B' := 0) (ys := []) hp hG69.mod (by first | assumption | exact Away.symm (by assumption))
           replace hbd := hbd.grew2 hG69 (by first | exact mem_own | (intro b hb; simp [hb]))
           replace hm0 := Mod.oldOwn hm0 hG69.mod hm
           replace ht67 := ht67.grew2 hG69 (by first | exact mem_own | (intro b hb; simp [hb]))
           replace hn67 := hn67.grew2 hG69 (by first | exact mem_own | (intro b hb; simp [hb]))
           replace hd67 := hd67.grew2 hG69 (by first | exact mem_own | (intro b hb; simp [hb]))
           have hnn_g75 := hG69.ne hno_hm_g75 hb75
           replace hb75 := Blk.grew hb75 hG69 hno_hm_g75
           replace hno_hm_g75 := hnn_g75
           have hnn_g68 := hG69.ne hno_hm_g68 hb68
           replace hb68 := Blk.grew hb68 hG69 hno_hm_g68
           replace hno_hm_g68 := hnn_g68
           replace hawmp := hawmp_; clear hawmp_
           replace hm := hm'; clear hm'
           replace hS1 := hS1.trans hG69.mod
           clear hG69
           refine L.nil (hX _ _ ⟨.inr hS1, ?_⟩)
           have hslO : (subO (setZ z0 cs (List.replicate cs.length (-1))) i).length ≤ 12 := by have h9 := subI_le (setZ z0 cs (List.replicate cs.length (-1))) i; unfold subO; rw [List.length_map]; omega
           have hrowB : Sl [] w19 1 (.slice (some ⟨g75, 0, none⟩) 1 1) 1 [.int .i64 ((setZ z0 cs (List.replicate cs.length (-1))).getD i 0)] := Sl.of_blk hb75 0 (Nat.le_refl _) (by decide) rfl (by simp) (fun j hj => by simp)
           refine D.one 13 rfl (by decide +kernel) (fun hX => ?_)
           refine L.append rfl rfl hp hrowB (by simp [Value.oneCell']) tyS24 tyZ3 (by omega) (by unfold maxLen; omega) hm0.size rfl ?_
           intro v76 w20 hp' hG76
           have hawmp_ := Away.grew hawmp hG76 hm
           replace hL := hL.grew2 hG76 (by first | exact mem_own | (intro b hb; simp [hb]))
           replace hR := hR.grew2 hG76 (by first | exact mem_own | (intro b hb; simp [hb]))
           replace hm := own_away (s' := 1) (el' := 0) (k' := 0) (B' := 0) (ys := []) hm hG76.mod (by first | assumption | exact Away.symm (by assumption))
           replace hlm := hlm.grew2 hG76 (by first | exact mem_own | (intro b hb; simp [hb]))
           replace hbd := hbd.grew2 hG76 (by first | exact mem_own | (intro b hb; simp [hb]))
           replace hm0 := Mod.oldOwn hm0 hG76.mod hp
           replace ht67 := ht67.grew2 hG76 (by first | exact mem_own | (intro b hb; simp [hb]))
           replace hn67 := hn67.grew2 hG76 (by first | exact mem_own | (intro b hb; simp [hb]))
           replace hd67 := hd67.grew2 hG76 (by first | exact mem_own | (intro b hb; simp [hb]))
           replace hawmp := hawmp_; clear hawmp_
           replace hp := hp'; clear hp'
           clear hG76
           refine L.nil (hX _ _ ⟨.inl rfl, ?_⟩)
           refine D.one 14 rfl (by decide +kernel) (fun hX => ?_)
           refine L.v (R1.assign rfl) rfl (L.nil (hX _ _ ⟨.inl rfl, ?_⟩))
           refine D.one 15 rfl (by decide +kernel) (fun hX => ?_)
           refine L.v (R1.assign rfl) rfl (L.nil (hX _ _ ⟨.inl rfl, ?_⟩))
           refine D.done (by decide +kernel) ?_ _
           refine X.join (v69, v76, csm ++ [[.int .i64 z67.st, .slice T67 z67.ts.length t67, .bool z67.k.s, .slice A67 z67.k.n.length c67, .slice B67 z67.k.d.length e67]]) ?_ ?_
           · exact ⟨rfl, rfl, rfl, rfl, rfl, rfl, trivial⟩
           ·
            exact ⟨hL.sub (by intro b hb; first | exact hb | (simp only [mq] at hb ⊢; grind)), hR.sub (by intro b hb; first | exact hb | (simp only [mq] at hb ⊢; grind)), own_congr hm (by rw [show (subC cs (setZ z0 cs (List.replicate cs.length (-1))) (i + 1)) = (subC cs (setZ z0 cs (List.replicate cs.length (-1))) i) ++ [z67] from (subC_yes hz67 hc62)]; try simp) (by try simp), by rw [show (subC cs (setZ z0 cs (List.replicate cs.length (-1))) (i + 1)) = (subC cs (setZ z0 cs (List.replicate cs.length (-1))) i) ++ [z67] from (subC_yes hz67 hc62)]; exact (hlm.sub (by intro b hb; first | exact hb | (simp only [mq] at hb ⊢; grind))).append (LayL.one _ z67 (rdC_mk (ht67.sub (by intro b hb; first | exact hb | (simp only [mq] at hb ⊢; grind))) (hn67.sub (by intro b hb; first | exact hb | (simp only [mq] at hb ⊢; grind))) (hd67.sub (by intro b hb; first | exact hb | (simp only [mq] at hb ⊢; grind))))), own_congr hp (by unfold subO; rw [subI_yes hc62]; try simp) (by unfold subO; rw [subI_yes hc62, List.map_append, intsZ_append]; try rfl), hawmp, hbd.sub (by intro b hb; first | exact hb | (simp only [mq] at hb ⊢; grind)), hm0⟩
         ·
          rintro ⟨um, up, csm⟩ wj ⟨hL, hR, hm, hlm, hp, hawmp, hbd, hm0⟩
          refine X.blockEnd <| X.seq <| W.region <| L.v (R1.move rfl) rfl <| L.v (R1.addI (b := 1) rfl rfl (by omega)) rfl <| L.v (R1.assign rfl) rfl <| L.nil <| X.next (i + 1, um, up, csm) ?_ ?_ ?_
          · exact ⟨rfl, rfl, rfl, rfl, rfl, rfl, trivial⟩
          ·
           exact ⟨hL.sub (by intro b hb; first | exact hb | (simp only [mq] at hb ⊢; grind)), hR.sub (by intro b hb; first | exact hb | (simp only [mq] at hb ⊢; grind)), hm, hlm.sub (by intro b hb; first | exact hb | (simp only [mq] at hb ⊢; grind)), hp, hawmp, hbd.sub (by intro b hb; first | exact hb | (simp only [mq] at hb ⊢; grind)), hm0, by omega⟩
          · first | omega | (dsimp only; omega)
        ·
         intro hc62
         try simp only [bq, ne_eq] at hc62
         refine W.skip <| X.blockEnd <| X.seq <| W.region <| L.v (R1.move rfl) rfl <| L.v (R1.addI (b := 1) rfl rfl (by omega)) rfl <| L.v (R1.assign rfl) rfl <| L.nil <| X.next (i + 1, um, up, csm) ?_ ?_ ?_
         · exact ⟨rfl, rfl, rfl, rfl, rfl, rfl, trivial⟩
         ·
          exact ⟨hL.sub (by intro b hb; first | exact hb | (simp only [mq] at hb ⊢; grind)), hR.sub (by intro b hb; first | exact hb | (simp only [mq] at hb ⊢; grind)), by rw [show (subC cs (setZ z0 cs (List.replicate cs.length (-1))) (i + 1)) = (subC cs (setZ z0 cs (List.replicate cs.length (-1))) i) from by unfold subC; rw [subI_no (by omega)]]; exact hm, by rw [show (subC cs (setZ z0 cs (List.replicate cs.length (-1))) (i + 1)) = (subC cs (setZ z0 cs (List.replicate cs.length (-1))) i) from by unfold subC; rw [subI_no (by omega)]]; exact hlm, by rw [show (subO (setZ z0 cs (List.replicate cs.length (-1))) (i + 1)) = (subO (setZ z0 cs (List.replicate cs.length (-1))) i) from by unfold subO; rw [subI_no (by omega)]]; exact hp, hawmp, hbd.sub (by intro b hb; first | exact hb | (simp only [mq] at hb ⊢; grind)), hm0, by omega⟩
         · first | omega | (dsimp only; omega)
       ·
        intro hc55
        try simp only [bq, ne_eq] at hc55
        obtain rfl : i = cs.length := by omega
        refine W.exit <| X.thenExit <| X.nextExit <| X.here <| X.seq <| W.seq <| W.region <| L.v (R1.move rfl) rfl <| L.v (R1.move rfl) rfl <| L.v (R1.move rfl) rfl <| L.call rfl (c_SettleL (M := []) (Lay.of_own hm (hlm.sub (fun b hb => by cases hb)) (by simp)) (Lay.of_Z (M := []) hp (by simp)) (hbd.sub (fun b hb => by cases hb)) (fun c hc => hsm c (sub_mem c hc)) (by simp [subO]; have := subI_le (setZ z0 cs (List.replicate cs.length (-1))) cs.length; omega) (by simp [subC]; have := subI_le (setZ z0 cs (List.replicate cs.length (-1))) cs.length; omega)) rfl ?_
        rintro _ w21 ⟨v81, rfl, hR2, hm21⟩
        replace hp := own_gr hp hm21 (by simp)
        replace hm0 := hm0.trans hm21
        clear hm21
        rw [sub_set (chb_set hc38)] at hR2
        rw [sub_ch (chb_set hc38)]
        refine L.v (R1.move rfl) rfl <| L.v (R1.extract rfl rfl) rfl <| L.v (R1.extract rfl rfl) rfl <| L.v (R1.assign rfl) rfl <| L.v (R1.assign rfl) rfl <| L.nil <| X.seq <| W.seq <| W.region <| L.v (R1.move rfl) rfl <| L.v (R1.move rfl) rfl ?_
        refine L.on rfl rfl rfl (R1.move rfl) rfl <| L.on rfl rfl rfl (R1.move rfl) rfl <| L.callOn rfl rfl rfl rfl (c_numbersEq (Lay.of_Z (M := []) hp (by simp)) hR2 rfl) rfl ?_
        rintro _ w22 ⟨rfl, hm22⟩
        replace hm0 := hm0.trans hm22
        clear hm22
        refine L.v (R1.pickT rfl rfl) rfl <| L.v (R1.move rfl) rfl <| L.callOn rfl rfl rfl rfl (c_known13) rfl ?_
        rintro _ w23 ⟨rfl, hm23⟩
        replace hm0 := hm0.trans hm23
        clear hm23
        refine L.v (R1.pickT rfl rfl) rfl <| L.v (R1.assign rfl) rfl <| L.nil <| X.seq <| W.ret <| X.result1 rfl (.tmp rfl .nil) ?_
        exact ⟨rfl, hm0⟩
 ·
  have hcc_ := hgd16
  refine L.off rfl rfl rfl rfl rfl <| L.off rfl rfl rfl rfl rfl <| L.off rfl rfl rfl rfl rfl <| L.v (R1.pickT rfl rfl) rfl <| L.nil <| X.seq <| W.condT rfl <| W.seq <| W.region <| L.v (R1.assign rfl) rfl <| L.nil ?_
  refine X.seq <| W.ret <| X.thenRet <| X.result1 rfl (.tmp rfl .nil) ?_
  exact ⟨rfl, hm0⟩

end Go.Proofs.Ytfpipaoobmcomaa
