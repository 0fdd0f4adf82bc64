/- Walks: what the functions compute. -/
import Derived.Test.YtfpipaoobmcomaaL3K
namespace Go.Proofs.Ytfpipaoobmcomaa
open Go.RowKit
set_option linter.unusedVariables false
set_option linter.unusedSimpArgs false
set_option maxRecDepth 10000

theorem walZ_len {n : Nat} {cs : List CR} {os : List Int} (h : ChB (n : Int) cs os = true) : (walZ (n : Int) cs os).length = n := by unfold walZ; rw [if_pos h]; simp
theorem walZ_get {n u : Nat} {cs : List CR} {os : List Int} (h : ChB (n : Int) cs os = true) (hu : u < (walZ (n : Int) cs os).length) : (walZ (n : Int) cs os)[u] = strZ n cs os u := by
  have e : walZ (n : Int) cs os = (List.range n).map (strZ n cs os) := by unfold walZ; rw [if_pos h]; simp
  simp only [e, List.getElem_map, List.getElem_range]
theorem out_lt {n i : Nat} {cs : List CR} {os : List Int} (h : ChB (n : Int) cs os = true) (hi : i < cs.length) (h0 : ¬ os.getD i 0 < 0) : ∃ v : Nat, os.getD i 0 = (v : Int) ∧ v < n ∧ who os v = some i := by
  obtain ⟨_, _, _, hl, h5, _⟩ := ChB_true h
  obtain ⟨h6, h7⟩ := h5 i hi
  rcases h7 with h7 | h7
  · omega
  · have h8 := hasV_lt h6 h7.1
    refine ⟨(os.getD i 0).toNat, by omega, by omega, who_at (by omega) (by omega) (fun j hj => by have := h7.2 j hj; omega)⟩
/-- Who has been told so far. -/
def toldS (os : List Int) (i v : Nat) : Prop := ∃ j, j < i ∧ os.getD j 0 = (v : Int)
instance (os : List Int) (i v : Nat) : Decidable (toldS os i v) := by unfold toldS; infer_instance
theorem toldS_no {os : List Int} {i : Nat} (h : os.getD i 0 < 0) (v : Nat) : toldS os (i + 1) v ↔ toldS os i v := by
  constructor
  · rintro ⟨j, h1, h2⟩
    rcases Nat.lt_or_ge j i with h3 | h3
    · exact ⟨j, h3, h2⟩
    · have : j = i := by omega
      subst this; omega
  · rintro ⟨j, h1, h2⟩; exact ⟨j, by omega, h2⟩
theorem toldS_yes {os : List Int} {i x : Nat} (h : os.getD i 0 = (x : Int)) (v : Nat) : toldS os (i + 1) v ↔ v = x ∨ toldS os i v := by
  constructor
  · rintro ⟨j, h1, h2⟩
    rcases Nat.lt_or_ge j i with h3 | h3
    · exact .inr ⟨j, h3, h2⟩
    · have : j = i := by omega
      subst this; left; omega
  · rintro (rfl | ⟨j, h1, h2⟩)
    · exact ⟨i, by omega, h⟩
    · exact ⟨j, by omega, h2⟩
theorem toldB_set {os : List Int} {n i x : Nat} {bs : List Bool} (hl : n = bs.length) (hbs : ∀ v, v < n → bs.getD v false = decide (toldS os i v)) (h : os.getD i 0 = (x : Int)) (hx : x < n) : ∀ v, v < n → (bs.set x true).getD v false = decide (toldS os (i + 1) v) := fun v hv => by
  rw [List.getD_eq_getElem?_getD, List.getElem?_set]
  by_cases e : x = v
  · subst e
    rw [if_pos rfl, if_pos (by omega)]
    exact (decide_eq_true ((toldS_yes h _).2 (.inl rfl))).symm
  · rw [if_neg e, ← List.getD_eq_getElem?_getD, hbs v hv, decide_eq_decide, toldS_yes h]
    exact ⟨.inr, fun h9 => h9.resolve_left (fun h8 => e h8.symm)⟩
theorem told_none {n v : Nat} {cs : List CR} {os : List Int} (hC : ChoZ n cs os) (h : ¬ toldS os cs.length v) : strZ n cs os v = 4 := by
  refine hC.none_ ?_
  unfold who
  rw [List.findIdx?_eq_none_iff]
  intro x hx
  obtain ⟨j, hj, rfl⟩ := List.mem_iff_getElem.1 hx
  refine decide_eq_false (fun e => h ⟨j, by rw [← hC.len]; exact hj, ?_⟩)
  rw [← getD_at hj]; exact e

set_option maxHeartbeats 1000000 in
theorem c_DeltaWalks {w : World} {vl vo : Value} {cs : List CR} {os : List Int} {z0 : Int} (hL : Lay rdC [] w vl cs) (hO : Lay rdI [] w vo os) (hb : szCs cs ≤ 4194304) :
    Ret Try.prog 8 #[vl, vo, .int .i64 z0] w (fun r w' => r = .bool true ∧ Mod [] w w') := by
 have hbd : Bd [] w := fun m hm => by cases hm
 obtain ⟨TL, tL, rfl⟩ := hL.form
 obtain ⟨TO, tO, rfl⟩ := hO.form
 have hmaxL := hL.max; unfold maxLen at hmaxL
 have hmaxO := hO.max; unfold maxLen at hmaxO
 refine Ret.of (vs := [.slice TL cs.length tL, .slice TO os.length tO, .int .i64 z0]) (n := 126) Try.func8 rfl rfl rfl rfl ?_
 have hm0 : Mod [] w w := Mod.refl _ _
 refine W.seq <| W.region <| L.v (R1.assign rfl) rfl <| L.nil <| X.seq <| W.seq <| W.seq <| W.region <| L.v (R1.move rfl) rfl <| L.call rfl (c_heavy_pantographlaw13 hL hb) rfl ?_
 rintro _ w1 ⟨rfl, hm1⟩
 replace hL := hL.gr hm1
 replace hO := hO.gr hm1
 replace hbd := hbd.gr hm1
 replace hm0 := hm0.trans hm1
 clear hm1
 refine L.v (R1.move rfl) rfl ?_
 cases hgd16 : (decide (150 < szCs cs))
 ·
  have hcc_ := hgd16
  refine L.on rfl rfl rfl (R1.move rfl) rfl <| L.on rfl rfl rfl (R1.lenLay rfl hL tyS22) rfl <| L.on rfl rfl rfl ((R1.gt rfl rfl).asB (c := (decide ((12 : Int) < (cs.length : Int)))) (rfl)) rfl <| L.v (R1.pickF rfl rfl) rfl <| L.v (R1.move rfl) rfl ?_
  cases hgd21 : (decide ((12 : Int) < (cs.length : Int)))
  ·
   have hcc_ := hgd21
   refine L.on rfl rfl rfl (R1.move rfl) rfl <| L.on rfl rfl rfl (R1.lenLay rfl hO tyS24) rfl <| L.on rfl rfl rfl ((R1.gt rfl rfl).asB (c := (decide ((20 : Int) < (os.length : Int)))) (rfl)) rfl <| L.v (R1.pickF rfl rfl) rfl <| L.nil <| X.seq <| W.cond rfl ?_ ?_
   ·
    intro hc25
    have hcc_ := hc25
    refine W.seq <| W.region <| L.v (R1.assign rfl) rfl <| L.nil <| X.seq <| W.ret <| X.thenRet <| X.result1 rfl (.tmp rfl .nil) ?_
    exact ⟨rfl, hm0⟩
   ·
    intro hc25
    have hcc_ := hc25
    have hsm := sm150 (by simpa using hgd16)
    have hcl : cs.length ≤ 12 := by have h9 := of_decide_eq_false hgd21; omega
    have hol : os.length ≤ 1000000 := by have h9 := of_decide_eq_false hc25; omega
    refine W.skip <| X.seq <| W.seq <| W.region <| L.v (R1.move rfl) rfl <| L.v (R1.move rfl) rfl <| L.v (R1.move rfl) rfl <| L.call rfl (c_dWalkL (hL.sub (M' := []) (fun b hb => by cases hb)) (hO.sub (M' := []) (fun b hb => by cases hb)) (hbd.sub (M' := []) (fun b hb => by cases hb)) hsm) rfl ?_
    rintro v29 w2 ⟨hW, hm2⟩
    replace hL := hL.gr hm2
    replace hO := hO.gr hm2
    replace hbd := hbd.gr hm2
    replace hm0 := hm0.trans hm2
    clear hm2
    refine L.v (R1.assign rfl) rfl <| L.nil <| X.seq <| W.seq <| W.seq <| W.region <| L.v (R1.move rfl) rfl <| L.v (R1.move rfl) rfl <| L.v (R1.move rfl) rfl <| L.call rfl (c_r13_Is (hL.sub (M' := []) (fun b hb => by cases hb)) (hO.sub (M' := []) (fun b hb => by cases hb)) (hbd.sub (M' := []) (fun b hb => by cases hb)) hsm) rfl ?_
    rintro _ w3 ⟨rfl, hm3⟩
    replace hL := hL.gr hm3
    replace hO := hO.gr hm3
    replace hm0 := hm0.trans hm3
    replace hW := hW.gr hm3
    clear hm3
    refine L.v (R1.not rfl) rfl <| L.nil <| X.seq <| W.cond rfl ?_ ?_
    ·
     intro hc34
     simp only [Bool.not_eq_true', Bool.not_eq_false'] at hc34
     refine W.seq <| W.region <| L.v (R1.move rfl) rfl <| L.v (R1.lenLay rfl hW tyS24) rfl <| L.v ((R1.eq rfl rfl).asB (c := true) (by rw [walZ_no hc34]; rfl)) rfl <| L.v (R1.move rfl) rfl <| L.callOn rfl rfl rfl rfl (c_known13) rfl ?_
     rintro _ w4 ⟨rfl, hm4⟩
     replace hm0 := hm0.trans hm4
     clear hm4
     refine L.v (R1.pickT rfl rfl) rfl <| L.v (R1.assign rfl) rfl <| L.nil <| X.seq <| W.ret <| X.thenRet <| X.result1 rfl (.tmp rfl .nil) ?_
     exact ⟨rfl, hm0⟩
    ·
     intro hc34
     simp only [Bool.not_eq_true', Bool.not_eq_false'] at hc34
     obtain ⟨n, rfl, hn1, hn64⟩ := nat_of hc34
     have hCh := hc34
     have hC := ChoZ.of hCh
     have hol2 := hC.len
     refine W.skip <| X.seq <| W.seq <| W.seq <| W.region <| L.v (R1.move rfl) rfl <| L.v (R1.lenLay rfl hW tyS24) rfl <| L.v (R1.move rfl) rfl <| L.v ((R1.ne rfl rfl).asB (c := false) (by rw [walZ_len hCh]; simp)) rfl <| L.nil <| X.seq ?_
     refine W.condF rfl <| W.skip <| X.seq <| W.seq <| W.region <| L.v (R1.move rfl) rfl <| L.makeSlice (m := n) rfl rfl rfl rfl tyS46 tyZ4 (by omega) (by unfold maxLen; omega) rfl ?_
     intro g46 w5 hN46
     have hoT := own_madeB (B := w.heap.size) hN46 hm0.size (by unfold maxLen; omega)
     replace hL := hL.new hN46
     replace hO := hO.new hN46
     replace hm0 := hm0.trans (hN46.mod.mono (by simp))
     replace hW := hW.new hN46
     clear hN46
     obtain ⟨v46, hv_v46⟩ : ∃ v, v = Value.slice (some ⟨g46, 0, none⟩) n n := ⟨_, rfl⟩
     have hol_v46 : ownL v46 = [g46] := by rw [hv_v46]; rfl
     rw [← hv_v46] at hoT ⊢
     replace hL := hL.sub (of_cons hol_v46)
     replace hO := hO.sub (of_cons hol_v46)
     replace hW := hW.sub (of_cons hol_v46)
     clear hv_v46 hol_v46
     refine L.v (R1.assign rfl) rfl <| L.nil <| X.seq <| W.seq <| W.seq <| W.region <| L.v (R1.assign rfl) rfl <| L.nil <| X.seq <| W.block <| W.loop (ι := Nat × List Bool) (fun (i, bs) => [(0, .slice TL cs.length tL), (1, .slice TO os.length tO), (2, .int .i64 ((n : Nat) : Int)), (7, v29), (8, v46), (9, .int .i64 ((i : Nat) : Int))]) (fun (i, bs) w_ => Lay rdC (ownL v46 ++ []) w_ (.slice TL cs.length tL) cs ∧ Lay rdI (ownL v46 ++ []) w_ (.slice TO os.length tO) os ∧ Lay rdI (ownL v46 ++ []) w_ v29 (walZ (n : Int) cs os) ∧ w_.ownsRow w.heap.size 4 1 v46 n (boolsV bs) ∧ (∀ v, v < n → bs.getD v false = decide (toldS os i v)) ∧ i ≤ cs.length ∧ Mod [] w w_) (fun (i, bs) => cs.length - i) (0, List.replicate n false) ?_ ?_ ?_
     · exact ⟨rfl, rfl, rfl, rfl, rfl, rfl, trivial⟩
     ·
      exact ⟨hL.sub (by intro b hb; first | exact hb | (simp only [mq] at hb ⊢; grind)), hO.sub (by intro b hb; first | exact hb | (simp only [mq] at hb ⊢; grind)), hW.sub (by intro b hb; first | exact hb | (simp only [mq] at hb ⊢; grind)), hoT, (fun v hv => by rw [decide_eq_false (by rintro ⟨j, hj, _⟩; omega)]; simp [List.getD_eq_getElem?_getD, hv]), Nat.zero_le _, hm0⟩
     ·
      rintro ⟨i, bs⟩ w6 ⟨hL, hO, hW, hoT, hbs, hi, hm0⟩
      refine W.seq <| W.seq <| W.region <| L.v (R1.move rfl) rfl <| L.v (R1.move rfl) rfl <| L.v (R1.lenLay rfl hL tyS22) rfl <| L.v (R1.lt rfl rfl) rfl <| L.nil <| X.seq <| W.cond rfl ?_ ?_
      ·
       intro hc50
       try simp only [bq, ne_eq] at hc50
       refine W.skip <| X.seq <| W.seq <| W.block <| W.seq <| W.region <| L.v (R1.move rfl) rfl <| L.v (R1.move rfl) rfl <| L.v (R1.atLay (j := i) rfl rfl hO tyS24 rfl (by omega)) rfl <| L.v (R1.loadLI rfl hO tyP3 (by omega) (getD_at _)) rfl <| L.v (R1.assign rfl) rfl ?_
       refine L.nil <| X.seq <| W.seq <| W.seq <| W.region <| L.v (R1.move rfl) rfl <| L.v (R1.lt rfl rfl) rfl <| L.nil <| X.seq <| W.cond rfl ?_ ?_
       ·
        intro hc58
        try simp only [bq, ne_eq] at hc58
        refine W.exit <| X.thenExit <| X.here <| X.seq <| W.region <| L.v (R1.move rfl) rfl <| L.v (R1.addI (b := 1) rfl rfl (by omega)) rfl <| L.v (R1.assign rfl) rfl <| L.nil <| X.next (i + 1, bs) ?_ ?_ ?_
        · exact ⟨rfl, rfl, rfl, rfl, rfl, rfl, trivial⟩
        ·
         exact ⟨hL.sub (by intro b hb; first | exact hb | (simp only [mq] at hb ⊢; grind)), hO.sub (by intro b hb; first | exact hb | (simp only [mq] at hb ⊢; grind)), hW.sub (by intro b hb; first | exact hb | (simp only [mq] at hb ⊢; grind)), hoT, (fun v hv => by rw [hbs v hv, decide_eq_decide]; exact (toldS_no hc58 v).symm), by omega, hm0⟩
        · first | omega | (dsimp only; omega)
       ·
        intro hc58
        try simp only [bq, ne_eq] at hc58
        obtain ⟨v, hv, hvn, hwho⟩ := out_lt hCh (show i < cs.length by omega) (by omega)
        refine W.skip <| X.seq <| W.seq <| W.region <| L.v (R1.move rfl) rfl <| L.v (R1.move rfl) rfl <| L.v (R1.atOwn (i := v) rfl rfl hoT tyS46 hv hvn) rfl <| L.storeBo rfl rfl hoT hvn tyP4 ?_
        intro w7 hoT' hm7
        replace hL := hL.mod hm7 (by first | exact mem_own | (intro b hb; simp [hb]))
        replace hO := hO.mod hm7 (by first | exact mem_own | (intro b hb; simp [hb]))
        replace hW := hW.mod hm7 (by first | exact mem_own | (intro b hb; simp [hb]))
        replace hm0 := Mod.oldOwn hm0 hm7 hoT
        clear hm7
        replace hoT := hoT'; clear hoT'
        refine L.nil <| X.seq <| W.seq <| W.region <| L.v (R1.move rfl) rfl <| L.v (R1.move rfl) rfl <| L.v (R1.atLay (j := i) rfl rfl hL tyS22 rfl (by omega)) rfl <| L.v (R1.fieldAddr rfl tyF41_0) rfl ?_
        obtain ⟨z66, cs66, hz66, hE66, vt66, ds66, rfl, ht66, vn66, vd66, rfl, hn66, hd66⟩ := Lay.elemQ hL (j := i) (by omega)
        obtain ⟨T66, t66, rfl⟩ := ht66.form
        obtain ⟨A66, c66, rfl⟩ := hn66.form
        obtain ⟨B66, e66, rfl⟩ := hd66.form
        refine L.v (R1.loadEF rfl hE66 rfl tyP3) rfl ?_
        have hmax66 := ht66.max; unfold maxLen at hmax66
        refine L.v (R1.assign rfl) rfl <| L.nil <| X.seq <| W.seq <| W.seq <| W.region <| L.v (R1.assign rfl) rfl <| L.nil <| X.seq <| W.block <| W.loop (ι := Nat × Int) (fun (k, s) => [(0, .slice TL cs.length tL), (1, .slice TO os.length tO), (2, .int .i64 ((n : Nat) : Int)), (7, v29), (8, v46), (9, .int .i64 ((i : Nat) : Int)), (10, .int .i64 (os.getD i 0)), (11, .int .i64 s), (12, .int .i64 ((k : Nat) : Int))]) (fun (k, s) w_ => Lay rdC (ownL v46 ++ []) w_ (.slice TL cs.length tL) cs ∧ Lay rdI (ownL v46 ++ []) w_ (.slice TO os.length tO) os ∧ Lay rdI (ownL v46 ++ []) w_ v29 (walZ (n : Int) cs os) ∧ w_.ownsRow w.heap.size 4 1 v46 n (boolsV (bs.set v true)) ∧ k ≤ z66.ts.length ∧ s = (foldS n cs os v (z66.ts.take k) z66.st) ∧ Mod [] w w_) (fun (k, s) => z66.ts.length - k) (0, z66.st) ?_ ?_ ?_
        · exact ⟨rfl, rfl, rfl, rfl, rfl, rfl, rfl, rfl, rfl, trivial⟩
        ·
         exact ⟨hL.sub (by intro b hb; first | exact hb | (simp only [mq] at hb ⊢; grind)), hO.sub (by intro b hb; first | exact hb | (simp only [mq] at hb ⊢; grind)), hW.sub (by intro b hb; first | exact hb | (simp only [mq] at hb ⊢; grind)), hoT, Nat.zero_le _, rfl, hm0⟩
        ·
         rintro ⟨k, s⟩ w8 ⟨hL, hO, hW, hoT, hk, hs, hm0⟩
         refine W.seq <| W.seq <| W.region <| L.v (R1.move rfl) rfl <| L.v (R1.move rfl) rfl <| L.v (R1.move rfl) rfl <| L.v (R1.atLay (j := i) rfl rfl hL tyS22 rfl (by omega)) rfl <| L.v (R1.fieldAddr rfl tyF41_1) rfl ?_
         obtain ⟨z72, cs72, hz72, hE72, vt72, ds72, rfl, ht72, vn72, vd72, rfl, hn72, hd72⟩ := Lay.elemQ hL (j := i) (by omega)
         obtain ⟨T72, t72, rfl⟩ := ht72.form
         obtain ⟨A72, c72, rfl⟩ := hn72.form
         obtain ⟨B72, e72, rfl⟩ := hd72.form
         obtain rfl : z66 = z72 := by have h9 := hz72; rw [hz66] at h9; injection h9
         refine L.v (R1.loadEF rfl hE72 rfl tyP39) rfl <| L.v (R1.lenLay rfl ht72 tyS39) rfl <| L.v (R1.lt rfl rfl) rfl <| L.nil <| X.seq <| W.cond rfl ?_ ?_
         ·
          intro hc74
          try simp only [bq, ne_eq] at hc74
          refine W.skip <| X.seq <| W.seq <| W.block <| W.seq <| W.region <| L.v (R1.move rfl) rfl <| L.v (R1.move rfl) rfl <| L.v (R1.atLay (j := i) rfl rfl hL tyS22 rfl (by omega)) rfl <| L.v (R1.fieldAddr rfl tyF41_1) rfl ?_
          obtain ⟨z81, cs81, hz81, hE81, vt81, ds81, rfl, ht81, vn81, vd81, rfl, hn81, hd81⟩ := Lay.elemQ hL (j := i) (by omega)
          obtain ⟨T81, t81, rfl⟩ := ht81.form
          obtain ⟨A81, c81, rfl⟩ := hn81.form
          obtain ⟨B81, e81, rfl⟩ := hd81.form
          obtain rfl : z66 = z81 := by have h9 := hz81; rw [hz66] at h9; injection h9
          refine L.v (R1.loadEF rfl hE81 rfl tyP39) rfl <| L.v (R1.move rfl) rfl <| L.v (R1.atLay (j := k) rfl rfl ht81 tyS39 rfl (by omega)) rfl <| L.v (R1.fieldAddr rfl tyF38_0) rfl ?_
          obtain ⟨z85, cs85, hz85, hE85, ds85, rfl, vn85, vd85, rfl, hn85, hd85⟩ := Lay.elemQ ht81 (j := k) (by omega)
          obtain ⟨A85, c85, rfl⟩ := hn85.form
          obtain ⟨B85, e85, rfl⟩ := hd85.form
          refine L.v (R1.loadEF rfl hE85 rfl tyP3) rfl ?_
          obtain ⟨hd1, hd2⟩ := hC.var hz66 (List.mem_of_getElem? hz85)
          refine L.v (R1.move rfl) rfl <| L.v (R1.ne rfl rfl) rfl <| L.nil <| X.seq <| W.cond rfl ?_ ?_
          ·
           intro hc87
           try simp only [bq, ne_eq] at hc87
           rw [hv] at hc87
           refine W.region <| L.v (R1.move rfl) rfl <| L.v (R1.move rfl) rfl <| L.v (R1.move rfl) rfl <| L.v (R1.move rfl) rfl <| L.v (R1.atLay (j := i) rfl rfl hL tyS22 rfl (by omega)) rfl <| L.v (R1.fieldAddr rfl tyF41_1) rfl ?_
           obtain ⟨z94, cs94, hz94, hE94, vt94, ds94, rfl, ht94, vn94, vd94, rfl, hn94, hd94⟩ := Lay.elemQ hL (j := i) (by omega)
           obtain ⟨T94, t94, rfl⟩ := ht94.form
           obtain ⟨A94, c94, rfl⟩ := hn94.form
           obtain ⟨B94, e94, rfl⟩ := hd94.form
           obtain rfl : z66 = z94 := by have h9 := hz94; rw [hz66] at h9; injection h9
           refine L.v (R1.loadEF rfl hE94 rfl tyP39) rfl <| L.v (R1.move rfl) rfl <| L.v (R1.atLay (j := k) rfl rfl ht94 tyS39 rfl (by omega)) rfl <| L.v (R1.fieldAddr rfl tyF38_0) rfl ?_
           obtain ⟨z98, cs98, hz98, hE98, ds98, rfl, vn98, vd98, rfl, hn98, hd98⟩ := Lay.elemQ ht94 (j := k) (by omega)
           obtain ⟨A98, c98, rfl⟩ := hn98.form
           obtain ⟨B98, e98, rfl⟩ := hd98.form
           obtain rfl : z85 = z98 := by have h9 := hz98; rw [hz85] at h9; injection h9
           refine L.v (R1.loadEF rfl hE98 rfl tyP3) rfl <| L.v (R1.atLay (j := z85.v.toNat) rfl rfl hW tyS24 (Int.toNat_of_nonneg hd2).symm (by rw [walZ_len hCh]; exact hd1)) rfl <| L.v (R1.loadLI rfl hW tyP3 (by rw [walZ_len hCh]; exact hd1) (walZ_get hCh _)) rfl <| L.v (R1.maxI rfl rfl) rfl <| L.v (R1.assign rfl) rfl <| L.nil <| X.blockEnd <| X.seq <| W.region <| L.v (R1.move rfl) rfl <| L.v (R1.addI (b := 1) rfl rfl (by omega)) rfl ?_
           refine L.v (R1.assign rfl) rfl <| L.nil <| X.next (k + 1, max s (strZ n cs os z85.v.toNat)) ?_ ?_ ?_
           · exact ⟨rfl, rfl, rfl, rfl, rfl, rfl, rfl, rfl, rfl, trivial⟩
           ·
            have hsn := foldS_snoc (n := n) (cs := cs) (o := os) (v := v) (s := z66.st) hz85
            rw [if_neg (by omega)] at hsn
            exact ⟨hL.sub (by intro b hb; first | exact hb | (simp only [mq] at hb ⊢; grind)), hO.sub (by intro b hb; first | exact hb | (simp only [mq] at hb ⊢; grind)), hW.sub (by intro b hb; first | exact hb | (simp only [mq] at hb ⊢; grind)), hoT, by omega, by rw [hsn, hs], hm0⟩
           · first | omega | (dsimp only; omega)
          ·
           intro hc87
           try simp only [bq, ne_eq] at hc87
           rw [hv] at hc87
           refine W.skip <| X.blockEnd <| X.seq <| W.region <| L.v (R1.move rfl) rfl <| L.v (R1.addI (b := 1) rfl rfl (by omega)) rfl <| L.v (R1.assign rfl) rfl <| L.nil <| X.next (k + 1, s) ?_ ?_ ?_
           · exact ⟨rfl, rfl, rfl, rfl, rfl, rfl, rfl, rfl, rfl, trivial⟩
           ·
            have hsn := foldS_snoc (n := n) (cs := cs) (o := os) (v := v) (s := z66.st) hz85
            rw [if_pos (by omega)] at hsn
            exact ⟨hL.sub (by intro b hb; first | exact hb | (simp only [mq] at hb ⊢; grind)), hO.sub (by intro b hb; first | exact hb | (simp only [mq] at hb ⊢; grind)), hW.sub (by intro b hb; first | exact hb | (simp only [mq] at hb ⊢; grind)), hoT, by omega, by rw [hsn, hs], hm0⟩
           · first | omega | (dsimp only; omega)
         ·
          intro hc74
          try simp only [bq, ne_eq] at hc74
          obtain rfl : k = z66.ts.length := by omega
          rw [List.take_length] at hs
          refine W.exit <| X.thenExit <| X.nextExit <| X.here <| X.seq <| W.seq <| W.region <| L.v (R1.move rfl) rfl <| L.v (R1.move rfl) rfl <| L.v (R1.atLay (j := v) rfl rfl hW tyS24 hv (by rw [walZ_len hCh]; exact hvn)) rfl <| L.v (R1.loadLI rfl hW tyP3 (by rw [walZ_len hCh]; exact hvn) (walZ_get hCh _)) rfl ?_
          refine L.v (R1.move rfl) rfl <| L.v ((R1.ne rfl rfl).asB (c := false) (by rw [hC.some_ hwho hz66, hs]; simp)) rfl <| L.nil <| X.seq <| W.condF rfl <| W.skip <| X.blockEnd <| X.seq <| W.region <| L.v (R1.move rfl) rfl <| L.v (R1.addI (b := 1) rfl rfl (by omega)) rfl ?_
          refine L.v (R1.assign rfl) rfl <| L.nil <| X.next (i + 1, (bs.set v true)) ?_ ?_ ?_
          · exact ⟨rfl, rfl, rfl, rfl, rfl, rfl, trivial⟩
          ·
           have hlb : n = bs.length := by have h9 := own_lenB hoT; rw [List.length_set] at h9; exact h9
           exact ⟨hL.sub (by intro b hb; first | exact hb | (simp only [mq] at hb ⊢; grind)), hO.sub (by intro b hb; first | exact hb | (simp only [mq] at hb ⊢; grind)), hW.sub (by intro b hb; first | exact hb | (simp only [mq] at hb ⊢; grind)), hoT, (toldB_set hlb hbs hv hvn), by omega, hm0⟩
          · first | omega | (dsimp only; omega)
      ·
       intro hc50
       try simp only [bq, ne_eq] at hc50
       obtain rfl : i = cs.length := by omega
       refine W.exit <| X.thenExit <| X.nextExit <| X.here <| X.seq <| W.seq <| W.seq <| W.region <| L.v (R1.assign rfl) rfl <| L.nil <| X.seq ?_
       refine W.block <| W.loop (ι := Nat) (fun v => [(0, .slice TL cs.length tL), (1, .slice TO os.length tO), (2, .int .i64 ((n : Nat) : Int)), (7, v29), (8, v46), (13, .int .i64 ((v : Nat) : Int))]) (fun v w_ => Lay rdC (ownL v46 ++ []) w_ (.slice TL cs.length tL) cs ∧ Lay rdI (ownL v46 ++ []) w_ (.slice TO os.length tO) os ∧ Lay rdI (ownL v46 ++ []) w_ v29 (walZ (n : Int) cs os) ∧ w_.ownsRow w.heap.size 4 1 v46 n (boolsV bs) ∧ v ≤ n ∧ Mod [] w w_) (fun v => n - v) 0 ?_ ?_ ?_
       · exact ⟨rfl, rfl, rfl, rfl, rfl, rfl, trivial⟩
       ·
        exact ⟨hL.sub (by intro b hb; first | exact hb | (simp only [mq] at hb ⊢; grind)), hO.sub (by intro b hb; first | exact hb | (simp only [mq] at hb ⊢; grind)), hW.sub (by intro b hb; first | exact hb | (simp only [mq] at hb ⊢; grind)), hoT, Nat.zero_le _, hm0⟩
       ·
        rintro v w9 ⟨hL, hO, hW, hoT, hv, hm0⟩
        refine W.seq <| W.seq <| W.region <| L.v (R1.move rfl) rfl <| L.v (R1.move rfl) rfl <| L.v (R1.lt rfl rfl) rfl <| L.nil <| X.seq <| W.cond rfl ?_ ?_
        ·
         intro hc110
         try simp only [bq, ne_eq] at hc110
         refine W.skip <| X.seq <| W.seq <| W.block <| W.seq <| W.region <| L.v (R1.move rfl) rfl <| L.v (R1.move rfl) rfl <| L.v (R1.atOwn (i := v) rfl rfl hoT tyS46 rfl (by omega)) rfl <| L.v (R1.ldBo rfl hoT (by omega) tyP4) rfl <| L.v (R1.not rfl) rfl ?_
         refine L.v (R1.move rfl) rfl ?_
         cases hgd118 : (!(bs.getD v false))
         ·
          simp only [Bool.not_eq_true', Bool.not_eq_false'] at hgd118
          refine L.off rfl rfl rfl rfl rfl <| L.off rfl rfl rfl rfl rfl <| L.off rfl rfl rfl rfl rfl <| L.off rfl rfl rfl rfl rfl <| L.off rfl rfl rfl rfl rfl <| L.v (R1.pickF rfl rfl) rfl <| L.nil <| X.seq <| W.condF rfl <| W.skip <| X.blockEnd ?_
          refine X.seq <| W.region <| L.v (R1.move rfl) rfl <| L.v (R1.addI (b := 1) rfl rfl (by omega)) rfl <| L.v (R1.assign rfl) rfl <| L.nil <| X.next (v + 1) ?_ ?_ ?_
          · exact ⟨rfl, rfl, rfl, rfl, rfl, rfl, trivial⟩
          ·
           exact ⟨hL.sub (by intro b hb; first | exact hb | (simp only [mq] at hb ⊢; grind)), hO.sub (by intro b hb; first | exact hb | (simp only [mq] at hb ⊢; grind)), hW.sub (by intro b hb; first | exact hb | (simp only [mq] at hb ⊢; grind)), hoT, by omega, hm0⟩
          · first | omega | (dsimp only; omega)
         ·
          simp only [Bool.not_eq_true', Bool.not_eq_false'] at hgd118
          refine L.on rfl rfl rfl (R1.move rfl) rfl <| L.on rfl rfl rfl (R1.move rfl) rfl <| L.on rfl rfl rfl (R1.atLay (j := v) rfl rfl hW tyS24 rfl (by rw [walZ_len hCh]; omega)) rfl <| L.on rfl rfl rfl (R1.loadLI rfl hW tyP3 (by rw [walZ_len hCh]; omega) (walZ_get hCh _)) rfl <| L.on rfl rfl rfl ((R1.ne rfl rfl).asB (c := false) (by rw [told_none hC (by rw [hbs v (by omega)] at hgd118; exact of_decide_eq_false hgd118)]; rfl)) rfl <| L.v (R1.pickT rfl rfl) rfl <| L.nil <| X.seq <| W.condF rfl <| W.skip <| X.blockEnd ?_
          refine X.seq <| W.region <| L.v (R1.move rfl) rfl <| L.v (R1.addI (b := 1) rfl rfl (by omega)) rfl <| L.v (R1.assign rfl) rfl <| L.nil <| X.next (v + 1) ?_ ?_ ?_
          · exact ⟨rfl, rfl, rfl, rfl, rfl, rfl, trivial⟩
          ·
           exact ⟨hL.sub (by intro b hb; first | exact hb | (simp only [mq] at hb ⊢; grind)), hO.sub (by intro b hb; first | exact hb | (simp only [mq] at hb ⊢; grind)), hW.sub (by intro b hb; first | exact hb | (simp only [mq] at hb ⊢; grind)), hoT, by omega, hm0⟩
          · first | omega | (dsimp only; omega)
        ·
         intro hc110
         try simp only [bq, ne_eq] at hc110
         obtain rfl : n = v := by omega
         refine W.exit <| X.thenExit <| X.nextExit <| X.here <| X.seq <| W.seq <| W.region <| L.call rfl (c_known13) rfl ?_
         rintro _ w10 ⟨rfl, hm10⟩
         replace hm0 := hm0.trans hm10
         clear hm10
         refine L.v (R1.assign rfl) rfl <| L.nil <| X.seq <| W.ret <| X.result1 rfl (.tmp rfl .nil) ?_
         exact ⟨rfl, hm0⟩
  ·
   have hcc_ := hgd21
   refine L.off rfl rfl rfl rfl rfl <| L.off rfl rfl rfl rfl rfl <| L.off rfl rfl rfl rfl rfl <| L.v (R1.pickT rfl rfl) rfl <| L.nil <| X.seq <| W.condT rfl <| W.seq <| W.region <| L.v (R1.assign rfl) rfl <| L.nil ?_
   refine X.seq <| W.ret <| X.thenRet <| X.result1 rfl (.tmp rfl .nil) ?_
   exact ⟨rfl, hm0⟩
 ·
  have hcc_ := hgd16
  refine L.off rfl rfl rfl rfl rfl <| L.off rfl rfl rfl rfl rfl <| L.off rfl rfl rfl rfl rfl <| L.v (R1.pickT rfl rfl) rfl <| L.v (R1.move rfl) rfl <| L.off rfl rfl rfl rfl rfl <| L.off rfl rfl rfl rfl rfl <| L.off rfl rfl rfl rfl rfl <| L.v (R1.pickT rfl rfl) rfl <| L.nil <| X.seq ?_
  refine W.condT rfl <| W.seq <| W.region <| L.v (R1.assign rfl) rfl <| L.nil <| X.seq <| W.ret <| X.thenRet <| X.result1 rfl (.tmp rfl .nil) ?_
  exact ⟨rfl, hm0⟩

end Go.Proofs.Ytfpipaoobmcomaa
