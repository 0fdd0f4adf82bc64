/- Walks: what the functions compute. -/
import Derived.Test.YtfpipaoobmcomaaL3K
namespace Go.Proofs.Ytfpipaoobmcomaa
open Go.RowKit
set_option linter.unusedVariables false
set_option linter.unusedSimpArgs false
set_option maxRecDepth 10000

/-- How many of each strength tell, of so many. -/
def lvlN (cs : List CR) (o : List Int) (i s : Nat) : Nat := (List.range i).countP fun j => decide (0 ≤ o.getD j 0) && decide ((stS cs).getD j 0 = (s : Int))
def lvlZ (cs : List CR) (o : List Int) (i : Nat) : List Int := (List.range 5).map fun s => ((lvlN cs o i s : Nat) : Int)
theorem lvlZ_len (cs : List CR) (o : List Int) (i : Nat) : (lvlZ cs o i).length = 5 := by simp [lvlZ]
theorem lvlZ_get (cs : List CR) (o : List Int) (i : Nat) {s : Nat} (h : s < 5) : (lvlZ cs o i).getD s 0 = ((lvlN cs o i s : Nat) : Int) := by simp [lvlZ, List.getD_eq_getElem?_getD, h]
theorem lvlN_le (cs : List CR) (o : List Int) (i s : Nat) : lvlN cs o i s ≤ i := by unfold lvlN; exact Nat.le_trans List.countP_le_length (by simp)
theorem lvlN_snoc (cs : List CR) (o : List Int) (i s : Nat) : lvlN cs o (i + 1) s = lvlN cs o i s + (if 0 ≤ o.getD i 0 ∧ (stS cs).getD i 0 = (s : Int) then 1 else 0) := by
  unfold lvlN
  rw [List.range_succ, List.countP_append, List.countP_singleton]
  congr 1
  by_cases h : 0 ≤ o.getD i 0 ∧ (stS cs).getD i 0 = (s : Int)
  · rw [if_pos h, if_pos (by rw [decide_eq_true h.1, decide_eq_true h.2]; rfl)]
  · rw [if_neg h, if_neg (fun h9 => h (by simpa using h9))]
theorem lvlZ_no {cs : List CR} {o : List Int} {i : Nat} (h : o.getD i 0 < 0) : lvlZ cs o (i + 1) = lvlZ cs o i := by
  unfold lvlZ
  apply List.map_congr_left
  intro s _
  rw [lvlN_snoc, if_neg (by omega)]; rfl
theorem lvlZ_yes {cs : List CR} {o : List Int} {i : Nat} {z : CR} (hz : cs[i]? = some z) (h : 0 ≤ o.getD i 0) (h0 : 0 ≤ z.st) : lvlZ cs o (i + 1) = (lvlZ cs o i).set z.st.toNat ((lvlZ cs o i).getD z.st.toNat 0 + 1) := by
  apply List.ext_getElem (by simp [lvlZ])
  intro s h1 h2
  have hs : s < 5 := by rw [lvlZ_len] at h1; exact h1
  rw [List.getElem_set]
  have e1 : (lvlZ cs o (i + 1))[s] = ((lvlN cs o (i + 1) s : Nat) : Int) := by simp [lvlZ]
  have e2 : ∀ (h9 : s < (lvlZ cs o i).length), (lvlZ cs o i)[s] = ((lvlN cs o i s : Nat) : Int) := fun _ => by simp [lvlZ]
  refine e1.trans ?_
  rw [lvlN_snoc, stS_get hz]
  by_cases e : z.st.toNat = s
  · subst e
    rw [if_pos ⟨h, by omega⟩, if_pos rfl, lvlZ_get cs o i hs]; simp
  · rw [if_neg e, if_neg (by omega)]
    refine Eq.trans ?_ (e2 _).symm
    simp
theorem nlv_lvl {n : Nat} {cs : List CR} {o : List Int} (hC : ChoZ n cs o) (s : Nat) : nlv cs.length (stS cs) (tels o) (s : Int) + lvlN cs o cs.length s = (List.range cs.length).countP (fun j => decide ((stS cs).getD j 0 = (s : Int))) := by
  unfold nlv lvlN
  have key : ∀ L : List Nat, (∀ j ∈ L, j < cs.length) → L.countP (fun i => !(tels o i) && decide ((stS cs).getD i 0 = (s : Int))) + L.countP (fun j => decide (0 ≤ o.getD j 0) && decide ((stS cs).getD j 0 = (s : Int))) = L.countP (fun j => decide ((stS cs).getD j 0 = (s : Int))) := fun L => by
    induction L with
    | nil => intro _; rfl
    | cons a L ih =>
      intro hL
      have := ih (fun j hj => hL j (by simp [hj]))
      have ha := hL a (by simp)
      have ht : tels o a = decide (0 ≤ o.getD a 0) := by
        have h1 := hC.idle ha
        have h2 := hC.low ha
        unfold tels
        cases h3 : outF o a with
        | none => have := h1.2 h3; rw [decide_eq_false (by omega)]; rfl
        | some v =>
          have : o.getD a 0 ≠ -1 := fun e => by rw [h1.1 e] at h3; cases h3
          rw [decide_eq_true (by omega)]; rfl
      simp only [List.countP_cons, ht]
      by_cases h4 : 0 ≤ o.getD a 0 <;> by_cases h5 : (stS cs).getD a 0 = (s : Int) <;> simp only [h4, h5, decide_true, decide_false, Bool.not_true, Bool.not_false, Bool.false_and, Bool.true_and, Bool.and_false, Bool.and_true, if_true, if_false, Bool.false_eq_true] <;> omega
  exact key _ (fun j hj => by simpa using hj)
theorem better_at {n : Nat} {cs : List CR} {os : List Int} (h : ChB (n : Int) cs os = true) {s : Nat} (hs : s < 5) (hne : (lvlZ cs os cs.length).getD s 0 ≠ (lvlZ cs (setZ (n : Int) cs os) cs.length).getD s 0) (heq : ∀ k, k < s → (lvlZ cs os cs.length).getD k 0 = (lvlZ cs (setZ (n : Int) cs os) cs.length).getD k 0) : (lvlZ cs os cs.length).getD s 0 < (lvlZ cs (setZ (n : Int) cs os) cs.length).getD s 0 := by
  rw [setZ_yes h] at hne heq ⊢
  have hC := ChoZ.of h
  have hC2 := setlZ_cho hC
  rcases (setl_spec hC.st hC.c).2.2 with h1 | h1
  · exact absurd (by rw [show setlZ n cs os = os from h1]) hne
  · have hw : wgt (wsOf n cs).length (stS cs) (tels (setlZ n cs os)) < wgt (wsOf n cs).length (stS cs) (tels os) := h1
    rw [ws_len] at hw
    have hm := hC.m
    have a := fun k => nlv_lvl hC k
    have b := fun k => nlv_lvl hC2 k
    have c := fun k : Nat => nlv_le cs.length (stS cs) (tels os) (k : Int)
    have d := fun k : Nat => nlv_le cs.length (stS cs) (tels (setlZ n cs os)) (k : Int)
    rw [lvlZ_get _ _ _ hs, lvlZ_get _ _ _ hs] at hne
    rw [lvlZ_get _ _ _ hs, lvlZ_get _ _ _ hs]
    have heq2 : ∀ k, k < s → lvlN cs os cs.length k = lvlN cs (setlZ n cs os) cs.length k := fun k hk => by
      have h9 := heq k hk
      rw [lvlZ_get _ _ _ (by omega), lvlZ_get _ _ _ (by omega)] at h9
      omega
    unfold wgt at hw
    have a0 : nlv cs.length (stS cs) (tels os) (0 : Int) + lvlN cs os cs.length 0 = _ := a 0
    have b0 : nlv cs.length (stS cs) (tels (setlZ n cs os)) (0 : Int) + lvlN cs (setlZ n cs os) cs.length 0 = _ := b 0
    have c0 : nlv cs.length (stS cs) (tels os) (0 : Int) ≤ cs.length := c 0
    have d0 : nlv cs.length (stS cs) (tels (setlZ n cs os)) (0 : Int) ≤ cs.length := d 0
    have a1 : nlv cs.length (stS cs) (tels os) (1 : Int) + lvlN cs os cs.length 1 = _ := a 1
    have b1 : nlv cs.length (stS cs) (tels (setlZ n cs os)) (1 : Int) + lvlN cs (setlZ n cs os) cs.length 1 = _ := b 1
    have c1 : nlv cs.length (stS cs) (tels os) (1 : Int) ≤ cs.length := c 1
    have d1 : nlv cs.length (stS cs) (tels (setlZ n cs os)) (1 : Int) ≤ cs.length := d 1
    have a2 : nlv cs.length (stS cs) (tels os) (2 : Int) + lvlN cs os cs.length 2 = _ := a 2
    have b2 : nlv cs.length (stS cs) (tels (setlZ n cs os)) (2 : Int) + lvlN cs (setlZ n cs os) cs.length 2 = _ := b 2
    have c2 : nlv cs.length (stS cs) (tels os) (2 : Int) ≤ cs.length := c 2
    have d2 : nlv cs.length (stS cs) (tels (setlZ n cs os)) (2 : Int) ≤ cs.length := d 2
    have a3 : nlv cs.length (stS cs) (tels os) (3 : Int) + lvlN cs os cs.length 3 = _ := a 3
    have b3 : nlv cs.length (stS cs) (tels (setlZ n cs os)) (3 : Int) + lvlN cs (setlZ n cs os) cs.length 3 = _ := b 3
    have c3 : nlv cs.length (stS cs) (tels os) (3 : Int) ≤ cs.length := c 3
    have d3 : nlv cs.length (stS cs) (tels (setlZ n cs os)) (3 : Int) ≤ cs.length := d 3
    have a4 : nlv cs.length (stS cs) (tels os) (4 : Int) + lvlN cs os cs.length 4 = _ := a 4
    have b4 : nlv cs.length (stS cs) (tels (setlZ n cs os)) (4 : Int) + lvlN cs (setlZ n cs os) cs.length 4 = _ := b 4
    have c4 : nlv cs.length (stS cs) (tels os) (4 : Int) ≤ cs.length := c 4
    have d4 : nlv cs.length (stS cs) (tels (setlZ n cs os)) (4 : Int) ≤ cs.length := d 4
    rcases (show s = 0 ∨ s = 1 ∨ s = 2 ∨ s = 3 ∨ s = 4 by omega) with rfl | rfl | rfl | rfl | rfl
    · omega
    · have e0 := heq2 0 (by omega); omega
    · have e0 := heq2 0 (by omega); have e1 := heq2 1 (by omega); omega
    · have e0 := heq2 0 (by omega); have e1 := heq2 1 (by omega); have e2 := heq2 2 (by omega); omega
    · have e0 := heq2 0 (by omega); have e1 := heq2 1 (by omega); have e2 := heq2 2 (by omega); have e3 := heq2 3 (by omega); omega


section
variable {e : Env} {w w' : World} {x y : Operand} {ty t' t : TypeId} {g j : Nat} {k : IntKind} {i : Int} {l : List Int} {n : Nat} {Q : Exit → Act → World → Prop} {ops : Array Oper} {rest : List Oper} {pos : String} {after : Array Edge}
theorem R1.atArr (hx : ev e x = some (.pointer (some ⟨g, 0, none⟩))) (hy : ev e y = some (.int k i)) (hi : i = (j : Int)) (hj : j < 5) : R1 Try.prog e (.indexAddr 31 x y) ty w (.pointer (some ⟨g, j, none⟩)) := fun n a d pos after g' ha => by
  have h1 : Try.prog.underlying 31 = some (.array 5 3) := by kernel_rfl
  subst hi
  simp [execOp, ha.eval hx, ha.eval hy, Instr.indexAt, asIntOf, run_underlying h1, Instr.sureAddr, sliceT.sizeOf tyS24, add_lit]
  omega
theorem R1.ldArr {P : Program} (hx : ev e x = some (.pointer (some ⟨g, j, none⟩))) (hb : Blk w g t' (intsZ l).toArray) (hj : j < l.length) (ht : plainT P t = true) : R1 P e (.load t x) ty w (.int .i64 (l.getD j 0)) :=
  R1.loadFld hx hb (by simpa using intsZ_get hj) ht
theorem L.stArr {P : Program} {c : Int} (hx : ev e x = some (.pointer (some ⟨g, j, none⟩))) (hy : ev e y = some (.int .i64 c)) (hb : Blk w g t' (intsZ l).toArray) (hj : j < l.length) (ht : plainT P t = true)
    (h : ∀ w', Blk w' g t' (intsZ (l.set j c)).toArray → Mod [g] w w' → L P n Q ops rest e w') : L P n Q ops (⟨none, .store t x y, ty, pos, after, none⟩ :: rest) e w :=
  L.store hx hy hb (by simpa [intsZ_length] using hj) rfl ht (fun w' h2 h3 => h w' (by rw [← intsZ_set]; simpa using h2) h3)
end
theorem intsZ_all (l : List Int) : ((intsZ l).all fun x => x.oneCell') = true := by rw [List.all_eq_true]; exact intsZ_one l

theorem c_levels {N9 : List Nat} {w : World} {vl vo : Value} {cs : List CR} {os : List Int} (hL : Lay rdC N9 w vl cs) (hO : Lay rdI N9 w vo os) (hlen : os.length = cs.length) (hcl : cs.length ≤ 12) (hst : ∀ c ∈ cs, 0 ≤ c.st ∧ c.st ≤ 4) :
    Ret Try.prog 16 #[vl, vo] w (fun r w' => r = .agg (intsZ (lvlZ cs os cs.length)).toArray ∧ Mod [] w w') := by
 obtain ⟨TL, tL, rfl⟩ := hL.form
 obtain ⟨TO, tO, rfl⟩ := hO.form
 refine Ret.of (vs := [.slice TL cs.length tL, .slice TO os.length tO]) (n := 28) Try.func16 rfl rfl rfl rfl ?_
 have hm0 : Mod [] w w := Mod.refl _ _
 refine W.seq <| W.region <| L.alloc tyZ31 rfl ?_
 intro g4 w1 hN4
 replace hL := hL.new hN4
 replace hO := hO.new hN4
 have hge_g4 := New.ge hN4 hm0.size
 replace hm0 := hm0.trans (hN4.mod.mono (by simp))
 have hb4 := hN4.blk
 clear hN4
 replace hb4 : Blk _ g4 31 (intsZ [0, 0, 0, 0, 0]).toArray := hb4
 refine L.nil <| X.seq <| W.seq <| W.region <| L.alloc tyZ31 rfl ?_
 intro g5 w2 hN5
 replace hL := hL.new hN5
 replace hO := hO.new hN5
 have hge_g5 := New.ge hN5 hm0.size
 replace hm0 := hm0.trans (hN5.mod.mono (by simp))
 have hne_g4_g5 := hb4.ne_ hN5
 replace hb4 := Blk.gr hb4 hN5.mod
 have hb5 := hN5.blk
 clear hN5
 replace hb5 : Blk _ g5 31 (intsZ [0, 0, 0, 0, 0]).toArray := hb5
 refine L.nil <| X.seq <| W.seq <| W.seq <| W.region <| L.v (R1.assign rfl) rfl <| L.nil <| X.seq <| W.block <| W.loop (ι := Nat) (fun i => [(0, .slice TL cs.length tL), (1, .slice TO os.length tO), (4, .pointer (some ⟨g4, 0, none⟩)), (5, .pointer (some ⟨g5, 0, none⟩)), (6, .int .i64 ((i : Nat) : Int))]) (fun i w_ => Lay rdC (g5 :: g4 :: N9) w_ (.slice TL cs.length tL) cs ∧ Lay rdI (g5 :: g4 :: N9) w_ (.slice TO os.length tO) os ∧ Blk w_ g4 31 (intsZ [0, 0, 0, 0, 0]).toArray ∧ Blk w_ g5 31 (intsZ (lvlZ cs os i)).toArray ∧ i ≤ cs.length ∧ Mod [] w w_) (fun i => cs.length - i) 0 ?_ ?_ ?_
 · exact ⟨rfl, rfl, rfl, rfl, rfl, trivial⟩
 ·
  exact ⟨hL.sub (by intro b hb; first | exact hb | (simp only [mq] at hb ⊢; grind)), hO.sub (by intro b hb; first | exact hb | (simp only [mq] at hb ⊢; grind)), hb4, hb5, Nat.zero_le _, hm0⟩
 ·
  rintro i w3 ⟨hL, hO, hb4, hb5, hi, hm0⟩
  refine W.seq <| W.seq <| W.region <| L.v (R1.move rfl) rfl <| L.v (R1.move rfl) rfl <| L.v (R1.lenLay rfl hL tyS22) rfl <| L.v (R1.lt rfl rfl) rfl <| L.nil <| X.seq <| W.cond rfl ?_ ?_
  ·
   intro hc10
   try simp only [bq, ne_eq] at hc10
   refine W.skip <| X.seq <| W.seq <| W.block <| W.seq <| W.region <| L.v (R1.move rfl) rfl <| L.v (R1.move rfl) rfl <| L.v (R1.atLay (j := i) rfl rfl hO tyS24 rfl (by omega)) rfl <| L.v (R1.loadLI rfl hO tyP3 (by omega) (getD_at _)) rfl <| L.v (R1.ge rfl rfl) rfl ?_
   refine L.nil <| X.seq <| W.cond rfl ?_ ?_
   ·
    intro hc17
    try simp only [bq, ne_eq] at hc17
    refine W.region <| L.v (R1.move rfl) rfl <| L.v (R1.move rfl) rfl <| L.v (R1.atLay (j := i) rfl rfl hL tyS22 rfl (by omega)) rfl <| L.v (R1.fieldAddr rfl tyF41_0) rfl ?_
    obtain ⟨z22, cs22, hz22, hE22, vt22, ds22, rfl, ht22, vn22, vd22, rfl, hn22, hd22⟩ := Lay.elemQ hL (j := i) (by omega)
    obtain ⟨T22, t22, rfl⟩ := ht22.form
    obtain ⟨A22, c22, rfl⟩ := hn22.form
    obtain ⟨B22, e22, rfl⟩ := hd22.form
    refine L.v (R1.loadEF rfl hE22 rfl tyP3) rfl ?_
    have hs9 := hst _ (List.mem_of_getElem? hz22)
    have hx9 := lvlZ_get cs os i (s := z22.st.toNat) (by omega)
    have hy9 := lvlN_le cs os i z22.st.toNat
    have hl9 := lvlZ_len cs os i
    refine L.v (R1.atArr (j := z22.st.toNat) rfl rfl (Int.toNat_of_nonneg hs9.1).symm (by omega)) rfl <| L.v (R1.ldArr rfl hb5 (by omega) tyP3) rfl <| L.v ((R1.add rfl rfl).as (wrap_i64 (by omega) (by omega))) rfl <| L.v (R1.atArr (j := z22.st.toNat) rfl rfl (Int.toNat_of_nonneg hs9.1).symm (by omega)) rfl <| L.stArr rfl rfl hb5 (by omega) tyP3 ?_
    intro w4 hb5' hm4
    replace hL := hL.mod hm4 (by simp)
    replace hO := hO.mod hm4 (by simp)
    replace hb4 := Blk.far hb4 hm4 (by first | exact hne_g4_g5 | exact (hne_g5_g4).symm)
    replace hm0 := hm0.old1 hm4 hge_g5
    clear hm4
    replace hb5 := hb5'; clear hb5'
    refine L.nil <| X.blockEnd <| X.seq <| W.region <| L.v (R1.move rfl) rfl <| L.v (R1.addI (b := 1) rfl rfl (by omega)) rfl <| L.v (R1.assign rfl) rfl <| L.nil <| X.next (i + 1) ?_ ?_ ?_
    · exact ⟨rfl, rfl, rfl, rfl, rfl, trivial⟩
    ·
     exact ⟨hL.sub (by intro b hb; first | exact hb | (simp only [mq] at hb ⊢; grind)), hO.sub (by intro b hb; first | exact hb | (simp only [mq] at hb ⊢; grind)), hb4, by rw [lvlZ_yes hz22 hc17 hs9.1]; exact hb5, by omega, hm0⟩
    · first | omega | (dsimp only; omega)
   ·
    intro hc17
    try simp only [bq, ne_eq] at hc17
    refine W.skip <| X.blockEnd <| X.seq <| W.region <| L.v (R1.move rfl) rfl <| L.v (R1.addI (b := 1) rfl rfl (by omega)) rfl <| L.v (R1.assign rfl) rfl <| L.nil <| X.next (i + 1) ?_ ?_ ?_
    · exact ⟨rfl, rfl, rfl, rfl, rfl, trivial⟩
    ·
     exact ⟨hL.sub (by intro b hb; first | exact hb | (simp only [mq] at hb ⊢; grind)), hO.sub (by intro b hb; first | exact hb | (simp only [mq] at hb ⊢; grind)), hb4, by rw [lvlZ_no (by omega)]; exact hb5, by omega, hm0⟩
    · first | omega | (dsimp only; omega)
  ·
   intro hc10
   try simp only [bq, ne_eq] at hc10
   obtain rfl : i = cs.length := by omega
   refine W.exit <| X.thenExit <| X.nextExit <| X.here <| X.seq <| W.seq <| W.region <| L.v (R1.loadBox rfl hb5 (by rw [tyG31, intsZ_length, lvlZ_len])) rfl <| L.storeBox rfl rfl hb4 (by rw [List.size_toArray, intsZ_length, intsZ_length, lvlZ_len]; rfl) (intsZ_all _) (by rw [tyG31, intsZ_length, lvlZ_len]) ?_
   intro w5 hb4' hm5
   replace hm0 := hm0.old1 hm5 hge_g4
   clear hm5
   replace hb4 := hb4'; clear hb4'
   refine L.nil <| X.seq <| W.ret <| X.result1 rfl (.cell rfl (loadVar_blk hb4 (by rw [tyG31, intsZ_length, lvlZ_len])) .nil) ?_
   exact ⟨rfl, hm0⟩

set_option maxHeartbeats 1000000 in
theorem c_DeltaBetter {w : World} {vl vo : Value} {cs : List CR} {os : List Int} {z0 : Int} (hL : Lay rdC [] w vl cs) (hO : Lay rdI [] w vo os) (hb : szCs cs ≤ 4194304) :
    Ret Try.prog 4 #[vl, vo, .int .i64 z0] w (fun r w' => r = .bool true ∧ Mod [] w w') := by
 have hbd : Bd [] w := fun m hm => by cases hm
 obtain ⟨TL, tL, rfl⟩ := hL.form
 obtain ⟨TO, tO, rfl⟩ := hO.form
 have hmaxL := hL.max; unfold maxLen at hmaxL
 have hmaxO := hO.max; unfold maxLen at hmaxO
 refine Ret.of (vs := [.slice TL cs.length tL, .slice TO os.length tO, .int .i64 z0]) (n := 75) Try.func4 rfl rfl rfl rfl ?_
 have hm0 : Mod [] w w := Mod.refl _ _
 refine W.seq <| W.region <| L.v (R1.assign rfl) rfl <| L.nil <| X.seq <| W.seq <| W.seq <| W.region <| L.v (R1.move rfl) rfl <| L.call rfl (c_heavy_pantographlaw13 hL hb) rfl ?_
 rintro _ w1 ⟨rfl, hm1⟩
 replace hL := hL.gr hm1
 replace hO := hO.gr hm1
 replace hbd := hbd.gr hm1
 replace hm0 := hm0.trans hm1
 clear hm1
 refine L.v (R1.move rfl) rfl ?_
 cases hgd14 : (decide (150 < szCs cs))
 ·
  have hcc_ := hgd14
  refine L.on rfl rfl rfl (R1.move rfl) rfl <| L.on rfl rfl rfl (R1.lenLay rfl hL tyS22) rfl <| L.on rfl rfl rfl ((R1.gt rfl rfl).asB (c := (decide ((12 : Int) < (cs.length : Int)))) (rfl)) rfl <| L.v (R1.pickF rfl rfl) rfl <| L.v (R1.move rfl) rfl ?_
  cases hgd19 : (decide ((12 : Int) < (cs.length : Int)))
  ·
   have hcc_ := hgd19
   refine L.on rfl rfl rfl (R1.move rfl) rfl <| L.on rfl rfl rfl (R1.lenLay rfl hO tyS24) rfl <| L.on rfl rfl rfl ((R1.gt rfl rfl).asB (c := (decide ((20 : Int) < (os.length : Int)))) (rfl)) rfl <| L.v (R1.pickF rfl rfl) rfl <| L.v (R1.move rfl) rfl ?_
   cases hgd24 : (decide ((20 : Int) < (os.length : Int)))
   ·
    have hcc_ := hgd24
    have hsm := sm150 (by simpa using hgd14)
    have hcl : cs.length ≤ 12 := by have h9 := of_decide_eq_false hgd19; omega
    have hol : os.length ≤ 1000000 := by have h9 := of_decide_eq_false hgd24; omega
    refine L.on rfl rfl rfl (R1.move rfl) rfl <| L.on rfl rfl rfl (R1.move rfl) rfl <| L.on rfl rfl rfl (R1.move rfl) rfl <| L.callOn rfl rfl rfl rfl (c_r13_Is (hL.sub (M' := []) (fun b hb => by cases hb)) (hO.sub (M' := []) (fun b hb => by cases hb)) (hbd.sub (M' := []) (fun b hb => by cases hb)) hsm) rfl ?_
    rintro _ w2 ⟨rfl, hm2⟩
    replace hL := hL.gr hm2
    replace hO := hO.gr hm2
    replace hbd := hbd.gr hm2
    replace hm0 := hm0.trans hm2
    clear hm2
    refine L.on rfl rfl rfl (R1.not rfl) rfl <| L.v (R1.pickF rfl rfl) rfl <| L.nil <| X.seq <| W.cond rfl ?_ ?_
    ·
     intro hc30
     simp only [Bool.not_eq_true', Bool.not_eq_false'] at hc30
     refine W.seq <| W.region <| L.v (R1.assign rfl) rfl <| L.nil <| X.seq <| W.ret <| X.thenRet <| X.result1 rfl (.tmp rfl .nil) ?_
     exact ⟨rfl, hm0⟩
    ·
     intro hc30
     simp only [Bool.not_eq_true', Bool.not_eq_false'] at hc30
     have hch : ChB z0 cs os = true := hc30
     have hsl := setZ_len hch
     obtain ⟨_, _, _, hlo, _, _⟩ := ChB_true hch
     have hst : ∀ c ∈ cs, 0 ≤ c.st ∧ c.st ≤ 4 := fun c hc => by obtain ⟨n, rfl, _⟩ := nat_of hch; exact isC_st (ChB_all hch c hc)
     refine W.skip <| X.seq <| W.seq <| W.region <| L.v (R1.move rfl) rfl <| L.v (R1.move rfl) rfl <| L.v (R1.move rfl) rfl <| L.call rfl (c_SettleL (hL.sub (M' := []) (fun b hb => by cases hb)) (hO.sub (M' := []) (fun b hb => by cases hb)) (hbd.sub (M' := []) (fun b hb => by cases hb)) hsm hol hcl) rfl ?_
     rintro _ w3 ⟨v35, rfl, hR, hm3⟩
     replace hL := hL.gr hm3
     replace hO := hO.gr hm3
     replace hm0 := hm0.trans hm3
     clear hm3
     refine L.v (R1.move rfl) rfl <| L.v (R1.extract rfl rfl) rfl <| L.v (R1.extract rfl rfl) rfl <| L.v (R1.assign rfl) rfl <| L.v (R1.assign rfl) rfl <| L.nil <| X.seq <| W.seq <| W.seq <| W.region <| L.v (R1.move rfl) rfl ?_
     refine L.v ((R1.not rfl).asB (c := false) (by rw [hch]; rfl)) rfl <| L.v (R1.move rfl) rfl <| L.on rfl rfl rfl (R1.move rfl) rfl <| L.on rfl rfl rfl (R1.lenLay rfl hR tyS24) rfl <| L.on rfl rfl rfl (R1.move rfl) rfl <| L.on rfl rfl rfl (R1.lenLay rfl hL tyS22) rfl <| L.on rfl rfl rfl ((R1.ne rfl rfl).asB (c := false) (by rw [hsl]; simp)) rfl <| L.v (R1.pickF rfl rfl) rfl <| L.nil <| X.seq <| W.condF rfl ?_
     refine W.skip <| X.seq <| W.seq <| W.region <| L.v (R1.move rfl) rfl <| L.v (R1.move rfl) rfl <| L.call rfl (c_levels (hL.sub (M' := []) (fun b hb => by cases hb)) (hO.sub (M' := []) (fun b hb => by cases hb)) hlo hcl hst) rfl ?_
     rintro _ w4 ⟨rfl, hm4⟩
     replace hL := hL.gr hm4
     replace hm0 := hm0.trans hm4
     replace hR := hR.gr hm4
     clear hm4
     refine L.v (R1.move rfl) rfl <| L.v (R1.move rfl) rfl <| L.call rfl (c_levels (hL.sub (M' := []) (fun b hb => by cases hb)) (hR.sub (M' := []) (fun b hb => by cases hb)) hsl hcl hst) rfl ?_
     rintro _ w5 ⟨rfl, hm5⟩
     replace hm0 := hm0.trans hm5
     clear hm5
     refine L.alloc tyZ31 rfl ?_
     intro g9 w6 hN9
     have hge_g9 := New.ge hN9 hm0.size
     replace hm0 := hm0.trans (hN9.mod.mono (by simp))
     have hb9 := hN9.blk
     clear hN9
     replace hb9 : Blk _ g9 31 (intsZ [0, 0, 0, 0, 0]).toArray := hb9
     refine L.alloc tyZ31 rfl ?_
     intro g10 w7 hN10
     have hge_g10 := New.ge hN10 hm0.size
     replace hm0 := hm0.trans (hN10.mod.mono (by simp))
     have hne_g9_g10 := hb9.ne_ hN10
     replace hb9 := Blk.gr hb9 hN10.mod
     have hb10 := hN10.blk
     clear hN10
     replace hb10 : Blk _ g10 31 (intsZ [0, 0, 0, 0, 0]).toArray := hb10
     refine L.storeBox rfl rfl hb9 (by rw [List.size_toArray, intsZ_length, intsZ_length, lvlZ_len]; rfl) (intsZ_all _) (by rw [tyG31, intsZ_length, lvlZ_len]) ?_
     intro w8 hb9' hm8
     replace hm0 := hm0.old1 hm8 hge_g9
     replace hb10 := Blk.far hb10 hm8 (by first | exact hne_g10_g9 | exact (hne_g9_g10).symm)
     clear hm8
     replace hb9 := hb9'; clear hb9'
     refine L.storeBox rfl rfl hb10 (by rw [List.size_toArray, intsZ_length, intsZ_length, lvlZ_len]; rfl) (intsZ_all _) (by rw [tyG31, intsZ_length, lvlZ_len]) ?_
     intro w9 hb10' hm9
     replace hm0 := hm0.old1 hm9 hge_g10
     replace hb9 := Blk.far hb9 hm9 (by first | exact hne_g9_g10 | exact (hne_g10_g9).symm)
     clear hm9
     replace hb10 := hb10'; clear hb10'
     refine L.nil <| X.seq <| W.seq <| W.seq <| W.region <| L.v (R1.assign rfl) rfl <| L.nil <| X.seq <| W.block <| W.loop (ι := Nat) (fun s => [(9, .pointer (some ⟨g9, 0, none⟩)), (10, .pointer (some ⟨g10, 0, none⟩)), (11, .int .i64 ((s : Nat) : Int))]) (fun s w_ => Blk w_ g9 31 (intsZ (lvlZ cs os cs.length)).toArray ∧ Blk w_ g10 31 (intsZ (lvlZ cs (setZ z0 cs os) cs.length)).toArray ∧ s ≤ 5 ∧ (∀ k, k < s → (lvlZ cs os cs.length).getD k 0 = (lvlZ cs (setZ z0 cs os) cs.length).getD k 0) ∧ Mod [] w w_) (fun s => 5 - s) 0 ?_ ?_ ?_
     · exact ⟨rfl, rfl, rfl, trivial⟩
     ·
      exact ⟨hb9, hb10, Nat.zero_le _, (fun k h => by omega), hm0⟩
     ·
      rintro s w10 ⟨hb9, hb10, hs, heq, hm0⟩
      refine W.seq <| W.seq <| W.region <| L.v (R1.move rfl) rfl <| L.v (R1.lt rfl rfl) rfl <| L.nil <| X.seq <| W.cond rfl ?_ ?_
      ·
       intro hc54
       try simp only [bq, ne_eq] at hc54
       refine W.skip <| X.seq <| W.seq <| W.block <| W.seq <| W.drawW (T := []) rfl (by decide +kernel) (NoHang.then (NoHang.block (NoHang.then (NoHang.next (NoHang.block (NoHang.then NoHang.post)))))) (fun w11 hm11 => ?_)
       replace hb9 := Blk.gr hb9 hm11
       replace hb10 := Blk.gr hb10 hm11
       replace hm0 := hm0.trans hm11
       have hS1 : Mod [] w11 w11 := Mod.refl _ _
       clear hm11
       have hb9_s := hb9
       have hb10_s := hb10
       refine D.take 0 rfl (by decide +kernel) (fun w_ hS => (R1.move rfl)) hS1 rfl <| D.take 1 rfl (by decide +kernel) (fun w_ hS => (R1.atArr (j := s) rfl rfl rfl (by omega))) hS1 rfl <| D.take 2 rfl (by decide +kernel) (fun w_ hS => (R1.ldArr rfl (Blk.gr hb9_s hS) (by rw [lvlZ_len]; omega) tyP3)) hS1 rfl <| D.take 3 rfl (by decide +kernel) (fun w_ hS => (R1.move rfl)) hS1 rfl <| D.take 4 rfl (by decide +kernel) (fun w_ hS => (R1.atArr (j := s) rfl rfl rfl (by omega))) hS1 rfl <| D.take 5 rfl (by decide +kernel) (fun w_ hS => (R1.ldArr rfl (Blk.gr hb10_s hS) (by rw [lvlZ_len]; omega) tyP3)) hS1 rfl <| D.take 6 rfl (by decide +kernel) (fun w_ hS => (R1.ne rfl rfl)) hS1 rfl <| D.done (by decide +kernel) ?_ _
       refine X.seq <| W.cond rfl ?_ ?_
       ·
        intro hc63
        try simp only [bq, ne_eq] at hc63
        refine W.seq <| W.drawW (T := []) rfl (by decide +kernel) (NoHang.then (NoHang.block (NoHang.then (NoHang.next (NoHang.block (NoHang.then NoHang.post)))))) (fun w12 hm12 => ?_)
        replace hb9 := Blk.gr hb9 hm12
        replace hb10 := Blk.gr hb10 hm12
        replace hm0 := hm0.trans hm12
        have hS2 : Mod [] w12 w12 := Mod.refl _ _
        clear hm12
        have hb9_s := hb9
        have hb10_s := hb10
        refine D.take 0 rfl (by decide +kernel) (fun w_ hS => (R1.move rfl)) hS2 rfl <| D.take 1 rfl (by decide +kernel) (fun w_ hS => (R1.atArr (j := s) rfl rfl rfl (by omega))) hS2 rfl <| D.take 2 rfl (by decide +kernel) (fun w_ hS => (R1.ldArr rfl (Blk.gr hb10_s hS) (by rw [lvlZ_len]; omega) tyP3)) hS2 rfl <| D.take 3 rfl (by decide +kernel) (fun w_ hS => (R1.move rfl)) hS2 rfl <| D.take 4 rfl (by decide +kernel) (fun w_ hS => (R1.atArr (j := s) rfl rfl rfl (by omega))) hS2 rfl <| D.take 5 rfl (by decide +kernel) (fun w_ hS => (R1.ldArr rfl (Blk.gr hb9_s hS) (by rw [lvlZ_len]; omega) tyP3)) hS2 rfl <| D.take 6 rfl (by decide +kernel) (fun w_ hS => ((R1.gt rfl rfl).asB (c := true) (decide_eq_true (by obtain ⟨n, rfl, _⟩ := nat_of hch; exact better_at hch (by omega) hc63 heq)))) hS2 rfl <| D.take 7 rfl (by decide +kernel) (fun w_ hS => (R1.move rfl)) hS2 rfl <| D.one 8 rfl (by decide +kernel) (fun hX => ?_)
        refine L.callOn rfl rfl rfl rfl (c_known13) rfl ?_
        rintro _ w13 ⟨rfl, hm13⟩
        replace hm0 := hm0.trans hm13
        replace hS2 := hS2.trans hm13
        clear hm13
        refine L.nil (hX _ _ ⟨.inr hS2, ?_⟩)
        refine D.take 9 rfl (by decide +kernel) (fun w_ hS => (R1.pickT rfl rfl)) hS2 rfl <| D.take 10 rfl (by decide +kernel) (fun w_ hS => (R1.assign rfl)) hS2 rfl <| D.done (by decide +kernel) ?_ _
        refine X.seq <| W.ret <| X.blockRet <| X.thenRet <| X.nextRet <| X.blockRet <| X.thenRet <| X.result1 rfl (.tmp rfl .nil) ?_
        exact ⟨rfl, hm0⟩
       ·
        intro hc63
        try simp only [bq, ne_eq] at hc63
        refine W.skip <| X.blockEnd <| X.seq <| W.region <| L.v (R1.move rfl) rfl <| L.v (R1.addI (b := 1) rfl rfl (by omega)) rfl <| L.v (R1.assign rfl) rfl <| L.nil <| X.next (s + 1) ?_ ?_ ?_
        · exact ⟨rfl, rfl, rfl, trivial⟩
        ·
         exact ⟨hb9, hb10, by omega, (fun k hk => by rcases Nat.lt_or_ge k s with h9 | h9; exact heq k h9; obtain rfl : k = s := (by omega); exact hc63), hm0⟩
        · first | omega | (dsimp only; omega)
      ·
       intro hc54
       try simp only [bq, ne_eq] at hc54
       refine W.exit <| X.thenExit <| X.nextExit <| X.here <| X.seq <| W.seq <| W.region <| L.call rfl (c_known13) rfl ?_
       rintro _ w14 ⟨rfl, hm14⟩
       replace hm0 := hm0.trans hm14
       clear hm14
       refine L.v (R1.assign rfl) rfl <| L.nil <| X.seq <| W.ret <| X.result1 rfl (.tmp rfl .nil) ?_
       exact ⟨rfl, hm0⟩
   ·
    have hcc_ := hgd24
    refine L.off rfl rfl rfl rfl rfl <| L.off rfl rfl rfl rfl rfl <| L.off rfl rfl rfl rfl rfl <| L.off rfl rfl rfl rfl rfl <| L.off rfl rfl rfl rfl rfl <| L.v (R1.pickT rfl rfl) rfl <| L.nil <| X.seq <| W.condT rfl <| W.seq <| W.region ?_
    refine L.v (R1.assign rfl) rfl <| L.nil <| X.seq <| W.ret <| X.thenRet <| X.result1 rfl (.tmp rfl .nil) ?_
    exact ⟨rfl, hm0⟩
  ·
   have hcc_ := hgd19
   refine L.off rfl rfl rfl rfl rfl <| L.off rfl rfl rfl rfl rfl <| L.off rfl rfl rfl rfl rfl <| L.v (R1.pickT rfl rfl) rfl <| L.v (R1.move rfl) rfl <| L.off rfl rfl rfl rfl rfl <| L.off rfl rfl rfl rfl rfl <| L.off rfl rfl rfl rfl rfl <| L.off rfl rfl rfl rfl rfl <| L.off rfl rfl rfl rfl rfl <| L.v (R1.pickT rfl rfl) rfl ?_
   refine L.nil <| X.seq <| W.condT rfl <| W.seq <| W.region <| L.v (R1.assign rfl) rfl <| L.nil <| X.seq <| W.ret <| X.thenRet <| X.result1 rfl (.tmp rfl .nil) ?_
   exact ⟨rfl, hm0⟩
 ·
  have hcc_ := hgd14
  refine L.off rfl rfl rfl rfl rfl <| L.off rfl rfl rfl rfl rfl <| L.off rfl rfl rfl rfl rfl <| L.v (R1.pickT rfl rfl) rfl <| L.v (R1.move rfl) rfl <| L.off rfl rfl rfl rfl rfl <| L.off rfl rfl rfl rfl rfl <| L.off rfl rfl rfl rfl rfl <| L.v (R1.pickT rfl rfl) rfl <| L.v (R1.move rfl) rfl <| L.off rfl rfl rfl rfl rfl ?_
  refine L.off rfl rfl rfl rfl rfl <| L.off rfl rfl rfl rfl rfl <| L.off rfl rfl rfl rfl rfl <| L.off rfl rfl rfl rfl rfl <| L.v (R1.pickT rfl rfl) rfl <| L.nil <| X.seq <| W.condT rfl <| W.seq <| W.region <| L.v (R1.assign rfl) rfl ?_
  refine L.nil <| X.seq <| W.ret <| X.thenRet <| X.result1 rfl (.tmp rfl .nil) ?_
  exact ⟨rfl, hm0⟩

end Go.Proofs.Ytfpipaoobmcomaa
