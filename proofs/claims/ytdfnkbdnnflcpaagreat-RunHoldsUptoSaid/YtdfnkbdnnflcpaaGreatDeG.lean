/- Walks: what the functions compute. -/
import Derived.Test.YtdfnkbdnnflcpaaGreatDeE
namespace Go.Proofs.YtdfnkbdnnflcpaaGreat
open Go.RowKit
set_option linter.unusedVariables false
set_option linter.unusedSimpArgs false
set_option maxRecDepth 10000
def setlZ (n : Nat) (cs : List CR) (o : List Int) : List Int := setl n (wsOf n cs) (stS cs) o
def ordZ5 (cs : List CR) : List Nat := ordS cs.length (stS cs)
def ordI (cs : List CR) : List Int := (ordZ5 cs).map fun (k : Nat) => (k : Int)
def passK (n : Nat) (cs : List CR) (k : Nat) (o : List Int) : List Int := turnL n (wsOf n cs) (stS cs) ((ordZ5 cs).take k) o
def passZ (n : Nat) (cs : List CR) (o : List Int) : List Int := passF n (wsOf n cs) (stS cs) o
section
variable {n : Nat} {cs : List CR} {o os a : List Int} {nil : Bool}
theorem ChoZ.turns (h : ChoZ n cs o) (L : List Nat) (hL : ∀ i ∈ L, i < cs.length) : ChoZ n cs (turnL n (wsOf n cs) (stS cs) L o) := ⟨(h.c.turns h.st L (fun i hi => by rw [ws_len]; exact hL i hi)).1, h.all, h.m⟩
theorem passZ_cho (h : ChoZ n cs o) : ChoZ n cs (passZ n cs o) := ⟨(h.c.pass h.st).1, h.all, h.m⟩
theorem setlZ_cho (h : ChoZ n cs o) : ChoZ n cs (setlZ n cs o) := ⟨(setl_spec h.st h.c).1, h.all, h.m⟩
def MUZ (n : Nat) (cs : List CR) (o a : List Int) (nil : Bool) : Nat := 2 * wgO (wsOf n cs) (stS cs) o + (if nil = false ∧ a = o then 0 else 1)
structure SI (n : Nat) (cs : List CR) (os o a : List Int) (nil : Bool) : Prop where
  c : ChoZ n cs o
  e : setlZ n cs o = setlZ n cs os
  p : nil = false → o = passZ n cs a
theorem SI.start (h : ChoZ n cs os) : SI n cs os os [] true := ⟨h, rfl, fun h => by cases h⟩
theorem SI.next (h : SI n cs os o a nil) (hne : nil = true ∨ a ≠ o) : SI n cs os (passZ n cs o) o false ∧ MUZ n cs (passZ n cs o) o false < MUZ n cs o a nil := by
  refine ⟨⟨passZ_cho h.c, by rw [← h.e]; exact setl_step h.c.st h.c.c, fun _ => rfl⟩, ?_⟩
  have e1 : MUZ n cs o a nil = 2 * wgO (wsOf n cs) (stS cs) o + 1 := by
    unfold MUZ
    rw [if_neg]
    rintro ⟨h1, h2⟩
    rcases hne with h3 | h3
    · rw [h1] at h3; cases h3
    · exact h3 h2
  rw [e1]
  unfold MUZ
  rcases (h.c.c.pass h.c.st).2 with ⟨h1, _⟩ | h1
  · rw [show passZ n cs o = o from h1, if_pos ⟨rfl, rfl⟩]; omega
  · have h2 : wgO (wsOf n cs) (stS cs) (passZ n cs o) < wgO (wsOf n cs) (stS cs) o := h1
    split <;> omega
theorem SI.stop (h : SI n cs os o o false) : o = setlZ n cs os := by
  have h1 := h.p rfl
  rw [← h.e]
  exact (setl_same h1.symm).symm
end
def setZ (z : Int) (cs : List CR) (os : List Int) : List Int := if ChB z cs os = true then setlZ z.toNat cs os else os
def ordP (cs : List CR) (s i : Nat) : List Nat := ((List.range s).flatMap fun (t : Nat) => (List.range cs.length).filter fun j => decide ((stS cs).getD j 0 = (t : Int))) ++ (List.range i).filter fun j => decide ((stS cs).getD j 0 = (s : Int))
def passP (n : Nat) (cs : List CR) (s i : Nat) (o : List Int) : List Int := turnL n (wsOf n cs) (stS cs) (ordP cs s i) o
theorem passP_next (n : Nat) (cs : List CR) (s : Nat) (o : List Int) : passP n cs s cs.length o = passP n cs (s + 1) 0 o := by
  unfold passP
  congr 1
  unfold ordP
  rw [List.range_succ]
  simp
theorem passP_full (n : Nat) (cs : List CR) (o : List Int) : passP n cs 5 0 o = passZ n cs o := by
  unfold passP passZ passF
  rw [ws_len]
  congr 1
  unfold ordP ordS
  simp
theorem passP_snoc {n s i : Nat} {cs : List CR} {z : CR} (o : List Int) (h : cs[i]? = some z) : passP n cs s (i + 1) o = if z.st = (s : Int) then (if (passP n cs s i o).getD i 0 = -1 then enfZ n cs (passP n cs s i o) i else passP n cs s i o) else passP n cs s i o := by
  unfold passP ordP
  rw [List.range_succ, List.filter_append, ← List.append_assoc]
  by_cases e : z.st = (s : Int)
  · have e2 : List.filter (fun j => decide ((stS cs).getD j 0 = (s : Int))) [i] = [i] := by
      simp only [List.filter_cons, stS_get h, e, decide_true, if_true, List.filter_nil]
    rw [e2, if_pos e]
    unfold turnL
    rw [List.foldl_append]
    rfl
  · have e2 : List.filter (fun j => decide ((stS cs).getD j 0 = (s : Int))) [i] = [] := by
      simp only [List.filter_cons, stS_get h, e, decide_false, List.filter_nil]; rfl
    rw [e2, if_neg e, List.append_nil]
section
variable {n : Nat} {cs : List CR} {o os a : List Int} {nil : Bool}
theorem passP_cho (h : ChoZ n cs o) {s i : Nat} (hi : i ≤ cs.length) : ChoZ n cs (passP n cs s i o) := h.turns _ (fun j hj => by
  unfold ordP at hj
  simp only [List.mem_append, List.mem_flatMap, List.mem_filter, List.mem_range] at hj
  rcases hj with ⟨_, _, h1, _⟩ | ⟨h1, _⟩ <;> omega)
theorem ChoZ.low (h : ChoZ n cs o) {i : Nat} (hi : i < cs.length) : -1 ≤ o.getD i 0 := by
  have hl := h.len
  have hg : o[i]? = some (o.getD i 0) := by rw [List.getD_eq_getElem?_getD, List.getElem?_eq_getElem (by omega)]; rfl
  exact h.c.lo _ (List.mem_of_getElem? hg)
theorem SI.stop2 (h : SI n cs os o a nil) (e : o = passZ n cs o) : o = setlZ n cs os := by
  rw [← h.e]
  exact (setl_same e.symm).symm
theorem SI.next2 (h : SI n cs os o a nil) (e : o ≠ passZ n cs o) : SI n cs os (passZ n cs o) [] true ∧ wgO (wsOf n cs) (stS cs) (passZ n cs o) < wgO (wsOf n cs) (stS cs) o := by
  refine ⟨⟨passZ_cho h.c, by rw [← h.e]; exact setl_step h.c.st h.c.c, fun h => by cases h⟩, ?_⟩
  rcases (h.c.c.pass h.c.st).2 with ⟨h1, _⟩ | h1
  · exact absurd h1.symm e
  · exact h1
end
theorem Lay.of_Z1 {w : World} {B el k : Nat} {v v1 : Value} {zs : List Int} (h : w.ownsRow B el 1 v k (intsZ zs)) (h1 : Away v1 v) : Lay rdI (ownL v1 ++ []) w v zs := Lay.of_Z h (fun g hg hm => by
  simp only [List.append_nil, ownL, Option.mem_toList] at hm
  exact h1 g hm hg)
theorem c_r13_Settle {M : List Nat} {w : World} {vl vo : Value} {cs : List CR} {os : List Int} {z0 : Int} (hL : Lay rdC M w vl cs) (hO : Lay rdI M w vo os) (hbd : Bd M w) (hsm : ∀ c ∈ cs, SmC 1099511627776 c) (hol : os.length ≤ 1000000) :
    Ret Tryz.prog 6 #[vl, vo, .int .i64 z0] w (fun r w' => ∃ v, r = .tuple #[v, .bool (ChB z0 cs os)] ∧ w'.ownsRow w.heap.size 3 1 v os.length (intsZ (setZ z0 cs os)) ∧ Mod [] w w') := by
 obtain ⟨TL, tL, rfl⟩ := hL.form
 obtain ⟨TO, tO, rfl⟩ := hO.form
 have hmaxL := hL.max; unfold maxLen at hmaxL
 have hmaxO := hO.max; unfold maxLen at hmaxO
 refine Ret.of (vs := [.slice TL cs.length tL, .slice TO os.length tO, .int .i64 z0]) (n := 59) Tryz.func6 rfl rfl rfl rfl ?_
 have hm0 : Mod [] w w := Mod.refl _ _
 refine W.seq <| W.region <| L.v (R1.assign rfl) rfl <| L.v (R1.assign rfl) rfl <| L.nil <| X.seq <| W.seq <| W.seq <| W.region <| L.v (R1.move rfl) rfl <| L.v (R1.move rfl) rfl ?_
 refine L.v (R1.move rfl) rfl <| L.call rfl (c_r13_Is hL hO hbd hsm) rfl ?_
 rintro _ w1 ⟨rfl, hm1⟩
 replace hL := hL.gr hm1
 replace hO := hO.gr hm1
 replace hbd := hbd.gr hm1
 replace hm0 := hm0.trans hm1
 clear hm1
 refine L.v (R1.not rfl) rfl <| L.nil <| X.seq <| W.cond rfl ?_ ?_
 ·
  intro hc16
  simp only [Bool.not_eq_true', Bool.not_eq_false'] at hc16
  refine W.seq <| W.region <| L.buildEmpty tyS26 rfl ?_
  intro g17 w2 hN17
  have ho1 : World.ownsRow w2 w.heap.size 3 1 (.slice (some ⟨g17, 0, none⟩) 0 0) 0 [] := ⟨rfl, .inr ⟨g17, 0, #[], rfl, New.ge hN17 hm0.size, hN17.blk, Nat.le_refl _, by decide, rfl, rfl⟩⟩
  replace hL := hL.new hN17
  replace hO := hO.new hN17
  replace hbd := hbd.new hN17
  replace hm0 := hm0.trans (hN17.mod.mono (by simp))
  clear hN17
  obtain ⟨v17, hv_v17⟩ : ∃ v, v = Value.slice (some ⟨g17, 0, none⟩) 0 0 := ⟨_, rfl⟩
  have hol_v17 : ownL v17 = [g17] := by rw [hv_v17]; rfl
  rw [← hv_v17] at ho1 ⊢
  replace hL := hL.sub (of_cons hol_v17)
  replace hO := hO.sub (of_cons hol_v17)
  replace hbd := hbd.sub (of_cons hol_v17)
  clear hv_v17 hol_v17
  refine L.v (R1.move rfl) rfl ?_
  have hrow := Lay.rowI hO
  refine L.append rfl rfl ho1 hrow (intsZ_one _) tyS26 tyZ3 (by omega) (by unfold maxLen; omega) hm0.size rfl ?_
  intro v19 w3 ho1' hG19
  replace hL := hL.grew2 hG19 (by first | exact mem_own | (intro b hb; simp [hb]))
  replace hO := hO.grew2 hG19 (by first | exact mem_own | (intro b hb; simp [hb]))
  replace hbd := hbd.grew2 hG19 (by first | exact mem_own | (intro b hb; simp [hb]))
  replace hm0 := Mod.oldOwn hm0 hG19.mod ho1
  replace ho1 := ho1'; clear ho1'
  clear hG19
  refine L.v (R1.assign rfl) rfl <| L.v (R1.assign rfl) rfl <| L.nil <| X.seq <| W.ret <| X.thenRet <| X.result2 rfl (.tmp rfl (.tmp rfl .nil)) ?_
  rw [hc16]
  refine ⟨_, rfl, own_congr ho1 (by simp) (by unfold setZ; rw [hc16]; simp), hm0⟩
 ·
  intro hc16
  simp only [Bool.not_eq_true', Bool.not_eq_false'] at hc16
  obtain ⟨b1, b2, b3, b4, _⟩ := ChB_true hc16
  obtain ⟨n, rfl⟩ : ∃ n : Nat, z0 = (n : Int) := ⟨z0.toNat, by omega⟩
  have hC0 : ChoZ n cs os := ChoZ.of hc16
  have hn64 : n ≤ 64 := by omega
  refine W.skip <| X.seq <| W.seq <| W.region <| L.buildEmpty tyS26 rfl ?_
  intro g20 w4 hN20
  have ho1 : World.ownsRow w4 w.heap.size 3 1 (.slice (some ⟨g20, 0, none⟩) 0 0) 0 [] := ⟨rfl, .inr ⟨g20, 0, #[], rfl, New.ge hN20 hm0.size, hN20.blk, Nat.le_refl _, by decide, rfl, rfl⟩⟩
  replace hL := hL.new hN20
  replace hO := hO.new hN20
  replace hm0 := hm0.trans (hN20.mod.mono (by simp))
  clear hN20
  obtain ⟨v20, hv_v20⟩ : ∃ v, v = Value.slice (some ⟨g20, 0, none⟩) 0 0 := ⟨_, rfl⟩
  have hol_v20 : ownL v20 = [g20] := by rw [hv_v20]; rfl
  rw [← hv_v20] at ho1 ⊢
  replace hL := hL.sub (of_cons hol_v20)
  replace hO := hO.sub (of_cons hol_v20)
  clear hv_v20 hol_v20
  refine L.v (R1.move rfl) rfl ?_
  have hrow := Lay.rowI hO
  refine L.append rfl rfl ho1 hrow (intsZ_one _) tyS26 tyZ3 (by omega) (by unfold maxLen; omega) hm0.size rfl ?_
  intro v22 w5 ho1' hG22
  replace hL := hL.grew2 hG22 (by first | exact mem_own | (intro b hb; simp [hb]))
  replace hO := hO.grew2 hG22 (by first | exact mem_own | (intro b hb; simp [hb]))
  replace hm0 := Mod.oldOwn hm0 hG22.mod ho1
  replace ho1 := ho1'; clear ho1'
  clear hG22
  refine L.v (R1.assign rfl) rfl <| L.nil <| X.seq <| W.block <| W.loop (ι := List Int) (fun o => [(0, .slice TL cs.length tL), (2, .int .i64 ((n : Nat) : Int)), (8, v22)]) (fun o w_ => Lay rdC (ownL v22 ++ M) w_ (.slice TL cs.length tL) cs ∧ w_.ownsRow w.heap.size 3 1 v22 cs.length (intsZ o) ∧ SI n cs os o [] true ∧ Mod [] w w_) (fun o => wgO (wsOf n cs) (stS cs) o) os ?_ ?_ ?_
  · exact ⟨rfl, rfl, rfl, trivial⟩
  ·
   exact ⟨hL.sub (by intro b hb; first | exact hb | (simp only [mq] at hb ⊢; grind)), own_congr ho1 (by simp; omega) (by simp), SI.mk hC0 rfl (fun h => by cases h), hm0⟩
  ·
   rintro o w6 ⟨hL, ho1, hS, hm0⟩
   refine W.block <| W.seq <| W.region <| L.buildEmpty tyS26 rfl ?_
   intro g23 w7 hN23
   have hoA : World.ownsRow w7 w.heap.size 3 1 (.slice (some ⟨g23, 0, none⟩) 0 0) 0 [] := ⟨rfl, .inr ⟨g23, 0, #[], rfl, New.ge hN23 hm0.size, hN23.blk, Nat.le_refl _, by decide, rfl, rfl⟩⟩
   replace hL := hL.new hN23
   have haw_ho1_hoA : Away _ (.slice (some ⟨g23, 0, none⟩) 0 0) := own_away_new ho1 hN23
   replace ho1 := own_gr ho1 hN23.mod (by simp)
   replace hm0 := hm0.trans (hN23.mod.mono (by simp))
   clear hN23
   obtain ⟨v23, hv_v23⟩ : ∃ v, v = Value.slice (some ⟨g23, 0, none⟩) 0 0 := ⟨_, rfl⟩
   have hol_v23 : ownL v23 = [g23] := by rw [hv_v23]; rfl
   rw [← hv_v23] at hoA ⊢
   replace hL := hL.sub (of_cons hol_v23)
   rw [← hv_v23] at haw_ho1_hoA
   clear hv_v23 hol_v23
   refine L.v (R1.move rfl) rfl ?_
   have hlo := hS.c.len
   have hrow := Lay.rowI (Lay.of_Z (M := []) ho1 (by simp))
   refine L.append rfl rfl hoA hrow (intsZ_one _) tyS26 tyZ3 (by omega) (by unfold maxLen; omega) hm0.size rfl ?_
   intro v25 w8 hoA' hG25
   have haw_ho1_hoA_ := Away.grew haw_ho1_hoA hG25 ho1
   replace hL := hL.grew2 hG25 (by first | exact mem_own | (intro b hb; simp [hb]))
   replace ho1 := own_away (s' := 1) (el' := 0) (k' := 0) (B' := 0) (ys := []) ho1 hG25.mod (by first | assumption | exact Away.symm (by assumption))
   replace hm0 := Mod.oldOwn hm0 hG25.mod hoA
   replace haw_ho1_hoA := haw_ho1_hoA_; clear haw_ho1_hoA_
   replace hoA := hoA'; clear hoA'
   clear hG25
   have hA5 := Lay.of_Z1 (zs := o) (own_congr hoA rfl rfl) haw_ho1_hoA
   refine L.v (R1.assign rfl) rfl <| L.nil <| X.seq <| W.seq <| W.seq <| W.region <| L.v (R1.assign rfl) rfl <| L.nil <| X.seq <| W.block <| W.loop (ι := Nat) (fun s => [(0, .slice TL cs.length tL), (2, .int .i64 ((n : Nat) : Int)), (8, v22), (9, v25), (10, .int .i64 ((s : Nat) : Int))]) (fun s w_ => Lay rdC (ownL v22 ++ M) w_ (.slice TL cs.length tL) cs ∧ Lay rdI (ownL v22 ++ []) w_ v25 o ∧ w_.ownsRow w.heap.size 3 1 v22 cs.length (intsZ (passP n cs s 0 o)) ∧ s ≤ 5 ∧ Mod [] w w_) (fun s => 5 - s) 0 ?_ ?_ ?_
   · exact ⟨rfl, rfl, rfl, rfl, rfl, trivial⟩
   ·
    exact ⟨hL.sub (by intro b hb; first | exact hb | (simp only [mq] at hb ⊢; grind)), hA5.sub (by intro b hb; first | exact hb | (simp only [mq] at hb ⊢; grind)), ho1, Nat.zero_le _, hm0⟩
   ·
    rintro s w9 ⟨hL, hA5, ho1, hs, hm0⟩
    refine W.seq <| W.seq <| W.region <| L.v (R1.move rfl) rfl <| L.v (R1.le rfl rfl) rfl <| L.nil <| X.seq <| W.cond rfl ?_ ?_
    ·
     intro hc27
     try simp only [bq, ne_eq] at hc27
     refine W.skip <| X.seq <| W.seq <| W.block <| W.seq <| W.region <| L.v (R1.assign rfl) rfl <| L.nil <| X.seq <| W.block <| W.loop (ι := Nat) (fun i => [(0, .slice TL cs.length tL), (2, .int .i64 ((n : Nat) : Int)), (8, v22), (9, v25), (10, .int .i64 ((s : Nat) : Int)), (11, .int .i64 ((i : Nat) : Int))]) (fun i w_ => Lay rdC (ownL v22 ++ M) w_ (.slice TL cs.length tL) cs ∧ Lay rdI (ownL v22 ++ []) w_ v25 o ∧ w_.ownsRow w.heap.size 3 1 v22 cs.length (intsZ (passP n cs s i o)) ∧ i ≤ cs.length ∧ Mod [] w w_) (fun i => cs.length - i) 0 ?_ ?_ ?_
     · exact ⟨rfl, rfl, rfl, rfl, rfl, rfl, trivial⟩
     ·
      exact ⟨hL.sub (by intro b hb; first | exact hb | (simp only [mq] at hb ⊢; grind)), hA5.sub (by intro b hb; first | exact hb | (simp only [mq] at hb ⊢; grind)), ho1, Nat.zero_le _, hm0⟩
     ·
      rintro i w10 ⟨hL, hA5, ho1, hi, hm0⟩
      refine W.seq <| W.seq <| W.region <| L.v (R1.move rfl) rfl <| L.v (R1.move rfl) rfl <| L.v (R1.lenLay rfl hL tyS22) rfl <| L.v (R1.lt rfl rfl) rfl <| L.nil <| X.seq <| W.cond rfl ?_ ?_
      ·
       intro hc33
       try simp only [bq, ne_eq] at hc33
       refine W.skip <| X.seq <| W.seq <| W.block <| W.seq <| W.region <| L.v (R1.move rfl) rfl <| L.v (R1.move rfl) rfl <| L.v (R1.atLay (j := i) rfl rfl hL tyS22 rfl (by omega)) rfl <| L.v (R1.fieldAddr rfl tyF42_0) rfl ?_
       obtain ⟨z40, cs40, hz40, hE40, vt40, ds40, rfl, ht40, vn40, vd40, rfl, hn40, hd40⟩ := Lay.elemQ hL (j := i) (by omega)
       obtain ⟨T40, t40, rfl⟩ := ht40.form
       obtain ⟨A40, c40, rfl⟩ := hn40.form
       obtain ⟨B40, e40, rfl⟩ := hd40.form
       refine L.v (R1.loadEF rfl hE40 rfl tyP3) rfl ?_
       have hsn := passP_snoc (n := n) (s := s) o hz40
       refine L.v (R1.move rfl) rfl <| L.v ((R1.eq rfl rfl).asB (c := (decide (z40.st = (s : Int)))) (rfl)) rfl <| L.v (R1.move rfl) rfl ?_
       cases hgd43 : (decide (z40.st = (s : Int)))
       ·
        try simp only [bq, ne_eq] at hgd43
        refine L.off rfl rfl rfl rfl rfl <| L.off rfl rfl rfl rfl rfl <| L.off rfl rfl rfl rfl rfl <| L.off rfl rfl rfl rfl rfl <| L.off rfl rfl rfl rfl rfl <| L.v (R1.pickF rfl rfl) rfl <| L.nil <| X.seq <| W.condF rfl <| W.skip <| X.blockEnd ?_
        refine X.seq <| W.region <| L.v (R1.move rfl) rfl <| L.v (R1.addI (b := 1) rfl rfl (by omega)) rfl <| L.v (R1.assign rfl) rfl <| L.nil <| X.next (i + 1) ?_ ?_ ?_
        · exact ⟨rfl, rfl, rfl, rfl, rfl, rfl, trivial⟩
        ·
         rw [if_neg hgd43] at hsn
         exact ⟨hL.sub (by intro b hb; first | exact hb | (simp only [mq] at hb ⊢; grind)), hA5.sub (by intro b hb; first | exact hb | (simp only [mq] at hb ⊢; grind)), by rw [hsn]; exact ho1, by omega, hm0⟩
        · first | omega | (dsimp only; omega)
       ·
        try simp only [bq, ne_eq] at hgd43
        refine L.on rfl rfl rfl (R1.move rfl) rfl <| L.on rfl rfl rfl (R1.move rfl) rfl <| L.on rfl rfl rfl (R1.atOwn (i := i) rfl rfl ho1 tyS26 rfl (by omega)) rfl <| L.on rfl rfl rfl (R1.ldZ rfl ho1 (by omega) tyP3) rfl <| L.on rfl rfl rfl ((R1.lt rfl rfl).asB (c := (decide ((passP n cs s i o).getD i 0 < 0))) (rfl)) rfl <| L.v (R1.pickT rfl rfl) rfl <| L.nil <| X.seq <| W.cond rfl ?_ ?_
        ·
         intro hc49
         try simp only [bq, ne_eq] at hc49
         refine W.region <| L.v (R1.move rfl) rfl <| L.v (R1.move rfl) rfl <| L.v (R1.move rfl) rfl <| L.v (R1.move rfl) rfl ?_
         have hC9 := passP_cho (s := s) hS.c hi
         have hlow9 := hC9.low (show i < cs.length by omega)
         have hno9 : (passP n cs s i o).getD i 0 = -1 := by omega
         refine L.call rfl (c_r13_enforce hL ho1 hC9 (show i < cs.length by omega) hno9 hn64) rfl ?_
         rintro _ w11 ⟨ho1x, hm11⟩
         replace hL := hL.mod hm11 (by first | exact mem_own | (intro b hb; simp [hb]))
         replace hA5 := hA5.mod hm11 (by first | exact mem_own | (intro b hb; simp [hb]))
         replace hm0 := Mod.oldOwn hm0 hm11 ho1
         replace ht40 := ht40.mod hm11 (by first | exact mem_own | (intro b hb; simp [hb]))
         replace hn40 := hn40.mod hm11 (by first | exact mem_own | (intro b hb; simp [hb]))
         replace hd40 := hd40.mod hm11 (by first | exact mem_own | (intro b hb; simp [hb]))
         clear hm11
         replace ho1 := ho1x
         clear ho1x
         refine L.nil <| X.blockEnd <| X.seq <| W.region <| L.v (R1.move rfl) rfl <| L.v (R1.addI (b := 1) rfl rfl (by omega)) rfl <| L.v (R1.assign rfl) rfl <| L.nil <| X.next (i + 1) ?_ ?_ ?_
         · exact ⟨rfl, rfl, rfl, rfl, rfl, rfl, trivial⟩
         ·
          rw [if_pos hgd43, if_pos hno9] at hsn
          exact ⟨hL.sub (by intro b hb; first | exact hb | (simp only [mq] at hb ⊢; grind)), hA5.sub (by intro b hb; first | exact hb | (simp only [mq] at hb ⊢; grind)), by rw [hsn]; exact ho1, by omega, hm0⟩
         · first | omega | (dsimp only; omega)
        ·
         intro hc49
         try simp only [bq, ne_eq] at hc49
         refine W.skip <| X.blockEnd <| X.seq <| W.region <| L.v (R1.move rfl) rfl <| L.v (R1.addI (b := 1) rfl rfl (by omega)) rfl <| L.v (R1.assign rfl) rfl <| L.nil <| X.next (i + 1) ?_ ?_ ?_
         · exact ⟨rfl, rfl, rfl, rfl, rfl, rfl, trivial⟩
         ·
          rw [if_pos hgd43, if_neg (by omega)] at hsn
          exact ⟨hL.sub (by intro b hb; first | exact hb | (simp only [mq] at hb ⊢; grind)), hA5.sub (by intro b hb; first | exact hb | (simp only [mq] at hb ⊢; grind)), by rw [hsn]; exact ho1, by omega, hm0⟩
         · first | omega | (dsimp only; omega)
      ·
       intro hc33
       try simp only [bq, ne_eq] at hc33
       obtain rfl : i = cs.length := by omega
       rw [passP_next] at ho1
       refine W.exit <| X.thenExit <| X.nextExit <| X.here <| X.blockEnd <| X.seq <| W.region <| L.v (R1.move rfl) rfl <| L.v (R1.addI (b := 1) rfl rfl (by omega)) rfl <| L.v (R1.assign rfl) rfl <| L.nil ?_
       refine X.next (s + 1) ?_ ?_ ?_
       · exact ⟨rfl, rfl, rfl, rfl, rfl, trivial⟩
       ·
        exact ⟨hL.sub (by intro b hb; first | exact hb | (simp only [mq] at hb ⊢; grind)), hA5.sub (by intro b hb; first | exact hb | (simp only [mq] at hb ⊢; grind)), ho1, by omega, hm0⟩
       · first | omega | (dsimp only; omega)
    ·
     intro hc27
     try simp only [bq, ne_eq] at hc27
     obtain rfl : s = 5 := by omega
     rw [passP_full] at ho1
     refine W.exit <| X.thenExit <| X.nextExit <| X.here <| X.seq <| W.seq <| W.region <| L.v (R1.move rfl) rfl <| L.v (R1.move rfl) rfl <| L.call rfl (c_same hA5 (Lay.of_Z (M := []) ho1 (by simp)) (by rw [hS.c.len, (passZ_cho hS.c).len])) rfl ?_
     rintro _ w12 ⟨rfl, hm12⟩
     replace hL := hL.gr hm12
     replace ho1 := own_gr ho1 hm12 (by simp)
     replace hm0 := hm0.trans hm12
     clear hm12
     refine L.nil <| X.seq <| W.cond rfl ?_ ?_
     ·
      intro hc57
      try simp only [bq, ne_eq] at hc57
      refine W.seq <| W.region <| L.v (R1.move rfl) rfl <| L.v (R1.assign rfl) rfl <| L.v (R1.assign rfl) rfl <| L.nil <| X.seq <| W.ret <| X.blockRet <| X.nextRet <| X.blockRet ?_
      refine X.result2 rfl (.tmp rfl (.tmp rfl .nil)) ?_
      rw [hc16]
      have hst := hS.stop2 hc57
      refine ⟨_, rfl, own_congr ho1 hC0.len.symm (by unfold setZ; rw [if_pos hc16, Int.toNat_natCast, ← hst, ← hc57]), hm0⟩
     ·
      intro hc57
      try simp only [bq, ne_eq] at hc57
      refine W.skip <| X.blockEnd ?_
      obtain ⟨hS2, hmu⟩ := hS.next2 hc57
      refine X.next (passZ n cs o) ?_ ?_ ?_
      · exact ⟨rfl, rfl, rfl, trivial⟩
      ·
       exact ⟨hL.sub (by intro b hb; first | exact hb | (simp only [mq] at hb ⊢; grind)), ho1, hS2, hm0⟩
      · exact hmu
def walZ (z : Int) (cs : List CR) (os : List Int) : List Int := if ChB z cs os = true then (List.range z.toNat).map (strZ z.toNat cs os) else []
def blkZ (z : Int) (cs : List CR) (os : List Int) (i : Int) : Bool := decide (ChB z cs os = true ∧ 0 ≤ i ∧ i < (cs.length : Int) ∧ os.getD i.toNat 0 = -1 ∧ wkZ z.toNat cs os i.toNat [] = none)
end Go.Proofs.YtdfnkbdnnflcpaaGreat
