/- Walks: what the functions compute. -/
import Derived.Test.YtgpdjfalleadaaaGreatL5G
namespace Go.Proofs.YtgpdjfalleadaaaGreat
open Go.RowKit
set_option linter.unusedVariables false
set_option linter.unusedSimpArgs false
set_option maxRecDepth 10000
def metS (cs : List CR) (i v : Nat) : Prop := ∃ c ∈ cs.take i, ∃ t ∈ c.ts, t.v = (v : Int)
instance (cs : List CR) (i v : Nat) : Decidable (metS cs i v) := by unfold metS; infer_instance
def metK (cs : List CR) (i : Nat) (ts : List TR) (k v : Nat) : Prop := metS cs i v ∨ ∃ t ∈ ts.take k, t.v = (v : Int)
instance (cs : List CR) (i : Nat) (ts : List TR) (k v : Nat) : Decidable (metK cs i ts k v) := by unfold metK; infer_instance
theorem metS_snoc {cs : List CR} {i : Nat} {z : CR} (hz : cs[i]? = some z) (v : Nat) : metS cs (i + 1) v ↔ metK cs i z.ts z.ts.length v := by
  obtain ⟨hi, rfl⟩ := List.getElem?_eq_some_iff.1 hz
  unfold metK metS
  rw [List.take_succ_eq_append_getElem hi, List.take_length]
  constructor
  · rintro ⟨c, hc, h⟩
    rcases List.mem_append.1 hc with hc | hc
    · exact .inl ⟨c, hc, h⟩
    · rw [List.mem_singleton.1 hc] at h; exact .inr h
  · rintro (⟨c, hc, h⟩ | h)
    · exact ⟨c, List.mem_append_left _ hc, h⟩
    · exact ⟨cs[i], List.mem_append_right _ (by simp), h⟩
theorem metK_set {cs : List CR} {i k n : Nat} {ts : List TR} {t : TR} {bs : List Bool} (hl : n = bs.length) (hbs : ∀ v, v < n → bs.getD v false = decide (metK cs i ts k v)) (ht : ts[k]? = some t) (h0 : 0 ≤ t.v) (hn : t.v.toNat < n) : ∀ v, v < n → (bs.set t.v.toNat true).getD v false = decide (metK cs i ts (k + 1) v) := fun v hv => by
  obtain ⟨hk, rfl⟩ := List.getElem?_eq_some_iff.1 ht
  rw [List.getD_eq_getElem?_getD, List.getElem?_set]
  by_cases e : ts[k].v.toNat = v
  · subst e
    rw [if_pos rfl, if_pos (by omega)]
    refine (decide_eq_true (.inr ⟨ts[k], ?_, by omega⟩)).symm
    rw [List.mem_take_iff_getElem]; exact ⟨k, by omega, rfl⟩
  · rw [if_neg e, ← List.getD_eq_getElem?_getD, hbs v hv, decide_eq_decide]
    unfold metK
    rw [List.take_succ_eq_append_getElem hk]
    constructor
    · rintro (h | ⟨t, h1, h2⟩)
      · exact .inl h
      · exact .inr ⟨t, List.mem_append_left _ h1, h2⟩
    · rintro (h | ⟨t, h1, h2⟩)
      · exact .inl h
      · rcases List.mem_append.1 h1 with h1 | h1
        · exact .inr ⟨t, h1, h2⟩
        · rw [List.mem_singleton.1 h1] at h2; omega
theorem apart_eq {cs : List CR} {os : List Int} {val : List QR} (h : (phZ cs os val).2.2 = 0) {v : Nat} (hm : ¬ metS cs cs.length v) {a b : QR} (ha : (phZ cs os val).1.2[v]? = some a) (hb : val[v]? = some b) : a.val = b.val := by
  obtain ⟨h1, h2, h3, h4, h5, h6⟩ := phZ_ok h
  rw [h6] at ha
  have hc := chb_set h3
  obtain ⟨_, _, _, _, h8, _⟩ := ChB_true hc
  have h7 := run_stays h5 (v := v) (fun i hi e => hm (by
    rcases (h8 i hi).2 with h9 | h9
    · omega
    · obtain ⟨t, ht, he⟩ := List.any_eq_true.1 h9.1
      rw [decide_eq_true_eq] at he
      refine ⟨cs[i], ?_, t, ?_, by omega⟩
      · rw [List.take_length]; exact List.getElem_mem hi
      · have e9 : cs.getD i c0R = cs[i] := by simp [List.getD_eq_getElem?_getD, hi]
        rw [e9] at ht; exact ht))
  rw [show (runZ cs (setZ (val.length : Int) cs os) val).1[v]? = some a from ha] at h7
  unfold nvL at h7
  rw [List.getElem?_map, hb] at h7
  simp only [Option.map_some, Option.some.injEq] at h7
  rw [h7, QR.nf_val]
theorem phZ_len {cs : List CR} {os : List Int} {val : List QR} (h : (phZ cs os val).2.2 = 0) : (phZ cs os val).1.2.length = val.length := by
  obtain ⟨h1, h2, h3, h4, h5, h6⟩ := phZ_ok h
  rw [h6]; exact run_len h5
theorem chb_nil {n : Nat} (h1 : 1 ≤ n) (h2 : n ≤ 64) : ChB (n : Int) [] [] = true := decide_eq_true ⟨by omega, by omega, by simp, rfl, (fun j hj => absurd hj (Nat.not_lt_zero j)), by simp [wsOf, firstW]⟩
theorem phZ_nil {val : List QR} (h1 : 1 ≤ val.length) (h2 : val.length ≤ 64) : phZ [] [] val = (([], nvL val), -1, 0) := by
  have hc := chb_nil h1 h2
  have hs : setZ (val.length : Int) [] [] = [] := List.eq_nil_of_length_eq_zero (setZ_len hc)
  have hr : runZ [] [] val = (nvL val, -1, 0) := by
    unfold runZ; rw [if_pos hc]; rfl
  have h3 := phZ_run (cs := []) (os := []) (val := val) ⟨h1, h2, by simp, rfl, (fun c hc => by cases hc)⟩ (by simp [wsOf, firstW]) hc (by rw [hs]; rfl)
  rw [hs, hr, if_neg (by simp)] at h3
  exact h3
theorem nvL_vals (val : List QR) : (nvL val).map QR.val = val.map QR.val := by
  unfold nvL
  rw [List.map_map]
  exact List.map_congr_left (fun q _ => QR.nf_val _)
theorem vals_at {xs ys : List QR} (he : xs.map QR.val = ys.map QR.val) {i : Nat} {a b : QR} (ha : xs[i]? = some a) (hb : ys[i]? = some b) : a.val = b.val := by
  have h1 : (xs.map QR.val)[i]? = (ys.map QR.val)[i]? := by rw [he]
  rw [List.getElem?_map, List.getElem?_map, ha, hb] at h1
  simpa using h1
theorem nvL_16 {N : List Nat} {w : World} {vv : Value} {val : List QR} (hv : Lay rdQ N w vv val) (hsv : ∀ q ∈ val, SmQ 3 q) : ∀ q ∈ nvL val, SmQ 10000 q := fun q hq => by
  obtain ⟨z, hz, rfl⟩ := List.mem_map.1 hq
  obtain ⟨j, hj, rfl⟩ := List.mem_iff_getElem.1 hz
  obtain ⟨cs9, _, vn9, vd9, _, h1, h2⟩ := hv.elem hj
  have hf := fit_sm h1 h2 (hsv _ (List.getElem_mem hj))
  exact ⟨Nat.le_trans hf.1 (by decide), Nat.le_trans hf.2 (by decide)⟩
theorem c_RatsEqV {M N9 : List Nat} {w : World} {va vb : Value} {xs ys : List QR} (h : Lay rdQ M w va xs) (k : Lay rdQ N9 w vb ys) (hbd : Bd [] w) (hs : ∀ q ∈ xs, SmQ 10000 q) (hs2 : ∀ q ∈ ys, SmQ 10000 q) (he : xs.map QR.val = ys.map QR.val) :
    Ret Tryz.prog 12 #[va, vb] w (fun r w' => r = .bool true ∧ Mod [] w w') := by
 have hmax := h.max; unfold maxLen at hmax
 have hll : xs.length = ys.length := by simpa using congrArg List.length he
 refine Ret.of (vs := [va, vb]) (n := 27) Tryz.func12 rfl rfl rfl rfl ?_
 have hm0 : Mod [] w w := Mod.refl _ _
 refine W.seq <| W.region <| L.a rfl rfl <| L.nil <| X.seq <| W.seq <| W.seq <| W.region <| L.m rfl rfl <| L.v (R1.lenLay rfl h tyS24) rfl <| L.m rfl rfl ?_
 refine L.v (R1.lenLay rfl k tyS24) rfl <| L.v ((R1.ne rfl rfl).asB (c := false) (by rw [hll]; simp)) rfl <| L.nil <| X.seq <| W.condF rfl <| W.skip <| X.seq <| W.seq <| W.seq <| W.region <| L.a rfl rfl ?_
 refine L.nil <| X.seq <| W.block <| W.loop (ι := Nat) (fun i => [(0, va), (1, vb), (5, .int .i64 ((i : Nat) : Int))]) (fun i w_ => Lay rdQ M w_ va xs ∧ Lay rdQ N9 w_ vb ys ∧ i ≤ xs.length ∧ Bd [] w_ ∧ Mod [] w w_) (fun i => xs.length - i) 0 ?_ ?_ ?_
 · exact ⟨rfl, rfl, rfl, trivial⟩
 ·
  exact ⟨h.su, k.su, Nat.zero_le _, hbd.su, hm0⟩
 ·
  rintro i w1 ⟨h, k, hi, hbd, hm0⟩
  refine W.seq <| W.seq <| W.region <| L.m rfl rfl <| L.m rfl rfl <| L.v (R1.lenLay rfl h tyS24) rfl <| L.v (R1.lt rfl rfl) rfl <| L.nil <| X.seq <| W.cond rfl ?_ ?_
  ·
   intro hc14
   try simp only [bq, ne_eq] at hc14
   refine W.skip <| X.seq <| W.seq <| W.block <| W.seq <| W.drawW (T := []) rfl (by decide +kernel) (NoHang.then (NoHang.block (NoHang.then (NoHang.next (NoHang.block (NoHang.then NoHang.post)))))) (fun w2 hm2 => ?_)
   replace h := h.gr hm2
   replace k := k.gr hm2
   replace hbd := hbd.gr hm2
   replace hm0 := hm0.trans hm2
   have hS1 : Mod [] w2 w2 := Mod.refl _ _
   clear hm2
   refine D.m 0 rfl (by kernel_rfl) rfl hS1 rfl <| D.m 1 rfl (by kernel_rfl) rfl hS1 rfl <| D.take 2 rfl (by kernel_rfl) (fun w_ hS => (R1.atLay (j := i) rfl rfl (Lay.gr h hS) tyS24 rfl (by omega))) hS1 rfl ?_
   obtain ⟨z20, cs20, hz20, hE20, vn20, vd20, rfl, hn20, hd20⟩ := Lay.elemQ h (j := i) (by omega)
   obtain ⟨A20, c20, rfl⟩ := hn20.form
   obtain ⟨B20, e20, rfl⟩ := hd20.form
   refine D.take 3 rfl (by kernel_rfl) (fun w_ hS => (R1.loadE rfl (SlE.gr hE20 hS) tyG45)) hS1 rfl ?_
   have F20 := fit_sm hn20 hd20 (hs _ (List.mem_of_getElem? hz20))
   refine D.m 4 rfl (by kernel_rfl) rfl hS1 rfl <| D.m 5 rfl (by kernel_rfl) rfl hS1 rfl <| D.take 6 rfl (by kernel_rfl) (fun w_ hS => (R1.atLay (j := i) rfl rfl (Lay.gr k hS) tyS24 rfl (by omega))) hS1 rfl ?_
   obtain ⟨z24, cs24, hz24, hE24, vn24, vd24, rfl, hn24, hd24⟩ := Lay.elemQ k (j := i) (by omega)
   obtain ⟨A24, c24, rfl⟩ := hn24.form
   obtain ⟨B24, e24, rfl⟩ := hd24.form
   refine D.take 7 rfl (by kernel_rfl) (fun w_ hS => (R1.loadE rfl (SlE.gr hE24 hS) tyG45)) hS1 rfl ?_
   have F24 := fit_sm hn24 hd24 (hs2 _ (List.mem_of_getElem? hz24))
   refine D.one 8 rfl (by kernel_rfl) (fun hX => ?_)
   refine L.call rfl (c_ref2_Same (qa := (QR.val z20)) (qb := (QR.val z24)) rfl rfl hn20 hd20 hn24 hd24 hbd (Nat.le_trans (hs _ (List.mem_of_getElem? hz20)).1 (by decide)) (Nat.le_trans (hs _ (List.mem_of_getElem? hz20)).2 (by decide)) (Nat.le_trans (hs2 _ (List.mem_of_getElem? hz24)).1 (by decide)) (Nat.le_trans (hs2 _ (List.mem_of_getElem? hz24)).2 (by decide))) rfl ?_
   rintro _ w3 ⟨rfl, hm3⟩
   replace h := h.gr hm3
   replace k := k.gr hm3
   replace hbd := hbd.gr hm3
   replace hm0 := hm0.trans hm3
   replace hS1 := hS1.trans hm3
   clear hm3
   refine L.nil (hX _ _ ⟨.inr hS1, ?_⟩)
   refine D.take 9 rfl (by kernel_rfl) (fun w_ hS => ((R1.not rfl).asB (c := false) (by rw [decide_eq_true (vals_at he hz20 hz24)]; rfl))) hS1 rfl <| D.done (by decide +kernel) ?_ _
   refine X.seq <| W.condF rfl <| W.skip <| X.blockEnd <| X.seq <| W.region <| L.m rfl rfl <| L.v (R1.addI (b := 1) rfl rfl (by omega)) rfl <| L.a rfl rfl <| L.nil <| X.next (i + 1) ?_ ?_ ?_
   · exact ⟨rfl, rfl, rfl, trivial⟩
   ·
    exact ⟨h.su, k.su, by omega, hbd.su, hm0⟩
   · first | omega | (dsimp only; omega)
  ·
   intro hc14
   try simp only [bq, ne_eq] at hc14
   obtain rfl : i = xs.length := by omega
   refine W.exit <| X.thenExit <| X.nextExit <| X.here <| X.seq <| W.seq <| W.region <| L.a rfl rfl <| L.nil <| X.seq <| W.ret ?_
   refine X.result1 rfl (.tmp rfl .nil) ?_
   exact ⟨rfl, hm0⟩
theorem built_S1 (A : Option Addr) (k c : Nat) : Tryz.prog.built 26 [(1, .slice A k c)] = some #[.slice none 0 0, .slice A k c] := by kernel_rfl
set_option maxHeartbeats 1000000 in
theorem c_SolveApart {w : World} {vl vv : Value} {cs : List CR} {val : List QR} (hL : Lay rdC [] w vl cs) (hv : Lay rdQ [] w vv val) (hb : szCs cs ≤ 4194304) (hbv : szQs val ≤ 4194304) :
    Ret Tryz.prog 5 #[vl, vv] w (fun r w' => r = .bool true ∧ Mod [] w w') := by
 have hbd : Bd [] w := fun m hm => by cases hm
 obtain ⟨TL, tL, rfl⟩ := hL.form
 obtain ⟨TV, tV, rfl⟩ := hv.form
 have hmaxL := hL.max; unfold maxLen at hmaxL
 have hmaxV := hv.max; unfold maxLen at hmaxV
 refine Ret.of (vs := [.slice TL cs.length tL, .slice TV val.length tV]) (n := 154) Tryz.func5 rfl rfl rfl rfl ?_
 have hm0 : Mod [] w w := Mod.refl _ _
 refine W.seq <| W.region <| L.a rfl rfl <| L.nil <| X.seq <| W.seq <| W.region <| L.m rfl rfl <| L.v (R1.lenLay rfl hv tyS24) rfl <| L.a rfl rfl <| L.nil ?_
 refine X.seq <| W.seq <| W.seq <| W.region <| L.m rfl rfl <| L.call rfl (c_heavy_pantographlaw15 hL hb) rfl ?_
 rintro _ w1 ⟨rfl, hm1⟩
 replace hL := hL.gr hm1
 replace hv := hv.gr hm1
 replace hbd := hbd.gr hm1
 replace hm0 := hm0.trans hm1
 clear hm1
 refine L.m rfl rfl ?_
 cases hgd24 : (decide (150 < szCs cs))
 ·
  have hcc_ := hgd24
  refine L.on rfl rfl rfl (R1.move rfl) rfl <| L.callOn rfl rfl rfl rfl (c_many_pantographlaw15 hv hbv) rfl ?_
  rintro _ w2 ⟨b26, rfl, hb26, hm2⟩
  replace hL := hL.gr hm2
  replace hv := hv.gr hm2
  replace hbd := hbd.gr hm2
  replace hm0 := hm0.trans hm2
  clear hm2
  refine L.v (R1.pickF rfl rfl) rfl <| L.m rfl rfl ?_
  cases hgd28 : b26
  ·
   have hcc_ := hgd28
   refine L.on rfl rfl rfl (R1.move rfl) rfl <| L.on rfl rfl rfl (R1.lenLay rfl hL tyS22) rfl <| L.on rfl rfl rfl ((R1.gt rfl rfl).asB (c := (decide ((10 : Int) < (cs.length : Int)))) (rfl)) rfl <| L.v (R1.pickF rfl rfl) rfl <| L.m rfl rfl ?_
   cases hgd33 : (decide ((10 : Int) < (cs.length : Int)))
   ·
    have hcc_ := hgd33
    refine L.on rfl rfl rfl (R1.move rfl) rfl <| L.on rfl rfl rfl ((R1.lt rfl rfl).asB (c := (decide ((val.length : Int) < 1))) (rfl)) rfl <| L.v (R1.pickF rfl rfl) rfl <| L.nil <| X.seq <| W.cond rfl ?_ ?_
    ·
     intro hc36
     have hcc_ := hc36
     refine W.seq <| W.region <| L.a rfl rfl <| L.nil <| X.seq <| W.ret <| X.thenRet <| X.result1 rfl (.tmp rfl .nil) ?_
     exact ⟨rfl, hm0⟩
    ·
     intro hc36
     have hcc_ := hc36
     have hsm := sm150 (by simpa using hgd24)
     obtain ⟨hsv, hvl⟩ := (by first | exact hb26 rfl | exact hb26 hgd28 : (∀ q ∈ val, SmQ 3 q) ∧ val.length ≤ 100)
     have hsv3 := hsv
     replace hsv := sm316 hsv
     have hcl : cs.length ≤ 12 := by have h9 := of_decide_eq_false hgd33; omega
     have hsmL : ∀ c ∈ cs, SmC 1099511627776 c := fun c hc => smC_up (hsm c hc) (by decide)
     refine W.skip <| X.seq <| W.seq <| W.region <| L.m rfl rfl <| L.m rfl rfl <| L.call rfl (c_none hL (by omega)) rfl ?_
     rintro v40 w3 ⟨hO, hm3⟩
     replace hL := hL.gr hm3
     replace hv := hv.gr hm3
     replace hbd := hbd.gr hm3
     replace hm0 := hm0.trans hm3
     clear hm3
     refine L.m rfl rfl <| L.v (R1.build (vs := [v40, .slice TV val.length tV]) rfl (built_S9 (lay_form' hO) ⟨_, _, _, rfl⟩ built_S2)) rfl <| L.call rfl (c_Phase (hL.sub (M' := []) (fun b hb => by cases hb)) (hO.sub (M' := []) (fun b hb => by cases hb)) (hv.sub (M' := []) (fun b hb => by cases hb)) (hbd.sub (M' := []) (fun b hb => by cases hb)) hsm hsv hcl) rfl ?_
     rintro _ w4 ⟨a43, b43, rfl, hA, hB, hm4⟩
     replace hL := hL.gr hm4
     replace hv := hv.gr hm4
     replace hbd := hbd.gr hm4
     replace hm0 := hm0.trans hm4
     clear hm4
     refine L.m rfl rfl <| L.v (R1.extract rfl rfl) rfl <| L.v (R1.extract rfl rfl) rfl <| L.v (R1.extract rfl rfl) rfl <| L.alloc tyZ26 rfl ?_
     intro g6 w5 hN6
     replace hL := hL.new hN6
     replace hv := hv.new hN6
     replace hbd := hbd.new hN6
     have hge_g6 := New.ge hN6 hm0.size
     replace hm0 := hm0.trans (hN6.mod.mono (by simp))
     replace hA := hA.new hN6
     replace hB := hB.new hN6
     have hb6 := hN6.blk
     clear hN6
     refine L.storeBox rfl rfl hb6 rfl (one_S (lay_form' hA) (lay_form' hB)) tyG26 ?_
     intro w6 hb6' hm6
     replace hL := hL.mod hm6 (by simp)
     replace hv := hv.mod hm6 (by simp)
     replace hbd := hbd.gr hm6
     replace hm0 := hm0.old1 hm6 hge_g6
     replace hB := hB.mod hm6 (by simp)
     clear hm6
     replace hb6 := hb6'; clear hb6'
     refine L.a rfl rfl <| L.a rfl rfl <| L.nil <| X.seq <| W.seq <| W.seq <| W.region <| L.m rfl rfl <| L.v ((R1.ne rfl rfl).asB (c := (decide ((phZ cs (List.replicate cs.length (-1)) val).2.2 ≠ 0))) (rfl)) rfl <| L.nil <| X.seq ?_
     refine W.cond rfl ?_ ?_
     ·
      intro hc48
      try simp only [bq, ne_eq] at hc48
      refine W.seq <| W.region <| L.m rfl rfl <| L.m rfl rfl <| L.call rfl (c_none hL (by omega)) rfl ?_
      rintro v52 w7 ⟨hO3, hm7⟩
      replace hL := hL.gr hm7
      replace hv := hv.gr hm7
      replace hbd := hbd.gr hm7
      replace hm0 := hm0.trans hm7
      clear hm7
      refine L.m rfl rfl <| L.v (R1.build (vs := [v52, .slice TV val.length tV]) rfl (built_S9 (lay_form' hO3) ⟨_, _, _, rfl⟩ built_T2)) rfl <| L.call rfl (c_r15_Phase (hL.sub (M' := []) (fun b hb => by cases hb)) (hO3.sub (M' := []) (fun b hb => by cases hb)) (hv.sub (M' := []) (fun b hb => by cases hb)) (hbd.sub (M' := []) (fun b hb => by cases hb)) hsm hsv) rfl ?_
      rintro _ w8 ⟨a55, b55, rfl, hA3, hB3, hm8⟩
      replace hm0 := hm0.trans hm8
      clear hm8
      refine L.m rfl rfl <| L.v (R1.extract rfl rfl) rfl <| L.v (R1.extract rfl rfl) rfl <| L.v (R1.extract rfl rfl) rfl <| L.alloc tyZ32 rfl ?_
      intro g9 w9 hN9
      have hge_g9 := New.ge hN9 hm0.size
      replace hm0 := hm0.trans (hN9.mod.mono (by simp))
      replace hA3 := hA3.new hN9
      replace hB3 := hB3.new hN9
      have hb9 := hN9.blk
      clear hN9
      refine L.storeBox rfl rfl hb9 rfl (one_S (lay_form' hA3) (lay_form' hB3)) tyG32 ?_
      intro w10 hb9' hm10
      replace hm0 := hm0.old1 hm10 hge_g9
      clear hm10
      replace hb9 := hb9'; clear hb9'
      refine L.a rfl rfl <| L.a rfl rfl <| L.nil <| X.seq <| W.seq <| W.region <| L.m rfl rfl <| L.m rfl rfl <| L.v ((R1.eq rfl rfl).asB (c := true) (decide_eq_true rfl)) rfl <| L.m rfl rfl <| L.callOn rfl rfl rfl rfl (c_known15) rfl ?_
      rintro _ w11 ⟨rfl, hm11⟩
      replace hm0 := hm0.trans hm11
      clear hm11
      refine L.v (R1.pickT rfl rfl) rfl <| L.a rfl rfl <| L.nil <| X.seq <| W.ret <| X.thenRet <| X.result1 rfl (.tmp rfl .nil) ?_
      exact ⟨rfl, hm0⟩
     ·
      intro hc48
      try simp only [bq, ne_eq] at hc48
      have hok : (phZ cs (List.replicate cs.length (-1)) val).2.2 = 0 := by simpa using hc48
      have hok6 := phZ_ok hok
      have hrl := phZ_len hok
      have hsZ := phZ_s16 cs (List.replicate cs.length (-1)) hv hsv3
      refine W.skip <| X.seq <| W.seq <| W.region <| L.m rfl rfl <| L.makeSlice (m := val.length) rfl rfl rfl rfl tyS41 tyZ4 (by omega) (by unfold maxLen; omega) rfl ?_
      intro g66 w12 hN66
      have hoT := own_madeB (B := w.heap.size) hN66 hm0.size (by unfold maxLen; omega)
      replace hL := hL.new hN66
      replace hv := hv.new hN66
      replace hbd := hbd.new hN66
      replace hm0 := hm0.trans (hN66.mod.mono (by simp))
      replace hB := hB.new hN66
      have hno_hoT_g6 : (Value.slice (some ⟨g66, 0, none⟩) val.length val.length).ownBlock ≠ some g6 := own_ne_new' (hb6.ne_ hN66)
      replace hb6 := Blk.gr hb6 hN66.mod
      clear hN66
      obtain ⟨v66, hv_v66⟩ : ∃ v, v = Value.slice (some ⟨g66, 0, none⟩) val.length val.length := ⟨_, rfl⟩
      have hol_v66 : ownL v66 = [g66] := by rw [hv_v66]; rfl
      rw [← hv_v66] at hoT ⊢
      replace hL := hL.sub (of_cons hol_v66)
      replace hv := hv.sub (of_cons hol_v66)
      replace hbd := hbd.sub (of_cons hol_v66)
      replace hB := hB.sub (of_cons hol_v66)
      rw [← hv_v66] at hno_hoT_g6
      clear hv_v66 hol_v66
      refine L.a rfl rfl <| L.nil <| X.seq <| W.seq <| W.seq <| W.region <| L.a rfl rfl <| L.nil <| X.seq <| W.block <| W.loop (ι := Nat × List Bool) (fun (i, bs) => [(0, .slice TL cs.length tL), (1, .slice TV val.length tV), (5, .int .i64 ((val.length : Nat) : Int)), (6, .pointer (some ⟨g6, 0, none⟩)), (12, v66), (13, .int .i64 ((i : Nat) : Int))]) (fun (i, bs) w_ => Lay rdC (ownL v66 ++ [g6]) w_ (.slice TL cs.length tL) cs ∧ Lay rdQ (ownL v66 ++ [g6]) w_ (.slice TV val.length tV) val ∧ Lay rdQ (ownL v66 ++ [g6]) w_ b43 (phZ cs (List.replicate cs.length (-1)) val).1.2 ∧ Bd (ownL v66 ++ [g6]) w_ ∧ Blk w_ g6 26 #[a43, b43] ∧ w_.ownsRow w.heap.size 4 1 v66 val.length (boolsV bs) ∧ (∀ v, v < val.length → bs.getD v false = decide (metS cs i v)) ∧ i ≤ cs.length ∧ Mod [] w w_) (fun (i, bs) => cs.length - i) (0, List.replicate val.length false) ?_ ?_ ?_
      · exact ⟨rfl, rfl, rfl, rfl, rfl, rfl, trivial⟩
      ·
       exact ⟨hL.su, hv.su, hB.su, hbd.su, hb6, hoT, (fun v hv => by rw [decide_eq_false (by rintro ⟨c, hc, _⟩; simp at hc)]; simp [List.getD_eq_getElem?_getD, hv]), Nat.zero_le _, hm0⟩
      ·
       rintro ⟨i, bs⟩ w13 ⟨hL, hv, hB, hbd, hb6, hoT, hbs, hi, hm0⟩
       refine W.seq <| W.seq <| W.region <| L.m rfl rfl <| L.m rfl rfl <| L.v (R1.lenLay rfl hL tyS22) rfl <| L.v (R1.lt rfl rfl) rfl <| L.nil <| X.seq <| W.cond rfl ?_ ?_
       ·
        intro hc70
        try simp only [bq, ne_eq] at hc70
        obtain ⟨z, hz⟩ : ∃ z, cs[i]? = some z := ⟨_, List.getElem?_eq_getElem (by omega)⟩
        refine W.skip <| X.seq <| W.seq <| W.block <| W.seq <| W.region <| L.a rfl rfl <| L.nil <| X.seq <| W.block <| W.loop (ι := Nat × List Bool) (fun (k, bs2) => [(0, .slice TL cs.length tL), (1, .slice TV val.length tV), (5, .int .i64 ((val.length : Nat) : Int)), (6, .pointer (some ⟨g6, 0, none⟩)), (12, v66), (13, .int .i64 ((i : Nat) : Int)), (14, .int .i64 ((k : Nat) : Int))]) (fun (k, bs2) w_ => Lay rdC (ownL v66 ++ [g6]) w_ (.slice TL cs.length tL) cs ∧ Lay rdQ (ownL v66 ++ [g6]) w_ (.slice TV val.length tV) val ∧ Lay rdQ (ownL v66 ++ [g6]) w_ b43 (phZ cs (List.replicate cs.length (-1)) val).1.2 ∧ Bd (ownL v66 ++ [g6]) w_ ∧ Blk w_ g6 26 #[a43, b43] ∧ w_.ownsRow w.heap.size 4 1 v66 val.length (boolsV bs2) ∧ (∀ v, v < val.length → bs2.getD v false = decide (metK cs i z.ts k v)) ∧ k ≤ z.ts.length ∧ Mod [] w w_) (fun (k, bs2) => z.ts.length - k) (0, bs) ?_ ?_ ?_
        · exact ⟨rfl, rfl, rfl, rfl, rfl, rfl, rfl, trivial⟩
        ·
         exact ⟨hL.su, hv.su, hB.su, hbd.su, hb6, hoT, (fun v hv => by rw [hbs v hv, decide_eq_decide]; unfold metK; simp), Nat.zero_le _, hm0⟩
        ·
         rintro ⟨k, bs2⟩ w14 ⟨hL, hv, hB, hbd, hb6, hoT, hbs, hk, hm0⟩
         refine W.seq <| W.seq <| W.region <| L.m rfl rfl <| L.m rfl rfl <| L.m rfl rfl <| L.v (R1.atLay (j := i) rfl rfl hL tyS22 rfl (by omega)) rfl <| L.v (R1.fieldAddr rfl tyF47_1) rfl ?_
         obtain ⟨z78, cs78, hz78, hE78, vt78, ds78, rfl, ht78, vn78, vd78, rfl, hn78, hd78⟩ := Lay.elemQ hL (j := i) (by omega)
         obtain ⟨T78, t78, rfl⟩ := ht78.form
         obtain ⟨A78, c78, rfl⟩ := hn78.form
         obtain ⟨B78, e78, rfl⟩ := hd78.form
         obtain rfl : z = z78 := by have h9 := hz78; rw [hz] at h9; injection h9
         refine L.v (R1.loadEF rfl hE78 rfl tyP42) rfl ?_
         have hmax78 := ht78.max; unfold maxLen at hmax78
         refine L.v (R1.lenLay rfl ht78 tyS42) rfl <| L.v (R1.lt rfl rfl) rfl <| L.nil <| X.seq <| W.cond rfl ?_ ?_
         ·
          intro hc80
          try simp only [bq, ne_eq] at hc80
          refine W.skip <| X.seq <| W.seq <| W.block <| W.seq <| W.region <| L.m rfl rfl <| L.m rfl rfl <| L.v (R1.atLay (j := i) rfl rfl hL tyS22 rfl (by omega)) rfl <| L.v (R1.fieldAddr rfl tyF47_1) rfl ?_
          obtain ⟨z87, cs87, hz87, hE87, vt87, ds87, rfl, ht87, vn87, vd87, rfl, hn87, hd87⟩ := Lay.elemQ hL (j := i) (by omega)
          obtain ⟨T87, t87, rfl⟩ := ht87.form
          obtain ⟨A87, c87, rfl⟩ := hn87.form
          obtain ⟨B87, e87, rfl⟩ := hd87.form
          obtain rfl : z = z87 := by have h9 := hz87; rw [hz] at h9; injection h9
          refine L.v (R1.loadEF rfl hE87 rfl tyP42) rfl <| L.m rfl rfl <| L.v (R1.atLay (j := k) rfl rfl ht87 tyS42 rfl (by omega)) rfl <| L.v (R1.fieldAddr rfl tyF49_0) rfl ?_
          obtain ⟨z91, cs91, hz91, hE91, ds91, rfl, vn91, vd91, rfl, hn91, hd91⟩ := Lay.elemQ ht87 (j := k) (by omega)
          obtain ⟨A91, c91, rfl⟩ := hn91.form
          obtain ⟨B91, e91, rfl⟩ := hd91.form
          refine L.v (R1.loadEF rfl hE91 rfl tyP3) rfl ?_
          have hd := isC_all (hok6.1.2.2.2.2 z (List.mem_of_getElem? hz)) z91 (List.mem_of_getElem? hz91)
          refine L.a rfl rfl <| L.nil <| X.seq <| W.seq <| W.seq <| W.region <| L.m rfl rfl <| L.v ((R1.lt rfl rfl).asB (c := false) (decide_eq_false (by omega))) rfl <| L.m rfl rfl <| L.on rfl rfl rfl (R1.move rfl) rfl <| L.on rfl rfl rfl (R1.move rfl) rfl ?_
          refine L.on rfl rfl rfl ((R1.ge rfl rfl).asB (c := false) (decide_eq_false (by omega))) rfl <| L.v (R1.pickF rfl rfl) rfl <| L.nil <| X.seq <| W.condF rfl <| W.skip <| X.seq <| W.region <| L.m rfl rfl <| L.m rfl rfl <| L.v (R1.atOwn (i := z91.v.toNat) rfl rfl hoT tyS41 (by omega) (by omega)) rfl ?_
          refine L.storeBo rfl rfl hoT (by omega) tyP4 ?_
          intro w15 hoT' hm15
          replace hL := hL.mo hm15
          replace hv := hv.mo hm15
          replace hB := hB.mo hm15
          replace hbd := hbd.gr hm15
          replace hb6 := Blk.ownfar hb6 hm15 hno_hoT_g6
          replace hm0 := Mod.oldOwn hm0 hm15 hoT
          replace ht78 := ht78.mo hm15
          replace hn78 := hn78.mo hm15
          replace hd78 := hd78.mo hm15
          replace ht87 := ht87.mo hm15
          replace hn87 := hn87.mo hm15
          replace hd87 := hd87.mo hm15
          replace hn91 := hn91.mo hm15
          replace hd91 := hd91.mo hm15
          clear hm15
          replace hoT := hoT'; clear hoT'
          refine L.nil <| X.blockEnd <| X.seq <| W.region <| L.m rfl rfl <| L.v (R1.addI (b := 1) rfl rfl (by omega)) rfl <| L.a rfl rfl <| L.nil ?_
          have hlb : val.length = bs2.length := by have h9 := own_lenB hoT; rw [List.length_set] at h9; exact h9
          refine X.next (k + 1, bs2.set z91.v.toNat true) ?_ ?_ ?_
          · exact ⟨rfl, rfl, rfl, rfl, rfl, rfl, rfl, trivial⟩
          ·
           exact ⟨hL.su, hv.su, hB.su, hbd.su, hb6, hoT, (metK_set hlb hbs hz91 (by omega) (by omega)), by omega, hm0⟩
          · first | omega | (dsimp only; omega)
         ·
          intro hc80
          try simp only [bq, ne_eq] at hc80
          obtain rfl : k = z.ts.length := by omega
          refine W.exit <| X.thenExit <| X.nextExit <| X.here <| X.blockEnd <| X.seq <| W.region <| L.m rfl rfl <| L.v (R1.addI (b := 1) rfl rfl (by omega)) rfl <| L.a rfl rfl <| L.nil ?_
          refine X.next (i + 1, bs2) ?_ ?_ ?_
          · exact ⟨rfl, rfl, rfl, rfl, rfl, rfl, trivial⟩
          ·
           exact ⟨hL.su, hv.su, hB.su, hbd.su, hb6, hoT, (fun v hv => by rw [hbs v hv, decide_eq_decide]; exact (metS_snoc hz v).symm), by omega, hm0⟩
          · first | omega | (dsimp only; omega)
       ·
        intro hc70
        try simp only [bq, ne_eq] at hc70
        obtain rfl : i = cs.length := by omega
        refine W.exit <| X.thenExit <| X.nextExit <| X.here <| X.seq <| W.seq <| W.seq <| W.region <| L.a rfl rfl <| L.nil <| X.seq ?_
        refine W.block <| W.loop (ι := Nat) (fun v => [(0, .slice TL cs.length tL), (1, .slice TV val.length tV), (5, .int .i64 ((val.length : Nat) : Int)), (6, .pointer (some ⟨g6, 0, none⟩)), (12, v66), (16, .int .i64 ((v : Nat) : Int))]) (fun v w_ => Lay rdC (ownL v66 ++ [g6]) w_ (.slice TL cs.length tL) cs ∧ Lay rdQ (ownL v66 ++ [g6]) w_ (.slice TV val.length tV) val ∧ Lay rdQ (ownL v66 ++ [g6]) w_ b43 (phZ cs (List.replicate cs.length (-1)) val).1.2 ∧ Bd (ownL v66 ++ [g6]) w_ ∧ Blk w_ g6 26 #[a43, b43] ∧ w_.ownsRow w.heap.size 4 1 v66 val.length (boolsV bs) ∧ v ≤ val.length ∧ Mod [] w w_) (fun v => val.length - v) 0 ?_ ?_ ?_
        · exact ⟨rfl, rfl, rfl, rfl, rfl, rfl, trivial⟩
        ·
         exact ⟨hL.su, hv.su, hB.su, hbd.su, hb6, hoT, Nat.zero_le _, hm0⟩
        ·
         rintro v w16 ⟨hL, hv, hB, hbd, hb6, hoT, hvi, hm0⟩
         refine W.seq <| W.seq <| W.region <| L.m rfl rfl <| L.m rfl rfl <| L.v (R1.lt rfl rfl) rfl <| L.nil <| X.seq <| W.cond rfl ?_ ?_
         ·
          intro hc104
          try simp only [bq, ne_eq] at hc104
          refine W.skip <| X.seq <| W.seq <| W.block <| W.seq <| W.drawW (T := []) rfl (by decide +kernel) (NoHang.then (NoHang.block (NoHang.then (NoHang.next (NoHang.block (NoHang.then NoHang.post)))))) (fun w17 hm17 => ?_)
          replace hL := hL.gr hm17
          replace hv := hv.gr hm17
          replace hB := hB.gr hm17
          replace hbd := hbd.gr hm17
          replace hb6 := Blk.gr hb6 hm17
          replace hoT := own_gr hoT hm17 (by simp)
          replace hm0 := hm0.trans hm17
          have hS1 : Mod [] w17 w17 := Mod.refl _ _
          clear hm17
          have hv_s := hv
          have hB_s := hB
          have hb6_s := hb6
          have hoT_s := hoT
          refine D.take 0 rfl (by kernel_rfl) (fun w_ hS => (R1.fieldAt rfl tyF26_1)) hS1 rfl <| D.take 1 rfl (by kernel_rfl) (fun w_ hS => (R1.loadFld rfl (Blk.gr hb6_s hS) rfl tyP24)) hS1 rfl <| D.take 2 rfl (by kernel_rfl) (fun w_ hS => (R1.lenLay rfl (Lay.gr hB_s hS) tyS24)) hS1 rfl <| D.m 3 rfl (by kernel_rfl) rfl hS1 rfl <| D.take 4 rfl (by kernel_rfl) (fun w_ hS => ((R1.ne rfl rfl).asB (c := false) (by rw [hrl]; simp))) hS1 rfl <| D.m 5 rfl (by kernel_rfl) rfl hS1 rfl <| D.takeOn 6 rfl rfl rfl rfl (by kernel_rfl) (fun w_ hS => (R1.move rfl)) hS1 rfl <| D.takeOn 7 rfl rfl rfl rfl (by kernel_rfl) (fun w_ hS => (R1.move rfl)) hS1 rfl <| D.takeOn 8 rfl rfl rfl rfl (by kernel_rfl) (fun w_ hS => (R1.atOwn (i := v) rfl rfl (own_gr hoT_s hS (by simp)) tyS41 rfl (by omega))) hS1 rfl <| D.takeOn 9 rfl rfl rfl rfl (by kernel_rfl) (fun w_ hS => (R1.ldBo rfl (own_gr hoT_s hS (by simp)) (by omega) tyP4)) hS1 rfl <| D.takeOn 10 rfl rfl rfl rfl (by kernel_rfl) (fun w_ hS => (R1.not rfl)) hS1 rfl ?_
          refine D.takeOn 11 rfl rfl rfl rfl (by kernel_rfl) (fun w_ hS => (R1.move rfl)) hS1 rfl ?_
          cases hgd118 : (!(bs.getD v false))
          ·
           simp only [Bool.not_eq_true', Bool.not_eq_false'] at hgd118
           refine D.off 12 rfl rfl rfl rfl rfl (by kernel_rfl) hS1 rfl <| D.off 13 rfl rfl rfl rfl rfl (by kernel_rfl) hS1 rfl <| D.off 14 rfl rfl rfl rfl rfl (by kernel_rfl) hS1 rfl <| D.off 15 rfl rfl rfl rfl rfl (by kernel_rfl) hS1 rfl <| D.off 16 rfl rfl rfl rfl rfl (by kernel_rfl) hS1 rfl <| D.off 17 rfl rfl rfl rfl rfl (by kernel_rfl) hS1 rfl <| D.off 18 rfl rfl rfl rfl rfl (by kernel_rfl) hS1 rfl <| D.off 19 rfl rfl rfl rfl rfl (by kernel_rfl) hS1 rfl <| D.off 20 rfl rfl rfl rfl rfl (by kernel_rfl) hS1 rfl <| D.off 21 rfl rfl rfl rfl rfl (by kernel_rfl) hS1 rfl <| D.off 22 rfl rfl rfl rfl rfl (by kernel_rfl) hS1 rfl ?_
           refine D.takeOn 23 rfl rfl rfl rfl (by kernel_rfl) (fun w_ hS => (R1.pickF rfl rfl)) hS1 rfl <| D.take 24 rfl (by kernel_rfl) (fun w_ hS => (R1.pickF rfl rfl)) hS1 rfl <| D.done (by decide +kernel) ?_ _
           refine X.seq <| W.condF rfl <| W.skip <| X.blockEnd <| X.seq <| W.region <| L.m rfl rfl <| L.v (R1.addI (b := 1) rfl rfl (by omega)) rfl <| L.a rfl rfl <| L.nil <| X.next (v + 1) ?_ ?_ ?_
           · exact ⟨rfl, rfl, rfl, rfl, rfl, rfl, trivial⟩
           ·
            exact ⟨hL.su, hv.su, hB.su, hbd.su, hb6, hoT, by omega, hm0⟩
           · first | omega | (dsimp only; omega)
          ·
           simp only [Bool.not_eq_true', Bool.not_eq_false'] at hgd118
           refine D.takeOn 12 rfl rfl rfl rfl (by kernel_rfl) (fun w_ hS => (R1.fieldAt rfl tyF26_1)) hS1 rfl <| D.takeOn 13 rfl rfl rfl rfl (by kernel_rfl) (fun w_ hS => (R1.loadFld rfl (Blk.gr hb6_s hS) rfl tyP24)) hS1 rfl <| D.takeOn 14 rfl rfl rfl rfl (by kernel_rfl) (fun w_ hS => (R1.move rfl)) hS1 rfl <| D.takeOn 15 rfl rfl rfl rfl (by kernel_rfl) (fun w_ hS => (R1.atLay (j := v) rfl rfl (Lay.gr hB_s hS) tyS24 rfl (by omega))) hS1 rfl ?_
           obtain ⟨z123, cs123, hz123, hE123, vn123, vd123, rfl, hn123, hd123⟩ := Lay.elemQ hB_s (j := v) (by omega)
           obtain ⟨A123, c123, rfl⟩ := hn123.form
           obtain ⟨B123, e123, rfl⟩ := hd123.form
           replace hn123 := hn123.gr hS1
           replace hd123 := hd123.gr hS1
           refine D.takeOn 16 rfl rfl rfl rfl (by kernel_rfl) (fun w_ hS => (R1.loadE rfl (SlE.gr hE123 hS) tyG45)) hS1 rfl <| D.takeOn 17 rfl rfl rfl rfl (by kernel_rfl) (fun w_ hS => (R1.move rfl)) hS1 rfl <| D.takeOn 18 rfl rfl rfl rfl (by kernel_rfl) (fun w_ hS => (R1.move rfl)) hS1 rfl <| D.takeOn 19 rfl rfl rfl rfl (by kernel_rfl) (fun w_ hS => (R1.atLay (j := v) rfl rfl (Lay.gr hv_s hS) tyS24 rfl (by omega))) hS1 rfl ?_
           obtain ⟨z127, cs127, hz127, hE127, vn127, vd127, rfl, hn127, hd127⟩ := Lay.elemQ hv_s (j := v) (by omega)
           obtain ⟨A127, c127, rfl⟩ := hn127.form
           obtain ⟨B127, e127, rfl⟩ := hd127.form
           replace hn127 := hn127.gr hS1
           replace hd127 := hd127.gr hS1
           refine D.takeOn 20 rfl rfl rfl rfl (by kernel_rfl) (fun w_ hS => (R1.loadE rfl (SlE.gr hE127 hS) tyG45)) hS1 rfl <| D.one 21 rfl (by kernel_rfl) (fun hX => ?_)
           refine L.callOn rfl rfl rfl rfl ((c_ref2_Same (qa := (QR.val z123)) (qb := (QR.val z127)) rfl rfl hn123 hd123 hn127 hd127 hbd (Nat.le_trans (hsZ _ (List.mem_of_getElem? hz123)).1 (by decide)) (Nat.le_trans (hsZ _ (List.mem_of_getElem? hz123)).2 (by decide)) (Nat.le_trans (hsv _ (List.mem_of_getElem? hz127)).1 (by decide)) (Nat.le_trans (hsv _ (List.mem_of_getElem? hz127)).2 (by decide))).mono (R' := fun r w' => r = .bool true ∧ Mod [] w17 w') (fun r w' h9 => ⟨h9.1.trans (congrArg Value.bool (decide_eq_true (apart_eq hok (v := v) (by rw [hbs v (by omega)] at hgd118; exact of_decide_eq_false hgd118) hz123 hz127))), h9.2⟩)) rfl ?_
           rintro _ w18 ⟨rfl, hm18⟩
           replace hL := hL.gr hm18
           replace hv := hv.gr hm18
           replace hB := hB.gr hm18
           replace hbd := hbd.gr hm18
           replace hb6 := Blk.gr hb6 hm18
           replace hoT := own_gr hoT hm18 (by simp)
           replace hm0 := hm0.trans hm18
           replace hS1 := hS1.trans hm18
           clear hm18
           refine L.nil (hX _ _ ⟨.inr hS1, ?_⟩)
           refine D.takeOn 22 rfl rfl rfl rfl (by kernel_rfl) (fun w_ hS => ((R1.not rfl).asB (c := false) rfl)) hS1 rfl <| D.takeOn 23 rfl rfl rfl rfl (by kernel_rfl) (fun w_ hS => (R1.pickT rfl rfl)) hS1 rfl <| D.take 24 rfl (by kernel_rfl) (fun w_ hS => (R1.pickF rfl rfl)) hS1 rfl <| D.done (by decide +kernel) ?_ _
           refine X.seq <| W.condF rfl <| W.skip <| X.blockEnd <| X.seq <| W.region <| L.m rfl rfl <| L.v (R1.addI (b := 1) rfl rfl (by omega)) rfl <| L.a rfl rfl <| L.nil <| X.next (v + 1) ?_ ?_ ?_
           · exact ⟨rfl, rfl, rfl, rfl, rfl, rfl, trivial⟩
           ·
            exact ⟨hL.su, hv.su, hB.su, hbd.su, hb6, hoT, by omega, hm0⟩
           · first | omega | (dsimp only; omega)
         ·
          intro hc104
          try simp only [bq, ne_eq] at hc104
          obtain rfl : v = val.length := by omega
          refine W.exit <| X.thenExit <| X.nextExit <| X.here <| X.seq <| W.seq <| W.region <| L.m rfl rfl <| L.v (R1.build (vs := [.slice TV val.length tV]) rfl (built_S1 _ _ _)) rfl <| L.call rfl (c_Phase (M := []) (cs := []) (os := []) (Lay.nil rfl) (Lay.nil rfl) (hv.sub (M' := []) (fun b hb => by cases hb)) (hbd.sub (M' := []) (fun b hb => by cases hb)) (fun c hc => by cases hc) hsv (by simp)) rfl ?_
          rintro _ w19 ⟨a135, b135, rfl, hA2, hB2, hm19⟩
          replace hv := hv.gr hm19
          replace hbd := hbd.gr hm19
          replace hm0 := hm0.trans hm19
          clear hm19
          rw [phZ_nil hok6.1.1 hok6.1.2.1] at hA2 hB2 ⊢
          refine L.m rfl rfl <| L.v (R1.extract rfl rfl) rfl <| L.v (R1.extract rfl rfl) rfl <| L.v (R1.extract rfl rfl) rfl <| L.alloc tyZ26 rfl ?_
          intro g17 w20 hN17
          replace hv := hv.new hN17
          replace hbd := hbd.new hN17
          have hge_g17 := New.ge hN17 hm0.size
          replace hm0 := hm0.trans (hN17.mod.mono (by simp))
          replace hA2 := hA2.new hN17
          replace hB2 := hB2.new hN17
          have hb17 := hN17.blk
          clear hN17
          refine L.storeBox rfl rfl hb17 rfl (one_S (lay_form' hA2) (lay_form' hB2)) tyG26 ?_
          intro w21 hb17' hm21
          replace hv := hv.mod hm21 (by simp)
          replace hbd := hbd.gr hm21
          replace hm0 := hm0.old1 hm21 hge_g17
          replace hB2 := hB2.mod hm21 (by simp)
          clear hm21
          replace hb17 := hb17'; clear hb17'
          refine L.a rfl rfl <| L.a rfl rfl <| L.nil <| X.seq <| W.seq <| W.region <| L.m rfl rfl <| L.v ((R1.eq rfl rfl).asB (c := true) (decide_eq_true rfl)) rfl <| L.m rfl rfl <| L.on rfl rfl rfl (R1.move rfl) rfl <| L.on rfl rfl rfl ((R1.eq rfl rfl).asB (c := true) (decide_eq_true rfl)) rfl ?_
          refine L.v (R1.pickT rfl rfl) rfl <| L.m rfl rfl <| L.on rfl rfl rfl (R1.fieldAt rfl tyF26_1) rfl <| L.on rfl rfl rfl (R1.loadFld rfl hb17 rfl tyP24) rfl <| L.on rfl rfl rfl (R1.move rfl) rfl <| L.callOn rfl rfl rfl rfl (c_RatsEqV (hB2.sub (M' := []) (fun b hb => by cases hb)) (hv.sub (M' := []) (fun b hb => by cases hb)) (hbd.sub (M' := []) (fun b hb => by cases hb)) (nvL_16 hv hsv3) (sm16k hsv) (nvL_vals val)) rfl ?_
          rintro _ w22 ⟨rfl, hm22⟩
          replace hm0 := hm0.trans hm22
          clear hm22
          refine L.v (R1.pickT rfl rfl) rfl <| L.m rfl rfl <| L.callOn rfl rfl rfl rfl (c_known15) rfl ?_
          rintro _ w23 ⟨rfl, hm23⟩
          replace hm0 := hm0.trans hm23
          clear hm23
          refine L.v (R1.pickT rfl rfl) rfl <| L.a rfl rfl <| L.nil <| X.seq <| W.ret <| X.result1 rfl (.tmp rfl .nil) ?_
          exact ⟨rfl, hm0⟩
   ·
    have hcc_ := hgd33
    refine L.off rfl rfl rfl rfl rfl <| L.off rfl rfl rfl rfl rfl <| L.v (R1.pickT rfl rfl) rfl <| L.nil <| X.seq <| W.condT rfl <| W.seq <| W.region <| L.a rfl rfl <| L.nil <| X.seq ?_
    refine W.ret <| X.thenRet <| X.result1 rfl (.tmp rfl .nil) ?_
    exact ⟨rfl, hm0⟩
  ·
   have hcc_ := hgd28
   refine L.off rfl rfl rfl rfl rfl <| L.off rfl rfl rfl rfl rfl <| L.off rfl rfl rfl rfl rfl <| L.v (R1.pickT rfl rfl) rfl <| L.m rfl rfl <| L.off rfl rfl rfl rfl rfl <| L.off rfl rfl rfl rfl rfl <| L.v (R1.pickT rfl rfl) rfl <| L.nil <| X.seq <| W.condT rfl ?_
   refine W.seq <| W.region <| L.a rfl rfl <| L.nil <| X.seq <| W.ret <| X.thenRet <| X.result1 rfl (.tmp rfl .nil) ?_
   exact ⟨rfl, hm0⟩
 ·
  have hcc_ := hgd24
  refine L.off rfl rfl rfl rfl rfl <| L.off rfl rfl rfl rfl rfl <| L.v (R1.pickT rfl rfl) rfl <| L.m rfl rfl <| L.off rfl rfl rfl rfl rfl <| L.off rfl rfl rfl rfl rfl <| L.off rfl rfl rfl rfl rfl <| L.v (R1.pickT rfl rfl) rfl <| L.m rfl rfl <| L.off rfl rfl rfl rfl rfl <| L.off rfl rfl rfl rfl rfl ?_
  refine L.v (R1.pickT rfl rfl) rfl <| L.nil <| X.seq <| W.condT rfl <| W.seq <| W.region <| L.a rfl rfl <| L.nil <| X.seq <| W.ret <| X.thenRet ?_
  refine X.result1 rfl (.tmp rfl .nil) ?_
  exact ⟨rfl, hm0⟩
end Go.Proofs.YtgpdjfalleadaaaGreat
