/- Walks: what the functions compute. -/
import Derived.Test.YtdfnkbdnnflcpaaL4K
import Derived.Test.YtdfnkbdnnflcpaaL4P
namespace Go.Proofs.Ytdfnkbdnnflcpaa
open Go.RowKit
set_option linter.unusedVariables false
set_option linter.unusedSimpArgs false
set_option maxRecDepth 10000
set_option maxHeartbeats 1000000 in
theorem c_RunOrders {w : World} {vl vo : Value} {cs : List CR} {os : List Int} {z0 : Int} (hL : Lay rdC [] w vl cs) (hO : Lay rdI [] w vo os) (hb : szCs cs ≤ 4194304) :
    Ret Try.prog 4 #[vl, vo, .int .i64 z0] w (fun r w' => r = .bool true ∧ Mod [] w w') := by
 have hbd : Bd [] w := fun m hm => by cases hm
 obtain ⟨TL, tL, rfl⟩ := hL.form
 obtain ⟨TO, tO, rfl⟩ := hO.form
 have hcl := cs_len cs
 refine Ret.of (vs := [.slice TL cs.length tL, .slice TO os.length tO, .int .i64 z0]) (n := 158) Try.func4 rfl rfl rfl rfl ?_
 have hm0 : Mod [] w w := Mod.refl _ _
 refine W.seq <| W.region <| L.v (R1.assign rfl) rfl <| L.nil <| X.seq <| W.seq <| W.seq <| W.region <| L.v (R1.move rfl) rfl <| L.call rfl (c_heavy_pantographlaw14 hL hb) rfl ?_
 rintro _ w1 ⟨rfl, hm1⟩
 replace hL := hL.gr hm1
 replace hO := hO.gr hm1
 replace hbd := hbd.gr hm1
 replace hm0 := hm0.trans hm1
 clear hm1
 refine L.v (R1.move rfl) rfl ?_
 cases hgd15 : (decide (150 < szCs cs))
 ·
  have hcc_ := hgd15
  refine L.on rfl rfl rfl (R1.move rfl) rfl <| L.on rfl rfl rfl (R1.lenLay rfl hL tyS22) rfl <| L.on rfl rfl rfl ((R1.gt rfl rfl).asB (c := (decide ((12 : Int) < (cs.length : Int)))) (rfl)) rfl <| L.v (R1.pickF rfl rfl) rfl <| L.v (R1.move rfl) rfl ?_
  cases hgd20 : (decide ((12 : Int) < (cs.length : Int)))
  ·
   have hcc_ := hgd20
   refine L.on rfl rfl rfl (R1.move rfl) rfl <| L.on rfl rfl rfl (R1.lenLay rfl hO tyS23) rfl <| L.on rfl rfl rfl ((R1.gt rfl rfl).asB (c := (decide ((20 : Int) < (os.length : Int)))) (rfl)) rfl <| L.v (R1.pickF rfl rfl) rfl <| L.v (R1.move rfl) rfl ?_
   cases hgd25 : (decide ((20 : Int) < (os.length : Int)))
   ·
    have hcc_ := hgd25
    refine L.on rfl rfl rfl (R1.move rfl) rfl <| L.on rfl rfl rfl (R1.move rfl) rfl <| L.on rfl rfl rfl (R1.move rfl) rfl ?_
    have hsmL : ∀ c ∈ cs, SmC 1099511627776 c := fun c hc => smC_up (sm150 (by simpa using hgd15) c hc) (by decide)
    refine L.callOn rfl rfl rfl rfl (c_r13_Is hL hO hbd hsmL) rfl ?_
    rintro _ w2 ⟨rfl, hm2⟩
    replace hL := hL.gr hm2
    replace hO := hO.gr hm2
    replace hbd := hbd.gr hm2
    replace hm0 := hm0.trans hm2
    clear hm2
    refine L.on rfl rfl rfl (R1.not rfl) rfl <| L.v (R1.pickF rfl rfl) rfl <| L.nil <| X.seq <| W.cond rfl ?_ ?_
    ·
     intro hc31
     simp only [Bool.not_eq_true', Bool.not_eq_false'] at hc31
     refine W.seq <| W.region <| L.v (R1.assign rfl) rfl <| L.nil <| X.seq <| W.ret <| X.thenRet <| X.result1 rfl (.tmp rfl .nil) ?_
     exact ⟨rfl, hm0⟩
    ·
     intro hc31
     simp only [Bool.not_eq_true', Bool.not_eq_false'] at hc31
     have hCh := hc31
     obtain ⟨n, rfl⟩ : ∃ n : Nat, z0 = (n : Int) := ⟨z0.toNat, by have := (ChB_true hCh).1; omega⟩
     obtain ⟨hz1, hz2, hcl9, hol, hch, hF0⟩ := ChB_true hCh
     have hple := ordT_le cs os os
     have hpl9 : ((ordT cs os os).map (fun (k : Nat) => (k : Int))).length = (ordT cs os os).length := List.length_map _
     refine W.skip <| X.seq <| W.seq <| W.region <| L.v (R1.move rfl) rfl <| L.v (R1.move rfl) rfl <| L.v (R1.move rfl) rfl <| L.call rfl (c_OrderL hL hO hbd hsmL) rfl ?_
     rintro v35 w3 ⟨hP, hm3⟩
     replace hL := hL.gr hm3
     replace hO := hO.gr hm3
     replace hbd := hbd.gr hm3
     replace hm0 := hm0.trans hm3
     clear hm3
     rw [ordZ_true hCh] at hP
     refine L.v (R1.assign rfl) rfl <| L.nil <| X.seq <| W.seq <| W.region <| L.v (R1.move rfl) rfl <| L.v (R1.lenLay rfl hL tyS22) rfl <| L.makeSlice (m := cs.length) rfl rfl rfl rfl tyS23 tyZ3 (by omega) (by unfold maxLen; omega) rfl ?_
     intro g38 w4 hN38
     have ho := own_made (B := w.heap.size) hN38 hm0.size (by unfold maxLen; omega)
     replace hL := hL.new hN38
     replace hO := hO.new hN38
     replace hbd := hbd.new hN38
     replace hm0 := hm0.trans (hN38.mod.mono (by simp))
     replace hP := hP.new hN38
     clear hN38
     obtain ⟨v38, hv_v38⟩ : ∃ v, v = Value.slice (some ⟨g38, 0, none⟩) cs.length cs.length := ⟨_, rfl⟩
     have hol_v38 : ownL v38 = [g38] := by rw [hv_v38]; rfl
     rw [← hv_v38] at ho ⊢
     replace hL := hL.sub (of_cons hol_v38)
     replace hO := hO.sub (of_cons hol_v38)
     replace hbd := hbd.sub (of_cons hol_v38)
     replace hP := hP.sub (of_cons hol_v38)
     clear hv_v38 hol_v38
     rw [← atN_zero cs.length (ordT cs os os)] at ho
     refine L.v (R1.assign rfl) rfl <| L.nil <| X.seq <| W.seq <| W.seq <| W.region <| L.v (R1.assign rfl) rfl <| L.nil <| X.seq <| W.block <| W.loop (ι := Nat) (fun k => [(0, .slice TL cs.length tL), (1, .slice TO os.length tO), (8, v38), (7, v35), (9, .int .i64 ((k : Nat) : Int))]) (fun k w_ => Lay rdC (ownL v38 ++ []) w_ (.slice TL cs.length tL) cs ∧ Lay rdI (ownL v38 ++ []) w_ (.slice TO os.length tO) os ∧ Bd (ownL v38 ++ []) w_ ∧ Mod [] w w_ ∧ Lay rdI (ownL v38 ++ []) w_ v35 ((ordT cs os os).map (fun (k : Nat) => (k : Int))) ∧ w_.ownsRow w.heap.size 3 1 v38 cs.length (ints (atN cs.length (ordT cs os os) k)) ∧ k ≤ (ordT cs os os).length) (fun k => (ordT cs os os).length - k) 0 ?_ ?_ ?_
     · exact ⟨rfl, rfl, rfl, rfl, rfl, trivial⟩
     ·
      exact ⟨hL.sub (by intro b hb; first | exact hb | (simp only [mq] at hb ⊢; grind)), hO.sub (by intro b hb; first | exact hb | (simp only [mq] at hb ⊢; grind)), hbd.sub (by intro b hb; first | exact hb | (simp only [mq] at hb ⊢; grind)), hm0, hP.sub (by intro b hb; first | exact hb | (simp only [mq] at hb ⊢; grind)), ho, Nat.zero_le _⟩
     ·
      rintro k w5 ⟨hL, hO, hbd, hm0, hP, ho, hk⟩
      refine W.seq <| W.seq <| W.region <| L.v (R1.move rfl) rfl <| L.v (R1.move rfl) rfl <| L.v (R1.lenLay rfl hP tyS23) rfl <| L.v (R1.lt rfl rfl) rfl <| L.nil <| X.seq <| W.cond rfl ?_ ?_
      ·
       intro hc42
       try simp only [bq, ne_eq] at hc42
       obtain ⟨ip, hip⟩ : ∃ i, (ordT cs os os)[k]? = some i := ⟨_, List.getElem?_eq_getElem (by omega)⟩
       obtain ⟨q1, q2, q3, q4⟩ := (plan_spec hCh).1 k ip hip
       refine W.skip <| X.seq <| W.seq <| W.block <| W.seq <| W.seq <| W.region <| L.v (R1.move rfl) rfl <| L.v (R1.move rfl) rfl <| L.v (R1.atLay (j := k) rfl rfl hP tyS23 rfl (by omega)) rfl <| L.v (R1.loadLI rfl hP tyP3 (by omega) (mapI_get hip _)) rfl ?_
       refine L.v ((R1.lt rfl rfl).asB (c := false) (decide_eq_false (by omega))) rfl <| L.v (R1.move rfl) rfl <| L.on rfl rfl rfl (R1.move rfl) rfl <| L.on rfl rfl rfl (R1.move rfl) rfl <| L.on rfl rfl rfl (R1.atLay (j := k) rfl rfl hP tyS23 rfl (by omega)) rfl <| L.on rfl rfl rfl (R1.loadLI rfl hP tyP3 (by omega) (mapI_get hip _)) rfl <| L.on rfl rfl rfl (R1.move rfl) rfl <| L.on rfl rfl rfl (R1.lenLay rfl hL tyS22) rfl <| L.on rfl rfl rfl ((R1.ge rfl rfl).asB (c := false) (decide_eq_false (by omega))) rfl <| L.v (R1.pickF rfl rfl) rfl <| L.v (R1.move rfl) rfl ?_
       refine L.on rfl rfl rfl (R1.move rfl) rfl <| L.on rfl rfl rfl (R1.move rfl) rfl <| L.on rfl rfl rfl (R1.move rfl) rfl <| L.on rfl rfl rfl (R1.atLay (j := k) rfl rfl hP tyS23 rfl (by omega)) rfl <| L.on rfl rfl rfl (R1.loadLI rfl hP tyP3 (by omega) (mapI_get hip _)) rfl <| L.on rfl rfl rfl (R1.atLay (j := ip) rfl rfl hO tyS23 rfl (by omega)) rfl <| L.on rfl rfl rfl (R1.loadLI rfl hO tyP3 (by omega) (getD_at _)) rfl <| L.on rfl rfl rfl ((R1.lt rfl rfl).asB (c := false) (decide_eq_false (by omega))) rfl <| L.v (R1.pickF rfl rfl) rfl <| L.v (R1.move rfl) rfl <| L.on rfl rfl rfl (R1.move rfl) rfl ?_
       refine L.on rfl rfl rfl (R1.move rfl) rfl <| L.on rfl rfl rfl (R1.move rfl) rfl <| L.on rfl rfl rfl (R1.atLay (j := k) rfl rfl hP tyS23 rfl (by omega)) rfl <| L.on rfl rfl rfl (R1.loadLI rfl hP tyP3 (by omega) (mapI_get hip _)) rfl <| L.on rfl rfl rfl (R1.atOwn (i := ip) rfl rfl ho tyS23 rfl (by omega)) rfl <| L.on rfl rfl rfl (R1.ldLab rfl ho (by omega) tyP3) rfl <| L.on rfl rfl rfl ((R1.ne rfl rfl).asB (c := false) (decide_eq_false (by rw [atN_get _ _ (by omega), posOf_no q3]; simp))) rfl <| L.v (R1.pickF rfl rfl) rfl <| L.nil <| X.seq <| W.condF rfl ?_
       refine W.skip <| X.seq <| W.region <| L.v (R1.move rfl) rfl <| L.v (R1.move rfl) rfl <| L.v (R1.move rfl) rfl <| L.v (R1.atLay (j := k) rfl rfl hP tyS23 rfl (by omega)) rfl <| L.v (R1.loadLI rfl hP tyP3 (by omega) (mapI_get hip _)) rfl <| L.v (R1.move rfl) rfl <| L.v (R1.addI (b := 1) rfl rfl (by omega)) rfl <| L.v (R1.atOwn (i := ip) rfl rfl ho tyS23 rfl (by omega)) rfl ?_
       refine L.storeLab rfl rfl ho (by omega) tyP3 ?_
       intro w6 ho' hm6
       replace hL := hL.mod hm6 (by first | exact mem_own | (intro b hb; simp [hb]))
       replace hO := hO.mod hm6 (by first | exact mem_own | (intro b hb; simp [hb]))
       replace hbd := hbd.gr hm6
       replace hm0 := Mod.oldOwn hm0 hm6 ho
       replace hP := hP.mod hm6 (by first | exact mem_own | (intro b hb; simp [hb]))
       clear hm6
       replace ho := ho'; clear ho'
       refine L.nil <| X.blockEnd <| X.seq <| W.region <| L.v (R1.move rfl) rfl <| L.v (R1.addI (b := 1) rfl rfl (by omega)) rfl <| L.v (R1.assign rfl) rfl <| L.nil <| X.next (k + 1) ?_ ?_ ?_
       · exact ⟨rfl, rfl, rfl, rfl, rfl, trivial⟩
       ·
        exact ⟨hL.sub (by intro b hb; first | exact hb | (simp only [mq] at hb ⊢; grind)), hO.sub (by intro b hb; first | exact hb | (simp only [mq] at hb ⊢; grind)), hbd.sub (by intro b hb; first | exact hb | (simp only [mq] at hb ⊢; grind)), hm0, hP.sub (by intro b hb; first | exact hb | (simp only [mq] at hb ⊢; grind)), own_congr ho rfl (by rw [atN_set hip q3 q1]), by omega⟩
       · first | omega | (dsimp only; omega)
      ·
       intro hc42
       try simp only [bq, ne_eq] at hc42
       obtain rfl : k = (ordT cs os os).length := by omega
       refine W.exit <| X.thenExit <| X.nextExit <| X.here <| X.seq <| W.seq <| W.seq <| W.region <| L.v (R1.assign rfl) rfl <| L.nil <| X.seq ?_
       refine W.block <| W.loop (ι := Nat) (fun i => [(0, .slice TL cs.length tL), (1, .slice TO os.length tO), (8, v38), (10, .int .i64 ((i : Nat) : Int))]) (fun i w_ => Lay rdC (ownL v38 ++ []) w_ (.slice TL cs.length tL) cs ∧ Lay rdI (ownL v38 ++ []) w_ (.slice TO os.length tO) os ∧ Bd (ownL v38 ++ []) w_ ∧ Mod [] w w_ ∧ w_.ownsRow w.heap.size 3 1 v38 cs.length (ints (atN cs.length (ordT cs os os) (ordT cs os os).length)) ∧ i ≤ cs.length) (fun i => cs.length - i) 0 ?_ ?_ ?_
       · exact ⟨rfl, rfl, rfl, rfl, trivial⟩
       ·
        exact ⟨hL.sub (by intro b hb; first | exact hb | (simp only [mq] at hb ⊢; grind)), hO.sub (by intro b hb; first | exact hb | (simp only [mq] at hb ⊢; grind)), hbd.sub (by intro b hb; first | exact hb | (simp only [mq] at hb ⊢; grind)), hm0, ho, Nat.zero_le _⟩
       ·
        rintro i w7 ⟨hL, hO, hbd, hm0, ho, hi⟩
        refine W.seq <| W.seq <| W.region <| L.v (R1.move rfl) rfl <| L.v (R1.move rfl) rfl <| L.v (R1.lenLay rfl hL tyS22) rfl <| L.v (R1.lt rfl rfl) rfl <| L.nil <| X.seq <| W.cond rfl ?_ ?_
        ·
         intro hc90
         try simp only [bq, ne_eq] at hc90
         obtain ⟨zc, hzc⟩ : ∃ z, cs[i]? = some z := ⟨_, List.getElem?_eq_getElem (by omega)⟩
         refine W.skip <| X.seq <| W.seq <| W.block <| W.seq <| W.seq <| W.drawW (T := []) rfl (by decide +kernel) (NoHang.then (NoHang.then (NoHang.block (NoHang.then (NoHang.next (NoHang.block (NoHang.then NoHang.post))))))) (fun w8 hm8 => ?_)
         replace hL := hL.gr hm8
         replace hO := hO.gr hm8
         replace hbd := hbd.gr hm8
         replace hm0 := hm0.trans hm8
         replace ho := own_gr ho hm8 (by simp)
         have hS1 : Mod [] w8 w8 := Mod.refl _ _
         clear hm8
         refine D.take 0 rfl (by decide +kernel) (fun w_ hS => (R1.move rfl)) hS1 rfl <| D.take 1 rfl (by decide +kernel) (fun w_ hS => (R1.move rfl)) hS1 rfl <| D.take 2 rfl (by decide +kernel) (fun w_ hS => (R1.atLay (j := i) rfl rfl (Lay.gr hO hS) tyS23 rfl (by omega))) hS1 rfl <| D.take 3 rfl (by decide +kernel) (fun w_ hS => (R1.loadLI rfl (Lay.gr hO hS) tyP3 (by omega) (getD_at _))) hS1 rfl <| D.take 4 rfl (by decide +kernel) (fun w_ hS => ((R1.ge rfl rfl).asB (c := (decide (0 ≤ os.getD i 0))) (rfl))) hS1 rfl <| D.take 5 rfl (by decide +kernel) (fun w_ hS => (R1.move rfl)) hS1 rfl <| D.take 6 rfl (by decide +kernel) (fun w_ hS => (R1.move rfl)) hS1 rfl <| D.take 7 rfl (by decide +kernel) (fun w_ hS => (R1.atOwn (i := i) rfl rfl (own_gr ho hS (by simp)) tyS23 rfl (by omega))) hS1 rfl <| D.take 8 rfl (by decide +kernel) (fun w_ hS => (R1.ldLab rfl (own_gr ho hS (by simp)) (by omega) tyP3)) hS1 rfl <| D.take 9 rfl (by decide +kernel) (fun w_ hS => ((R1.gt rfl rfl).asB (c := (decide (0 < posOf (ordT cs os os) i))) (by congr 1; apply propext; rw [atN_get _ _ (by omega), List.take_length]; omega))) hS1 rfl <| D.take 10 rfl (by decide +kernel) (fun w_ hS => ((R1.neB rfl rfl tyB4).asB (c := false) (by rw [plan_in hCh (by omega)]; simp))) hS1 rfl ?_
         refine D.done (by decide +kernel) ?_ _
         refine X.seq <| W.condF rfl <| W.skip <| X.seq <| W.seq <| W.region <| L.v (R1.assign rfl) rfl <| L.nil <| X.seq <| W.block <| W.loop (ι := Nat) (fun k => [(0, .slice TL cs.length tL), (1, .slice TO os.length tO), (8, v38), (10, .int .i64 ((i : Nat) : Int)), (11, .int .i64 ((k : Nat) : Int))]) (fun k w_ => Lay rdC (ownL v38 ++ []) w_ (.slice TL cs.length tL) cs ∧ Lay rdI (ownL v38 ++ []) w_ (.slice TO os.length tO) os ∧ Bd (ownL v38 ++ []) w_ ∧ Mod [] w w_ ∧ w_.ownsRow w.heap.size 3 1 v38 cs.length (ints (atN cs.length (ordT cs os os) (ordT cs os os).length)) ∧ k ≤ zc.ts.length) (fun k => zc.ts.length - k) 0 ?_ ?_ ?_
         · exact ⟨rfl, rfl, rfl, rfl, rfl, trivial⟩
         ·
          exact ⟨hL.sub (by intro b hb; first | exact hb | (simp only [mq] at hb ⊢; grind)), hO.sub (by intro b hb; first | exact hb | (simp only [mq] at hb ⊢; grind)), hbd.sub (by intro b hb; first | exact hb | (simp only [mq] at hb ⊢; grind)), hm0, ho, Nat.zero_le _⟩
         ·
          rintro k w9 ⟨hL, hO, hbd, hm0, ho, hk⟩
          refine W.seq <| W.seq <| W.region <| L.v (R1.move rfl) rfl <| L.v (R1.move rfl) rfl <| L.v (R1.move rfl) rfl <| L.v (R1.atLay (j := i) rfl rfl hL tyS22 rfl (by omega)) rfl <| L.v (R1.fieldAddr rfl tyF43_1) rfl ?_
          obtain ⟨z109, cs109, hz109, hE109, vt109, ds109, rfl, ht109, vn109, vd109, rfl, hn109, hd109⟩ := Lay.elemQ hL (j := i) (by omega)
          obtain ⟨T109, t109, rfl⟩ := ht109.form
          obtain ⟨A109, c109, rfl⟩ := hn109.form
          obtain ⟨B109, e109, rfl⟩ := hd109.form
          obtain rfl : zc = z109 := by have h9 := hz109; rw [hzc] at h9; injection h9
          refine L.v (R1.loadEF rfl hE109 rfl tyP38) rfl <| L.v (R1.lenLay rfl ht109 tyS38) rfl <| L.v (R1.lt rfl rfl) rfl <| L.nil <| X.seq <| W.cond rfl ?_ ?_
          ·
           intro hc111
           try simp only [bq, ne_eq] at hc111
           have hmt := ht109.max; unfold maxLen at hmt
           refine W.skip <| X.seq <| W.seq <| W.block <| W.seq <| W.region <| L.v (R1.assign rfl) rfl <| L.nil <| X.seq <| W.block <| W.loop (ι := Nat) (fun j => [(0, .slice TL cs.length tL), (1, .slice TO os.length tO), (8, v38), (10, .int .i64 ((i : Nat) : Int)), (11, .int .i64 ((k : Nat) : Int)), (12, .int .i64 ((j : Nat) : Int))]) (fun j w_ => Lay rdC (ownL v38 ++ []) w_ (.slice TL cs.length tL) cs ∧ Lay rdI (ownL v38 ++ []) w_ (.slice TO os.length tO) os ∧ Bd (ownL v38 ++ []) w_ ∧ Mod [] w w_ ∧ w_.ownsRow w.heap.size 3 1 v38 cs.length (ints (atN cs.length (ordT cs os os) (ordT cs os os).length)) ∧ j ≤ cs.length) (fun j => cs.length - j) 0 ?_ ?_ ?_
           · exact ⟨rfl, rfl, rfl, rfl, rfl, rfl, trivial⟩
           ·
            exact ⟨hL.sub (by intro b hb; first | exact hb | (simp only [mq] at hb ⊢; grind)), hO.sub (by intro b hb; first | exact hb | (simp only [mq] at hb ⊢; grind)), hbd.sub (by intro b hb; first | exact hb | (simp only [mq] at hb ⊢; grind)), hm0, ho, Nat.zero_le _⟩
           ·
            rintro j w10 ⟨hL, hO, hbd, hm0, ho, hj⟩
            refine W.seq <| W.seq <| W.region <| L.v (R1.move rfl) rfl <| L.v (R1.move rfl) rfl <| L.v (R1.lenLay rfl hL tyS22) rfl <| L.v (R1.lt rfl rfl) rfl <| L.nil <| X.seq <| W.cond rfl ?_ ?_
            ·
             intro hc117
             try simp only [bq, ne_eq] at hc117
             refine W.skip <| X.seq <| W.seq <| W.block <| W.seq <| W.drawW (T := []) rfl (by decide +kernel) (NoHang.then (NoHang.block (NoHang.then (NoHang.next (NoHang.block (NoHang.block (NoHang.then (NoHang.next (NoHang.block (NoHang.block (NoHang.then (NoHang.next (NoHang.block (NoHang.then NoHang.post)))))))))))))) (fun w11 hm11 => ?_)
             replace hL := hL.gr hm11
             replace hO := hO.gr hm11
             replace hbd := hbd.gr hm11
             replace hm0 := hm0.trans hm11
             replace ho := own_gr ho hm11 (by simp)
             have hS2 : Mod [] w11 w11 := Mod.refl _ _
             clear hm11
             refine D.take 0 rfl (by decide +kernel) (fun w_ hS => (R1.move rfl)) hS2 rfl <| D.take 1 rfl (by decide +kernel) (fun w_ hS => (R1.move rfl)) hS2 rfl <| D.take 2 rfl (by decide +kernel) (fun w_ hS => ((R1.ne rfl rfl).asB (c := (decide ((j : Int) ≠ (i : Int)))) (rfl))) hS2 rfl <| D.take 3 rfl (by decide +kernel) (fun w_ hS => (R1.move rfl)) hS2 rfl ?_
             cases hgd123 : (decide ((j : Int) ≠ (i : Int)))
             ·
              try simp only [bq, ne_eq] at hgd123
              refine D.off 4 rfl rfl rfl rfl rfl (by decide +kernel) hS2 rfl <| D.off 5 rfl rfl rfl rfl rfl (by decide +kernel) hS2 rfl <| D.off 6 rfl rfl rfl rfl rfl (by decide +kernel) hS2 rfl <| D.off 7 rfl rfl rfl rfl rfl (by decide +kernel) hS2 rfl <| D.off 8 rfl rfl rfl rfl rfl (by decide +kernel) hS2 rfl <| D.take 9 rfl (by decide +kernel) (fun w_ hS => (R1.pickF rfl rfl)) hS2 rfl <| D.take 10 rfl (by decide +kernel) (fun w_ hS => (R1.move rfl)) hS2 rfl <| D.off 11 rfl rfl rfl rfl rfl (by decide +kernel) hS2 rfl <| D.off 12 rfl rfl rfl rfl rfl (by decide +kernel) hS2 rfl <| D.off 13 rfl rfl rfl rfl rfl (by decide +kernel) hS2 rfl <| D.off 14 rfl rfl rfl rfl rfl (by decide +kernel) hS2 rfl ?_
              refine D.off 15 rfl rfl rfl rfl rfl (by decide +kernel) hS2 rfl <| D.off 16 rfl rfl rfl rfl rfl (by decide +kernel) hS2 rfl <| D.off 17 rfl rfl rfl rfl rfl (by decide +kernel) hS2 rfl <| D.off 18 rfl rfl rfl rfl rfl (by decide +kernel) hS2 rfl <| D.off 19 rfl rfl rfl rfl rfl (by decide +kernel) hS2 rfl <| D.off 20 rfl rfl rfl rfl rfl (by decide +kernel) hS2 rfl <| D.off 21 rfl rfl rfl rfl rfl (by decide +kernel) hS2 rfl <| D.off 22 rfl rfl rfl rfl rfl (by decide +kernel) hS2 rfl <| D.off 23 rfl rfl rfl rfl rfl (by decide +kernel) hS2 rfl <| D.off 24 rfl rfl rfl rfl rfl (by decide +kernel) hS2 rfl <| D.take 25 rfl (by decide +kernel) (fun w_ hS => (R1.pickF rfl rfl)) hS2 rfl ?_
              refine D.take 26 rfl (by decide +kernel) (fun w_ hS => (R1.move rfl)) hS2 rfl <| D.off 27 rfl rfl rfl rfl rfl (by decide +kernel) hS2 rfl <| D.off 28 rfl rfl rfl rfl rfl (by decide +kernel) hS2 rfl <| D.off 29 rfl rfl rfl rfl rfl (by decide +kernel) hS2 rfl <| D.off 30 rfl rfl rfl rfl rfl (by decide +kernel) hS2 rfl <| D.off 31 rfl rfl rfl rfl rfl (by decide +kernel) hS2 rfl <| D.off 32 rfl rfl rfl rfl rfl (by decide +kernel) hS2 rfl <| D.off 33 rfl rfl rfl rfl rfl (by decide +kernel) hS2 rfl <| D.off 34 rfl rfl rfl rfl rfl (by decide +kernel) hS2 rfl <| D.off 35 rfl rfl rfl rfl rfl (by decide +kernel) hS2 rfl <| D.take 36 rfl (by decide +kernel) (fun w_ hS => (R1.pickF rfl rfl)) hS2 rfl ?_
              refine D.done (by decide +kernel) ?_ _
              refine X.seq <| W.condF rfl <| W.skip <| X.blockEnd <| X.seq <| W.region <| L.v (R1.move rfl) rfl <| L.v (R1.addI (b := 1) rfl rfl (by omega)) rfl <| L.v (R1.assign rfl) rfl <| L.nil <| X.next (j + 1) ?_ ?_ ?_
              · exact ⟨rfl, rfl, rfl, rfl, rfl, rfl, trivial⟩
              ·
               exact ⟨hL.sub (by intro b hb; first | exact hb | (simp only [mq] at hb ⊢; grind)), hO.sub (by intro b hb; first | exact hb | (simp only [mq] at hb ⊢; grind)), hbd.sub (by intro b hb; first | exact hb | (simp only [mq] at hb ⊢; grind)), hm0, ho, by omega⟩
              · first | omega | (dsimp only; omega)
             ·
              try simp only [bq, ne_eq] at hgd123
              refine D.takeOn 4 rfl rfl rfl rfl (by decide +kernel) (fun w_ hS => (R1.move rfl)) hS2 rfl <| D.takeOn 5 rfl rfl rfl rfl (by decide +kernel) (fun w_ hS => (R1.move rfl)) hS2 rfl <| D.takeOn 6 rfl rfl rfl rfl (by decide +kernel) (fun w_ hS => (R1.atLay (j := i) rfl rfl (Lay.gr hO hS) tyS23 rfl (by omega))) hS2 rfl <| D.takeOn 7 rfl rfl rfl rfl (by decide +kernel) (fun w_ hS => (R1.loadLI rfl (Lay.gr hO hS) tyP3 (by omega) (getD_at _))) hS2 rfl <| D.takeOn 8 rfl rfl rfl rfl (by decide +kernel) (fun w_ hS => ((R1.ge rfl rfl).asB (c := (decide (0 ≤ os.getD i 0))) (rfl))) hS2 rfl <| D.take 9 rfl (by decide +kernel) (fun w_ hS => (R1.pickT rfl rfl)) hS2 rfl <| D.take 10 rfl (by decide +kernel) (fun w_ hS => (R1.move rfl)) hS2 rfl ?_
              cases hgd130 : (decide (0 ≤ os.getD i 0))
              ·
               try simp only [bq, ne_eq] at hgd130
               refine D.off 11 rfl rfl rfl rfl rfl (by decide +kernel) hS2 rfl <| D.off 12 rfl rfl rfl rfl rfl (by decide +kernel) hS2 rfl <| D.off 13 rfl rfl rfl rfl rfl (by decide +kernel) hS2 rfl <| D.off 14 rfl rfl rfl rfl rfl (by decide +kernel) hS2 rfl <| D.off 15 rfl rfl rfl rfl rfl (by decide +kernel) hS2 rfl <| D.off 16 rfl rfl rfl rfl rfl (by decide +kernel) hS2 rfl <| D.off 17 rfl rfl rfl rfl rfl (by decide +kernel) hS2 rfl <| D.off 18 rfl rfl rfl rfl rfl (by decide +kernel) hS2 rfl <| D.off 19 rfl rfl rfl rfl rfl (by decide +kernel) hS2 rfl <| D.off 20 rfl rfl rfl rfl rfl (by decide +kernel) hS2 rfl <| D.off 21 rfl rfl rfl rfl rfl (by decide +kernel) hS2 rfl ?_
               refine D.off 22 rfl rfl rfl rfl rfl (by decide +kernel) hS2 rfl <| D.off 23 rfl rfl rfl rfl rfl (by decide +kernel) hS2 rfl <| D.off 24 rfl rfl rfl rfl rfl (by decide +kernel) hS2 rfl <| D.take 25 rfl (by decide +kernel) (fun w_ hS => (R1.pickF rfl rfl)) hS2 rfl <| D.take 26 rfl (by decide +kernel) (fun w_ hS => (R1.move rfl)) hS2 rfl <| D.off 27 rfl rfl rfl rfl rfl (by decide +kernel) hS2 rfl <| D.off 28 rfl rfl rfl rfl rfl (by decide +kernel) hS2 rfl <| D.off 29 rfl rfl rfl rfl rfl (by decide +kernel) hS2 rfl <| D.off 30 rfl rfl rfl rfl rfl (by decide +kernel) hS2 rfl <| D.off 31 rfl rfl rfl rfl rfl (by decide +kernel) hS2 rfl <| D.off 32 rfl rfl rfl rfl rfl (by decide +kernel) hS2 rfl ?_
               refine D.off 33 rfl rfl rfl rfl rfl (by decide +kernel) hS2 rfl <| D.off 34 rfl rfl rfl rfl rfl (by decide +kernel) hS2 rfl <| D.off 35 rfl rfl rfl rfl rfl (by decide +kernel) hS2 rfl <| D.take 36 rfl (by decide +kernel) (fun w_ hS => (R1.pickF rfl rfl)) hS2 rfl <| D.done (by decide +kernel) ?_ _
               refine X.seq <| W.condF rfl <| W.skip <| X.blockEnd <| X.seq <| W.region <| L.v (R1.move rfl) rfl <| L.v (R1.addI (b := 1) rfl rfl (by omega)) rfl <| L.v (R1.assign rfl) rfl <| L.nil <| X.next (j + 1) ?_ ?_ ?_
               · exact ⟨rfl, rfl, rfl, rfl, rfl, rfl, trivial⟩
               ·
                exact ⟨hL.sub (by intro b hb; first | exact hb | (simp only [mq] at hb ⊢; grind)), hO.sub (by intro b hb; first | exact hb | (simp only [mq] at hb ⊢; grind)), hbd.sub (by intro b hb; first | exact hb | (simp only [mq] at hb ⊢; grind)), hm0, ho, by omega⟩
               · first | omega | (dsimp only; omega)
              ·
               try simp only [bq, ne_eq] at hgd130
               refine D.takeOn 11 rfl rfl rfl rfl (by decide +kernel) (fun w_ hS => (R1.move rfl)) hS2 rfl <| D.takeOn 12 rfl rfl rfl rfl (by decide +kernel) (fun w_ hS => (R1.move rfl)) hS2 rfl <| D.takeOn 13 rfl rfl rfl rfl (by decide +kernel) (fun w_ hS => (R1.atLay (j := j) rfl rfl (Lay.gr hO hS) tyS23 rfl (by omega))) hS2 rfl <| D.takeOn 14 rfl rfl rfl rfl (by decide +kernel) (fun w_ hS => (R1.loadLI rfl (Lay.gr hO hS) tyP3 (by omega) (getD_at _))) hS2 rfl <| D.takeOn 15 rfl rfl rfl rfl (by decide +kernel) (fun w_ hS => (R1.move rfl)) hS2 rfl <| D.takeOn 16 rfl rfl rfl rfl (by decide +kernel) (fun w_ hS => (R1.move rfl)) hS2 rfl <| D.takeOn 17 rfl rfl rfl rfl (by decide +kernel) (fun w_ hS => (R1.atLay (j := i) rfl rfl (Lay.gr hL hS) tyS22 rfl (by omega))) hS2 rfl <| D.takeOn 18 rfl rfl rfl rfl (by decide +kernel) (fun w_ hS => (R1.fieldAddr rfl tyF43_1)) hS2 rfl ?_
               obtain ⟨z139, cs139, hz139, hE139, vt139, ds139, rfl, ht139, vn139, vd139, rfl, hn139, hd139⟩ := Lay.elemQ hL (j := i) (by omega)
               obtain ⟨T139, t139, rfl⟩ := ht139.form
               obtain ⟨A139, c139, rfl⟩ := hn139.form
               obtain ⟨B139, e139, rfl⟩ := hd139.form
               obtain rfl : zc = z139 := by have h9 := hz139; rw [hzc] at h9; injection h9
               refine D.takeOn 19 rfl rfl rfl rfl (by decide +kernel) (fun w_ hS => (R1.loadEF rfl (SlE.gr hE139 hS) rfl tyP38)) hS2 rfl <| D.takeOn 20 rfl rfl rfl rfl (by decide +kernel) (fun w_ hS => (R1.move rfl)) hS2 rfl <| D.takeOn 21 rfl rfl rfl rfl (by decide +kernel) (fun w_ hS => (R1.atLay (j := k) rfl rfl (Lay.gr ht139 hS) tyS38 rfl (by omega))) hS2 rfl <| D.takeOn 22 rfl rfl rfl rfl (by decide +kernel) (fun w_ hS => (R1.fieldAddr rfl tyF45_0)) hS2 rfl ?_
               obtain ⟨z143, cs143, hz143, hE143, ds143, rfl, vn143, vd143, rfl, hn143, hd143⟩ := Lay.elemQ ht139 (j := k) (by omega)
               obtain ⟨A143, c143, rfl⟩ := hn143.form
               obtain ⟨B143, e143, rfl⟩ := hd143.form
               refine D.takeOn 23 rfl rfl rfl rfl (by decide +kernel) (fun w_ hS => (R1.loadEF rfl (SlE.gr hE143 hS) rfl tyP3)) hS2 rfl <| D.takeOn 24 rfl rfl rfl rfl (by decide +kernel) (fun w_ hS => ((R1.eq rfl rfl).asB (c := (decide (os.getD j 0 = z143.v))) (rfl))) hS2 rfl <| D.take 25 rfl (by decide +kernel) (fun w_ hS => (R1.pickT rfl rfl)) hS2 rfl <| D.take 26 rfl (by decide +kernel) (fun w_ hS => (R1.move rfl)) hS2 rfl ?_
               cases hgd146 : (decide (os.getD j 0 = z143.v))
               ·
                try simp only [bq, ne_eq] at hgd146
                refine D.off 27 rfl rfl rfl rfl rfl (by decide +kernel) hS2 rfl <| D.off 28 rfl rfl rfl rfl rfl (by decide +kernel) hS2 rfl <| D.off 29 rfl rfl rfl rfl rfl (by decide +kernel) hS2 rfl <| D.off 30 rfl rfl rfl rfl rfl (by decide +kernel) hS2 rfl <| D.off 31 rfl rfl rfl rfl rfl (by decide +kernel) hS2 rfl <| D.off 32 rfl rfl rfl rfl rfl (by decide +kernel) hS2 rfl <| D.off 33 rfl rfl rfl rfl rfl (by decide +kernel) hS2 rfl <| D.off 34 rfl rfl rfl rfl rfl (by decide +kernel) hS2 rfl <| D.off 35 rfl rfl rfl rfl rfl (by decide +kernel) hS2 rfl <| D.take 36 rfl (by decide +kernel) (fun w_ hS => (R1.pickF rfl rfl)) hS2 rfl <| D.done (by decide +kernel) ?_ _
                refine X.seq <| W.condF rfl <| W.skip <| X.blockEnd <| X.seq <| W.region <| L.v (R1.move rfl) rfl <| L.v (R1.addI (b := 1) rfl rfl (by omega)) rfl <| L.v (R1.assign rfl) rfl <| L.nil <| X.next (j + 1) ?_ ?_ ?_
                · exact ⟨rfl, rfl, rfl, rfl, rfl, rfl, trivial⟩
                ·
                 exact ⟨hL.sub (by intro b hb; first | exact hb | (simp only [mq] at hb ⊢; grind)), hO.sub (by intro b hb; first | exact hb | (simp only [mq] at hb ⊢; grind)), hbd.sub (by intro b hb; first | exact hb | (simp only [mq] at hb ⊢; grind)), hm0, ho, by omega⟩
                · first | omega | (dsimp only; omega)
               ·
                try simp only [bq, ne_eq] at hgd146
                refine D.takeOn 27 rfl rfl rfl rfl (by decide +kernel) (fun w_ hS => (R1.move rfl)) hS2 rfl <| D.takeOn 28 rfl rfl rfl rfl (by decide +kernel) (fun w_ hS => (R1.move rfl)) hS2 rfl <| D.takeOn 29 rfl rfl rfl rfl (by decide +kernel) (fun w_ hS => (R1.atOwn (i := j) rfl rfl (own_gr ho hS (by simp)) tyS23 rfl (by omega))) hS2 rfl <| D.takeOn 30 rfl rfl rfl rfl (by decide +kernel) (fun w_ hS => (R1.ldLab rfl (own_gr ho hS (by simp)) (by omega) tyP3)) hS2 rfl <| D.takeOn 31 rfl rfl rfl rfl (by decide +kernel) (fun w_ hS => (R1.move rfl)) hS2 rfl <| D.takeOn 32 rfl rfl rfl rfl (by decide +kernel) (fun w_ hS => (R1.move rfl)) hS2 rfl <| D.takeOn 33 rfl rfl rfl rfl (by decide +kernel) (fun w_ hS => (R1.atOwn (i := i) rfl rfl (own_gr ho hS (by simp)) tyS23 rfl (by omega))) hS2 rfl <| D.takeOn 34 rfl rfl rfl rfl (by decide +kernel) (fun w_ hS => (R1.ldLab rfl (own_gr ho hS (by simp)) (by omega) tyP3)) hS2 rfl <| D.takeOn 35 rfl rfl rfl rfl (by decide +kernel) (fun w_ hS => ((R1.gt rfl rfl).asB (c := false) (decide_eq_false (by rw [atN_get _ _ (by omega), atN_get _ _ (by omega), List.take_length]; have h9 := plan_le hCh (i := i) (j := j) (t := z143) (by omega) (by omega) (by rw [getD_of_get hzc]; exact List.mem_of_getElem? hz143) (by omega) (by omega) (by omega); omega)))) hS2 rfl <| D.take 36 rfl (by decide +kernel) (fun w_ hS => (R1.pickT rfl rfl)) hS2 rfl <| D.done (by decide +kernel) ?_ _
                refine X.seq <| W.condF rfl <| W.skip <| X.blockEnd <| X.seq <| W.region <| L.v (R1.move rfl) rfl <| L.v (R1.addI (b := 1) rfl rfl (by omega)) rfl <| L.v (R1.assign rfl) rfl <| L.nil <| X.next (j + 1) ?_ ?_ ?_
                · exact ⟨rfl, rfl, rfl, rfl, rfl, rfl, trivial⟩
                ·
                 exact ⟨hL.sub (by intro b hb; first | exact hb | (simp only [mq] at hb ⊢; grind)), hO.sub (by intro b hb; first | exact hb | (simp only [mq] at hb ⊢; grind)), hbd.sub (by intro b hb; first | exact hb | (simp only [mq] at hb ⊢; grind)), hm0, ho, by omega⟩
                · first | omega | (dsimp only; omega)
            ·
             intro hc117
             try simp only [bq, ne_eq] at hc117
             obtain rfl : j = cs.length := by omega
             refine W.exit <| X.thenExit <| X.nextExit <| X.here <| X.blockEnd <| X.seq <| W.region <| L.v (R1.move rfl) rfl <| L.v (R1.addI (b := 1) rfl rfl (by omega)) rfl <| L.v (R1.assign rfl) rfl <| L.nil ?_
             refine X.next (k + 1) ?_ ?_ ?_
             · exact ⟨rfl, rfl, rfl, rfl, rfl, trivial⟩
             ·
              exact ⟨hL.sub (by intro b hb; first | exact hb | (simp only [mq] at hb ⊢; grind)), hO.sub (by intro b hb; first | exact hb | (simp only [mq] at hb ⊢; grind)), hbd.sub (by intro b hb; first | exact hb | (simp only [mq] at hb ⊢; grind)), hm0, ho, by omega⟩
             · first | omega | (dsimp only; omega)
          ·
           intro hc111
           try simp only [bq, ne_eq] at hc111
           obtain rfl : k = zc.ts.length := by omega
           refine W.exit <| X.thenExit <| X.nextExit <| X.here <| X.blockEnd <| X.seq <| W.region <| L.v (R1.move rfl) rfl <| L.v (R1.addI (b := 1) rfl rfl (by omega)) rfl <| L.v (R1.assign rfl) rfl <| L.nil ?_
           refine X.next (i + 1) ?_ ?_ ?_
           · exact ⟨rfl, rfl, rfl, rfl, trivial⟩
           ·
            exact ⟨hL.sub (by intro b hb; first | exact hb | (simp only [mq] at hb ⊢; grind)), hO.sub (by intro b hb; first | exact hb | (simp only [mq] at hb ⊢; grind)), hbd.sub (by intro b hb; first | exact hb | (simp only [mq] at hb ⊢; grind)), hm0, ho, by omega⟩
           · first | omega | (dsimp only; omega)
        ·
         intro hc90
         try simp only [bq, ne_eq] at hc90
         refine W.exit <| X.thenExit <| X.nextExit <| X.here <| X.seq <| W.seq <| W.region <| L.call rfl (c_known14) rfl ?_
         rintro _ w12 ⟨rfl, hm12⟩
         replace hm0 := hm0.trans hm12
         clear hm12
         refine L.v (R1.assign rfl) rfl <| L.nil <| X.seq <| W.ret <| X.result1 rfl (.tmp rfl .nil) ?_
         exact ⟨rfl, hm0⟩
   ·
    have hcc_ := hgd25
    refine L.off rfl rfl rfl rfl rfl <| L.off rfl rfl rfl rfl rfl <| L.off rfl rfl rfl rfl rfl <| L.off rfl rfl rfl rfl rfl <| L.off rfl rfl rfl rfl rfl <| L.v (R1.pickT rfl rfl) rfl <| L.nil <| X.seq <| W.condT rfl <| W.seq <| W.region ?_
    refine L.v (R1.assign rfl) rfl <| L.nil <| X.seq <| W.ret <| X.thenRet <| X.result1 rfl (.tmp rfl .nil) ?_
    exact ⟨rfl, hm0⟩
  ·
   have hcc_ := hgd20
   refine L.off rfl rfl rfl rfl rfl <| L.off rfl rfl rfl rfl rfl <| L.off rfl rfl rfl rfl rfl <| L.v (R1.pickT rfl rfl) rfl <| L.v (R1.move rfl) rfl <| L.off rfl rfl rfl rfl rfl <| L.off rfl rfl rfl rfl rfl <| L.off rfl rfl rfl rfl rfl <| L.off rfl rfl rfl rfl rfl <| L.off rfl rfl rfl rfl rfl <| L.v (R1.pickT rfl rfl) rfl ?_
   refine L.nil <| X.seq <| W.condT rfl <| W.seq <| W.region <| L.v (R1.assign rfl) rfl <| L.nil <| X.seq <| W.ret <| X.thenRet <| X.result1 rfl (.tmp rfl .nil) ?_
   exact ⟨rfl, hm0⟩
 ·
  have hcc_ := hgd15
  refine L.off rfl rfl rfl rfl rfl <| L.off rfl rfl rfl rfl rfl <| L.off rfl rfl rfl rfl rfl <| L.v (R1.pickT rfl rfl) rfl <| L.v (R1.move rfl) rfl <| L.off rfl rfl rfl rfl rfl <| L.off rfl rfl rfl rfl rfl <| L.off rfl rfl rfl rfl rfl <| L.v (R1.pickT rfl rfl) rfl <| L.v (R1.move rfl) rfl <| L.off rfl rfl rfl rfl rfl ?_
  refine L.off rfl rfl rfl rfl rfl <| L.off rfl rfl rfl rfl rfl <| L.off rfl rfl rfl rfl rfl <| L.off rfl rfl rfl rfl rfl <| L.v (R1.pickT rfl rfl) rfl <| L.nil <| X.seq <| W.condT rfl <| W.seq <| W.region <| L.v (R1.assign rfl) rfl ?_
  refine L.nil <| X.seq <| W.ret <| X.thenRet <| X.result1 rfl (.tmp rfl .nil) ?_
  exact ⟨rfl, hm0⟩

end Go.Proofs.Ytdfnkbdnnflcpaa
