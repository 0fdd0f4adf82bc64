/- Walks: what the functions compute. -/
import Derived.Test.YtpnhihljgkohcaaHkA
namespace Go.Proofs.Ytpnhihljgkohcaa
open Go.RowKit
set_option linter.unusedVariables false
set_option linter.unusedSimpArgs false
set_option maxRecDepth 10000
set_option maxHeartbeats 1000000 in
theorem c_HierStays {w : World} {vb : Value} {bs : List QR} {v : Int} (hvb : Lay rdQ [] w vb bs) (hbb : szQs bs ≤ 4194304) :
    Ret Try.prog 4 #[vb, .int .i64 v] w (fun r w' => r = .bool true ∧ Mod [] w w') := by
 have hbd : Bd [] w := fun m hm => by cases hm
 obtain ⟨TB, tB, rfl⟩ := hvb.form
 refine Ret.of (vs := [.slice TB bs.length tB, .int .i64 v]) (n := 50) Try.func4 rfl rfl rfl rfl ?_
 have hm0 : Mod [] w w := Mod.refl _ _
 refine W.seq <| W.region <| L.v (R1.assign rfl) rfl <| L.nil <| X.seq <| W.seq <| W.region <| L.v (R1.move rfl) rfl <| L.v (R1.lenLay rfl hvb tyS23) rfl <| L.v (R1.assign rfl) rfl <| L.nil ?_
 refine X.seq <| W.seq <| W.seq <| W.region <| L.v (R1.move rfl) rfl <| L.call rfl (c_many_pantographlaw12 hvb (hbb)) rfl ?_
 rintro _ w1 ⟨b11, rfl, hb11, hm1⟩
 replace hvb := hvb.gr hm1
 replace hbd := hbd.gr hm1
 replace hm0 := hm0.trans hm1
 clear hm1
 refine L.v (R1.move rfl) rfl ?_
 cases hgd12 : b11
 ·
  have hcc_ := hgd12
  refine L.on rfl rfl rfl (R1.move rfl) rfl <| L.on rfl rfl rfl ((R1.lt rfl rfl).asB (c := decide ((bs.length : Int) < 1)) (rfl)) rfl <| L.v (R1.pickF rfl rfl) rfl <| L.v (R1.move rfl) rfl ?_
  cases hgd16 : decide ((bs.length : Int) < 1)
  ·
   simp only [bq] at hgd16
   refine L.on rfl rfl rfl (R1.move rfl) rfl <| L.on rfl rfl rfl ((R1.gt rfl rfl).asB (c := decide (20 < (bs.length : Int))) (rfl)) rfl <| L.v (R1.pickF rfl rfl) rfl <| L.nil <| X.seq <| W.cond rfl ?_ ?_
   ·
    intro hc19
    simp only [bq] at hc19
    refine W.seq <| W.region <| L.v (R1.assign rfl) rfl <| L.nil <| X.seq <| W.ret <| X.thenRet <| X.result1 rfl (.tmp rfl .nil) ?_
    exact ⟨rfl, hm0⟩
   ·
    intro hc19
    simp only [bq] at hc19
    obtain ⟨hqb, _⟩ := hb11 hgd12
    obtain ⟨m, hm1, hm2⟩ := andI_1023 v
    refine W.skip <| X.seq <| W.seq <| W.region <| L.v (R1.move rfl) rfl <| L.v ((R1.and rfl rfl).as (j := (m : Int)) (hm1)) rfl <| L.v (R1.move rfl) rfl <| L.v (R1.remI rfl rfl (by omega)) rfl <| L.v (R1.assign rfl) rfl <| L.nil <| X.seq ?_
    refine W.seq <| W.region <| L.buildEmpty tyS23 rfl ?_
    intro g24 w2 hN24
    have ho : World.ownsRow w2 w.heap.size 31 3 (.slice (some ⟨g24, 0, none⟩) 0 0) 0 [] := ⟨rfl, .inr ⟨g24, 0, #[], rfl, New.ge hN24 hm0.size, hN24.blk, Nat.le_refl _, by decide, rfl, rfl⟩⟩
    replace hvb := hvb.new hN24
    replace hbd := hbd.new hN24
    replace hm0 := hm0.trans (hN24.mod.mono (by simp))
    clear hN24
    obtain ⟨v24, hv_v24⟩ : ∃ v, v = Value.slice (some ⟨g24, 0, none⟩) 0 0 := ⟨_, rfl⟩
    have hol_v24 : ownL v24 = [g24] := by rw [hv_v24]; rfl
    rw [← hv_v24] at ho ⊢
    replace hvb := hvb.sub (of_cons hol_v24)
    replace hbd := hbd.sub (of_cons hol_v24)
    clear hv_v24 hol_v24
    refine L.v (R1.move rfl) rfl ?_
    have hv_ := hvb
    obtain ⟨dss, hs2, hl2⟩ := hv_
    refine L.append rfl rfl ho hs2 (hl2.ones) tyS23 tyZ31 (by omega) (by unfold maxLen; omega) hm0.size rfl ?_
    intro v26 w3 ho26' hG26
    replace hvb := hvb.grew2 hG26 (by first | exact mem_own | (intro b hb; simp [hb]))
    replace hbd := hbd.grew2 hG26 (by first | exact mem_own | (intro b hb; simp [hb]))
    replace hm0 := Mod.oldOwn hm0 hG26.mod ho
    replace hl2 := hl2.grew2 hG26 (by first | exact mem_own | (intro b hb; simp [hb]))
    replace ho := ho26'; clear ho26'
    clear hG26
    replace ho := own_congr ho (Nat.zero_add _) (List.nil_append _)
    obtain ⟨kk, hkk⟩ : ∃ kk, kk = m % bs.length := ⟨_, rfl⟩
    rw [← hkk]
    have hkn : kk < bs.length := by rw [hkk]; exact Nat.mod_lt _ (by omega)
    refine L.v (R1.assign rfl) rfl <| L.nil <| X.seq <| W.seq <| W.cut (ι := QR) (fun qk => [(0, .slice TB bs.length tB), (6, .int .i64 (kk : Int)), (7, v26)]) (fun qk w_ => Lay rdQ [] w_ (.slice TB bs.length tB) bs ∧ Lay rdQ [] w_ v26 (bs.set kk (QR.nf (QR.val qk + (((1 : Int)) : Rat)))) ∧ Bd [] w_ ∧ Mod [] w w_ ∧ bs[kk]? = some qk ∧ (∀ q ∈ (bs.set kk (QR.nf (QR.val qk + (((1 : Int)) : Rat)))), SmQ 10 q)) ?_ ?_
    ·
     refine W.drawW (T := [9]) rfl (by decide +kernel) (NoHang.join (NoHang.then NoHang.post)) (fun w4 hm4 => ?_)
     replace hvb := hvb.gr hm4
     replace hbd := hbd.gr hm4
     replace hm0 := hm0.trans hm4
     replace ho := own_gr ho hm4 (by simp)
     replace hl2 := hl2.gr hm4
     have hS1 : Mod [] w4 w4 := Mod.refl _ _
     clear hm4
     have ho_s := ho
     refine D.take 0 rfl (by decide +kernel) (fun w_ hS => (R1.move rfl)) hS1 rfl <| D.take 1 rfl (by decide +kernel) (fun w_ hS => (R1.move rfl)) hS1 rfl <| D.take 2 rfl (by decide +kernel) (fun w_ hS => (R1.move rfl)) hS1 rfl <| D.take 3 rfl (by decide +kernel) (fun w_ hS => (R1.move rfl)) hS1 rfl <| D.take 4 rfl (by decide +kernel) (fun w_ hS => (R1.atOwn (i := kk) rfl rfl (own_gr ho_s hS (by simp)) tyS23 rfl (by omega))) hS1 rfl ?_
     obtain ⟨z32, cs32, hz32, hE32, vn32, vd32, rfl, hn32, hd32⟩ := own_elemQ ho rfl hl2 (j := kk) (by omega)
     obtain ⟨A32, c32, rfl⟩ := hn32.form
     obtain ⟨B32, e32, rfl⟩ := hd32.form
     refine D.take 5 rfl (by decide +kernel) (fun w_ hS => (R1.loadE rfl (SlE.gr hE32 hS) tyG31)) hS1 rfl ?_
     have F32 := fit_sm hn32 hd32 (hqb _ (List.mem_of_getElem? hz32))
     refine D.one 6 rfl (by decide +kernel) (fun hX => ?_)
     refine L.call rfl (c_ref2_Int (n := 1) (by decide) (by decide) hbd) rfl ?_
     rintro _ w5 ⟨⟨A33, c33, B33, e33, rfl, hn33, hd33⟩, hm5⟩
     replace hvb := hvb.gr hm5
     replace hbd := hbd.gr hm5
     replace hm0 := hm0.trans hm5
     replace ho := own_gr ho hm5 (by simp)
     replace hl2 := hl2.gr hm5
     replace hn32 := hn32.gr hm5
     replace hd32 := hd32.gr hm5
     replace hS1 := hS1.trans hm5
     clear hm5
     have F33 := Fit.int (n := 1) (by decide) (by decide)
     refine L.nil (hX _ _ ⟨.inr hS1, ?_⟩)
     refine D.one 7 rfl (by decide +kernel) (fun hX => ?_)
     refine L.call rfl (c_ref2_Add (qa := (QR.val z32)) (qb := (((1 : Int)) : Rat)) rfl (rv_toL _) hn32 hd32 hn33 hd33 hbd (Nat.le_trans (hqb _ (List.mem_of_getElem? hz32)).1 (by decide)) (Nat.le_trans (hqb _ (List.mem_of_getElem? hz32)).2 (by decide)) (Nat.le_trans F33.1 (by decide)) (Nat.le_trans F33.2 (by decide))) rfl ?_
     rintro _ w6 ⟨⟨A34, c34, B34, e34, rfl, hn34, hd34⟩, hm6⟩
     replace hvb := hvb.gr hm6
     replace hbd := hbd.gr hm6
     replace hm0 := hm0.trans hm6
     replace ho := own_gr ho hm6 (by simp)
     replace hl2 := hl2.gr hm6
     replace hn32 := hn32.gr hm6
     replace hd32 := hd32.gr hm6
     replace hn33 := hn33.gr hm6
     replace hd33 := hd33.gr hm6
     replace hS1 := hS1.trans hm6
     clear hm6
     have F34 := Fit.add F32 F33
     refine L.nil (hX _ _ ⟨.inr hS1, ?_⟩)
     refine D.take 8 rfl (by decide +kernel) (fun w_ hS => (R1.atOwn (i := kk) rfl rfl (own_gr ho_s hS (by simp)) tyS23 rfl (by omega))) hS1 rfl <| D.one 9 rfl (by decide +kernel) (fun hX => ?_)
     refine L.storeOwnA rfl rfl rfl ho hl2 (by first | exact mem_own | (intro b hb; simp [hb])) (by omega) ((⟨_, _, rfl, hn34, hd34⟩ : rdQ.rd _ _ _ (QR.nf (QR.val z32 + (((1 : Int)) : Rat))))) tyG31 ?_
     intro w7 ho' hl2' hm7
     replace hvb := hvb.mod hm7 (by first | exact mem_own | (intro b hb; simp [hb]))
     replace hbd := hbd.gr hm7
     replace hm0 := Mod.oldOwn hm0 hm7 ho
     replace hn32 := hn32.mod hm7 (by first | exact mem_own | (intro b hb; simp [hb]))
     replace hd32 := hd32.mod hm7 (by first | exact mem_own | (intro b hb; simp [hb]))
     replace hn33 := hn33.mod hm7 (by first | exact mem_own | (intro b hb; simp [hb]))
     replace hd33 := hd33.mod hm7 (by first | exact mem_own | (intro b hb; simp [hb]))
     replace hn34 := hn34.mod hm7 (by first | exact mem_own | (intro b hb; simp [hb]))
     replace hd34 := hd34.mod hm7 (by first | exact mem_own | (intro b hb; simp [hb]))
     clear hm7 hl2
     replace ho := ho'; clear ho'
     have hl2 := hl2'; clear hl2'
     refine L.nil (hX _ _ ⟨.inl rfl, ?_⟩)
     refine D.done (by decide +kernel) ?_ _
     refine X.join z32 ?_ ?_
     · exact ⟨rfl, rfl, rfl, trivial⟩
     ·
      have hW : Lay rdQ [] w7 v26 (bs.set kk (QR.nf (QR.val z32 + (((1 : Int)) : Rat)))) := Lay.of_own (own_congr ho (by simp) rfl) (hl2.sub (fun b hb => by cases hb)) (by simp)
      exact ⟨hvb.sub (fun b hb => by cases hb), hW, hbd.sub (fun b hb => by cases hb), hm0, hz32, fun q hq => by rcases List.mem_or_eq_of_mem_set hq with h9 | h9; exact sm310 hqb q h9; rw [h9]; exact ⟨Nat.le_trans F34.1 (by decide), Nat.le_trans F34.2 (by decide)⟩⟩
    ·
     rintro qk wj ⟨hvb, hW, hbd, hm0, hqk, hsw⟩
     refine X.seq <| W.seq <| W.region <| L.v (R1.move rfl) rfl <| L.v (R1.move rfl) rfl <| L.call rfl (c_Beaten (M := []) (cs := []) (bs := bs) (val := bs) (t := 9) Lay.nilC hvb hvb hbd (fun c h9 => by cases h9) hqb (sm310 hqb) (by decide) (by omega) (oks_stay hvb hqb (by omega))) rfl ?_
     rintro _ w8 ⟨z38, rfl, hBt38, hm8⟩
     replace hvb := hvb.gr hm8
     replace hW := hW.gr hm8
     replace hbd := hbd.gr hm8
     replace hm0 := hm0.trans hm8
     clear hm8
     refine L.v ((R1.eq rfl rfl).asB (c := true) (by rw [beat_all hBt38 (fun c h9 => by cases h9) (fun _ _ => rfl)]; rfl)) rfl <| L.v (R1.move rfl) rfl <| L.on rfl rfl rfl (R1.move rfl) rfl <| L.on rfl rfl rfl (R1.move rfl) rfl <| L.callOn rfl rfl rfl rfl (c_Beaten (M := []) (cs := []) (bs := bs) (val := (bs.set kk (QR.nf (QR.val qk + (((1 : Int)) : Rat))))) (t := 9) Lay.nilC hvb hW hbd (fun c h9 => by cases h9) hqb hsw (by decide) (by rw [List.length_set]; omega) (oks_stay hvb hqb (by rw [List.length_set]; omega))) rfl ?_
     rintro _ w9 ⟨z43, rfl, hBt43, hm9⟩
     replace hm0 := hm0.trans hm9
     clear hm9
     refine L.on rfl rfl rfl (R1.move rfl) rfl <| L.on rfl rfl rfl ((R1.eq rfl rfl).asB (c := true) (decide_eq_true (by rw [List.length_set] at hBt43; exact beat_one hBt43 hkn (fun v9 _ h9 => by rw [valOf_set hkn, if_neg h9]) (by rw [valOf_set hkn, if_pos rfl, QR.nf_val, valOf_some (by omega) (by rw [Int.toNat_natCast]; exact hqk)]; exact add_one_ne _)))) rfl <| L.v (R1.pickT rfl rfl) rfl <| L.v (R1.move rfl) rfl <| L.callOn rfl rfl rfl rfl (c_known12) rfl ?_
     rintro _ w10 ⟨rfl, hm10⟩
     replace hm0 := hm0.trans hm10
     clear hm10
     refine L.v (R1.pickT rfl rfl) rfl <| L.v (R1.assign rfl) rfl <| L.nil <| X.seq <| W.ret <| X.result1 rfl (.tmp rfl .nil) ?_
     exact ⟨rfl, hm0⟩
  ·
   simp only [bq] at hgd16
   refine L.off rfl rfl rfl rfl rfl <| L.off rfl rfl rfl rfl rfl <| L.v (R1.pickT rfl rfl) rfl <| L.nil <| X.seq <| W.condT rfl <| W.seq <| W.region <| L.v (R1.assign rfl) rfl <| L.nil <| X.seq ?_
   refine W.ret <| X.thenRet <| X.result1 rfl (.tmp rfl .nil) ?_
   exact ⟨rfl, hm0⟩
 ·
  have hcc_ := hgd12
  refine L.off rfl rfl rfl rfl rfl <| L.off rfl rfl rfl rfl rfl <| L.v (R1.pickT rfl rfl) rfl <| L.v (R1.move rfl) rfl <| L.off rfl rfl rfl rfl rfl <| L.off rfl rfl rfl rfl rfl <| L.v (R1.pickT rfl rfl) rfl <| L.nil <| X.seq <| W.condT rfl <| W.seq ?_
  refine W.region <| L.v (R1.assign rfl) rfl <| L.nil <| X.seq <| W.ret <| X.thenRet <| X.result1 rfl (.tmp rfl .nil) ?_
  exact ⟨rfl, hm0⟩

end Go.Proofs.Ytpnhihljgkohcaa
