/- Walks: what the functions compute. -/
import Derived.Test.YtjeodekhamdcmaaLawB
import Derived.Test.YtjeodekhamdcmaaRatI
import Derived.Test.YtjeodekhamdcmaaOwnI
namespace Go.Proofs.Ytjeodekhamdcmaa
open Go.RowKit
set_option linter.unusedVariables false
set_option linter.unusedSimpArgs false
set_option maxRecDepth 10000

theorem c_oneSelf {M N9 : List Nat} {w : World} {s : Bool} {an ad bn bd : Value} {xs ys : List Nat} (ha : U32 M w an xs) (ka : U32 M w ad ys) (hb : U32 N9 w bn xs) (kb : U32 N9 w bd ys) :
    Ret Try.prog 28 #[.agg #[.bool s, an, ad], .agg #[.bool s, bn, bd]] w (fun r w' => r = .bool true ∧ Mod [] w w') :=
  (c_one ha ka hb kb).mono fun r w' ⟨h1, h2⟩ => ⟨by rw [h1]; simp, h2⟩

set_option maxHeartbeats 4000000 in
theorem c_RatOwn {M : List Nat} {w : World} {sa : Bool} {an ad : Value} {xa ya : List Nat} {qa : Rat} {sb : Bool} {bn bd : Value} {xb yb : List Nat} {qb : Rat} (hqa : rv sa (val xa) (val ya) = qa) (ha : U32 M w an xa) (ka : U32 M w ad ya) (hqb : rv sb (val xb) (val yb) = qb) (hb : U32 M w bn xb) (kb : U32 M w bd yb) (hbd : Bd M w) (la : xa.length ≤ 140737488355328) (ma : ya.length ≤ 140737488355328) (lb : xb.length ≤ 140737488355328) (mb : yb.length ≤ 140737488355328) :
    Ret Try.prog 11 #[.agg #[.bool sa, an, ad], .agg #[.bool sb, bn, bd]] w (fun r w' => r = .bool true ∧ Mod [] w w') := by
  obtain ⟨Aa, ca, rfl⟩ := ha.form
  obtain ⟨Ba, da, rfl⟩ := ka.form
  obtain ⟨Ab, cb, rfl⟩ := hb.form
  obtain ⟨Bb, db, rfl⟩ := kb.form
  refine Ret.of (vs := [.agg #[.bool sa, .slice Aa xa.length ca, .slice Ba ya.length da], .agg #[.bool sb, .slice Ab xb.length cb, .slice Bb yb.length db]]) (n := 78) Try.func11 rfl rfl rfl rfl ?_
  have hm0 : Mod [] w w := Mod.refl _ _
  refine W.seq ?_
  refine W.region ?_
  refine L.box rfl rfl ?_
  intro g2 w1 hN2
  replace ha := ha.new hN2
  replace ka := ka.new hN2
  replace hb := hb.new hN2
  replace kb := kb.new hN2
  replace hbd := hbd.new hN2
  have hge_g2 := New.ge hN2 hm0.size
  replace hm0 := hm0.trans (hN2.mod.mono (by simp))
  have hb2 := hN2.blk
  clear hN2
  refine L.box rfl rfl ?_
  intro g3 w2 hN3
  replace ha := ha.new hN3
  replace ka := ka.new hN3
  replace hb := hb.new hN3
  replace kb := kb.new hN3
  replace hbd := hbd.new hN3
  have hge_g3 := New.ge hN3 hm0.size
  replace hm0 := hm0.trans (hN3.mod.mono (by simp))
  have hne_g2_g3 := hb2.ne_ hN3
  replace hb2 := Blk.gr hb2 hN3.mod
  have hb3 := hN3.blk
  clear hN3
  refine L.v (R1.assign rfl) rfl ?_
  refine L.nil ?_
  refine X.seq ?_
  refine W.seq ?_
  refine W.seq ?_
  refine W.region ?_
  refine L.v (R1.loadBox rfl hb2 tyG27) rfl ?_
  refine L.v (R1.loadBox rfl hb3 tyG27) rfl ?_
  refine L.buildSlice (cells := [.bool sa, .slice Aa xa.length ca, .slice Ba ya.length da, .bool sb, .slice Ab xb.length cb, .slice Bb yb.length db]) rfl tyS63 tyZ27 (fillQ2 _ _ _ _ _ _ _ _ _ _ _ _ _ _) (by decide) (by decide) rfl ?_
  intro g12 w3 hN12
  replace ha := ha.new hN12
  replace ka := ka.new hN12
  replace hb := hb.new hN12
  replace kb := kb.new hN12
  replace hbd := hbd.new hN12
  have hge_g12 := New.ge hN12 hm0.size
  replace hm0 := hm0.trans (hN12.mod.mono (by simp))
  have hne_g2_g12 := hb2.ne_ hN12
  replace hb2 := Blk.gr hb2 hN12.mod
  have hne_g3_g12 := hb3.ne_ hN12
  replace hb3 := Blk.gr hb3 hN12.mod
  have hb12 := hN12.blk
  clear hN12
  have hr9 : ∀ i, i < 2 → ∃ A c B d, (#[.bool sa, .slice Aa xa.length ca, .slice Ba ya.length da, .bool sb, .slice Ab xb.length cb, .slice Bb yb.length db] : Array Value)[i * 3 + 1]? = some (.slice A ((fun i => [xa.length, xb.length].getD i 0) i) c) ∧ (#[.bool sa, .slice Aa xa.length ca, .slice Ba ya.length da, .bool sb, .slice Ab xb.length cb, .slice Bb yb.length db] : Array Value)[i * 3 + 2]? = some (.slice B ((fun i => [ya.length, yb.length].getD i 0) i) d) := fun i hi => by
      match i, hi with
      | 0, _ => exact ⟨_, _, _, _, rfl, rfl⟩
      | 1, _ => exact ⟨_, _, _, _, rfl, rfl⟩
  have hl9 : ∀ i, i < 2 → (fun i => [xa.length, xb.length].getD i 0) i ≤ 140737488355328 ∧ (fun i => [ya.length, yb.length].getD i 0) i ≤ 140737488355328 := fun i hi => by
      match i, hi with
      | 0, _ => exact ⟨la, ma⟩
      | 1, _ => exact ⟨lb, mb⟩
  refine L.call rfl (c_big (ln := (fun i => [xa.length, xb.length].getD i 0)) (ld := (fun i => [ya.length, yb.length].getD i 0)) hb12 hr9 hl9 (by decide)) rfl ?_
  rintro _ w4 ⟨b13, rfl, hbig, hm4⟩
  replace ha := ha.gr hm4
  replace ka := ka.gr hm4
  replace hb := hb.gr hm4
  replace kb := kb.gr hm4
  replace hbd := hbd.gr hm4
  replace hm0 := hm0.trans hm4
  replace hb2 := Blk.gr hb2 hm4
  replace hb3 := Blk.gr hb3 hm4
  replace hb12 := Blk.gr hb12 hm4
  clear hm4
  refine L.nil ?_
  refine X.seq ?_
  refine W.cond rfl ?_ ?_
  ·
    intro hc13
    have hcc_ := hc13
    refine W.seq ?_
    refine W.region ?_
    refine L.v (R1.assign rfl) rfl ?_
    refine L.nil ?_
    refine X.seq ?_
    refine W.ret ?_
    refine X.thenRet ?_
    refine X.result1 rfl (.tmp rfl .nil) ?_
    exact ⟨rfl, hm0⟩
  ·
    intro hc13
    have hcc_ := hc13
    have za := hbig hc13 0 (by decide)
    change xa.length ≤ 16 ∧ ya.length ≤ 16 at za
    have FA : Fit qa 17 := Fit.rv hqa ha.2 ka.2 za.1 za.2
    have zb := hbig hc13 1 (by decide)
    change xb.length ≤ 16 ∧ yb.length ≤ 16 at zb
    have FB : Fit qb 17 := Fit.rv hqb hb.2 kb.2 zb.1 zb.2
    refine W.skip ?_
    refine X.seq ?_
    refine W.seq ?_
    refine W.cut (ι := Nat × Option Addr × Nat × Option Addr × Nat) (fun (g5, A19, c19, A23, c23) => [(2, .pointer (some ⟨g2, 0, none⟩)), (3, .pointer (some ⟨g3, 0, none⟩)), (4, .bool false), (5, .pointer (some ⟨g5, 0, none⟩))]) (fun (g5, A19, c19, A23, c23) w_ => World.ownsRow w_ w.heap.size 51 1 (Value.slice A19 xa.length c19) xa.length (xa.map fun (z : Nat) => Value.int .u32 (z : Int)) ∧ World.ownsRow w_ w.heap.size 51 1 (Value.slice A23 ya.length c23) ya.length (ya.map fun (z : Nat) => Value.int .u32 (z : Int)) ∧ Away (Value.slice A19 xa.length c19) (Value.slice A23 ya.length c23) ∧ (Value.slice A19 xa.length c19).ownBlock ≠ some g2 ∧ (Value.slice A19 xa.length c19).ownBlock ≠ some g3 ∧ (Value.slice A19 xa.length c19).ownBlock ≠ some g5 ∧ (Value.slice A23 ya.length c23).ownBlock ≠ some g2 ∧ (Value.slice A23 ya.length c23).ownBlock ≠ some g3 ∧ (Value.slice A23 ya.length c23).ownBlock ≠ some g5 ∧ Blk w_ g2 27 #[.bool sa, .slice Aa xa.length ca, .slice Ba ya.length da] ∧ Blk w_ g3 27 #[.bool sb, .slice Ab xb.length cb, .slice Bb yb.length db] ∧ Blk w_ g5 27 #[.bool sa, .slice A19 xa.length c19, .slice A23 ya.length c23] ∧ U32 (ownL (Value.slice A19 xa.length c19) ++ (ownL (Value.slice A23 ya.length c23) ++ M)) w_ (.slice Aa xa.length ca) xa ∧ U32 (ownL (Value.slice A19 xa.length c19) ++ (ownL (Value.slice A23 ya.length c23) ++ M)) w_ (.slice Ba ya.length da) ya ∧ U32 (ownL (Value.slice A19 xa.length c19) ++ (ownL (Value.slice A23 ya.length c23) ++ M)) w_ (.slice Ab xb.length cb) xb ∧ U32 (ownL (Value.slice A19 xa.length c19) ++ (ownL (Value.slice A23 ya.length c23) ++ M)) w_ (.slice Bb yb.length db) yb ∧ Bd (ownL (Value.slice A19 xa.length c19) ++ (ownL (Value.slice A23 ya.length c23) ++ M)) w_ ∧ Mod [] w w_) ?_ ?_
    ·
      refine W.drawW (T := [12]) rfl (by decide +kernel) (NoHang.join NoHang.post) (fun w5 hm5 => ?_)
      replace ha := ha.gr hm5
      replace ka := ka.gr hm5
      replace hb := hb.gr hm5
      replace kb := kb.gr hm5
      replace hbd := hbd.gr hm5
      replace hm0 := hm0.trans hm5
      replace hb2 := Blk.gr hb2 hm5
      replace hb3 := Blk.gr hb3 hm5
      replace hb12 := Blk.gr hb12 hm5
      have hS1 : Mod [] w5 w5 := Mod.refl _ _
      clear hm5
      have hb2_s := hb2
      have hb3_s := hb3
      have hb12_s := hb12
      refine D.take 0 rfl (by decide +kernel) (fun w_ hS => (R1.fieldAt rfl tyF27_0)) hS1 rfl ?_
      refine D.take 1 rfl (by decide +kernel) (fun w_ hS => (R1.loadFld rfl (Blk.gr hb2_s hS) rfl tyP4)) hS1 rfl ?_
      refine D.take 3 rfl (by decide +kernel) (fun w_ hS => (R1.fieldAt rfl tyF27_1)) hS1 rfl ?_
      refine D.take 4 rfl (by decide +kernel) (fun w_ hS => (R1.loadFld rfl (Blk.gr hb2_s hS) rfl tyP25)) hS1 rfl ?_
      refine D.take 7 rfl (by decide +kernel) (fun w_ hS => (R1.fieldAt rfl tyF27_2)) hS1 rfl ?_
      refine D.take 8 rfl (by decide +kernel) (fun w_ hS => (R1.loadFld rfl (Blk.gr hb2_s hS) rfl tyP25)) hS1 rfl ?_
      refine D.many (rs := [2, 6, 11]) (by decide +kernel) rfl ?_
      intro i_ hi_
      simp only [List.mem_cons, List.not_mem_nil, or_false] at hi_
      rcases hi_ with rfl | rfl | rfl
      ·
        refine ⟨_, rfl, fun hX => ?_⟩
        refine L.buildEmpty tyS25 rfl ?_
        intro g16 w6 hN16
        have hgs_g16 := New.ge hN16 hS1.size
        replace hS1 := hS1.trans hN16.mod
        have ho1 : World.ownsRow w6 w.heap.size 51 1 (.slice (some ⟨g16, 0, none⟩) 0 0) 0 [] := ⟨rfl, .inr ⟨g16, 0, #[], rfl, New.ge hN16 hm0.size, hN16.blk, Nat.le_refl _, by decide, rfl, rfl⟩⟩
        replace ha := ha.new hN16
        replace ka := ka.new hN16
        replace hb := hb.new hN16
        replace kb := kb.new hN16
        replace hbd := hbd.new hN16
        replace hm0 := hm0.trans (hN16.mod.mono (by simp))
        have hno_ho1_g2 : (Value.slice (some ⟨g16, 0, none⟩) 0 0).ownBlock ≠ some g2 := own_ne_new' (hb2.ne_ hN16)
        replace hb2 := Blk.gr hb2 hN16.mod
        have hno_ho1_g3 : (Value.slice (some ⟨g16, 0, none⟩) 0 0).ownBlock ≠ some g3 := own_ne_new' (hb3.ne_ hN16)
        replace hb3 := Blk.gr hb3 hN16.mod
        have hno_ho1_g12 : (Value.slice (some ⟨g16, 0, none⟩) 0 0).ownBlock ≠ some g12 := own_ne_new' (hb12.ne_ hN16)
        replace hb12 := Blk.gr hb12 hN16.mod
        clear hN16
        obtain ⟨v16, hv_v16⟩ : ∃ v, v = Value.slice (some ⟨g16, 0, none⟩) 0 0 := ⟨_, rfl⟩
        have hol_v16 : ownL v16 = [g16] := by rw [hv_v16]; rfl
        have hgs_v16 : ∀ g, v16.ownBlock = some g → _ ≤ g := fun g h9 => by rw [hv_v16] at h9; simp only [Value.ownBlock, Option.some.injEq] at h9; subst h9; exact hgs_g16
        rw [← hv_v16] at ho1 ⊢
        replace ha := ha.sub (of_cons hol_v16)
        replace ka := ka.sub (of_cons hol_v16)
        replace hb := hb.sub (of_cons hol_v16)
        replace kb := kb.sub (of_cons hol_v16)
        replace hbd := hbd.sub (of_cons hol_v16)
        rw [← hv_v16] at hno_ho1_g2
        rw [← hv_v16] at hno_ho1_g3
        rw [← hv_v16] at hno_ho1_g12
        clear hv_v16 hol_v16
        refine L.nil (hX _ _ ⟨.inr hS1, ?_⟩)
        refine D.many (rs := [5, 6, 11]) (by decide +kernel) rfl ?_
        intro i_ hi_
        simp only [List.mem_cons, List.not_mem_nil, or_false] at hi_
        rcases hi_ with rfl | rfl | rfl
        ·
          refine ⟨_, rfl, fun hX => ?_⟩
          refine L.append rfl rfl ho1 ha.1 (by simp [Value.oneCell']) tyS25 tyZ51 (by omega) (by unfold maxLen; omega) hm0.size rfl ?_
          intro v19 w7 ho19' hG19
          replace ha := ha.grew2 hG19 (by first | exact mem_own | (intro b hb; simp [hb]))
          replace ka := ka.grew2 hG19 (by first | exact mem_own | (intro b hb; simp [hb]))
          replace hb := hb.grew2 hG19 (by first | exact mem_own | (intro b hb; simp [hb]))
          replace kb := kb.grew2 hG19 (by first | exact mem_own | (intro b hb; simp [hb]))
          replace hbd := hbd.grew2 hG19 (by first | exact mem_own | (intro b hb; simp [hb]))
          replace hm0 := Mod.oldOwn hm0 hG19.mod ho1
          have hnn_g2 := hG19.ne hno_ho1_g2 hb2
          replace hb2 := Blk.grew hb2 hG19 hno_ho1_g2
          replace hno_ho1_g2 := hnn_g2
          have hnn_g3 := hG19.ne hno_ho1_g3 hb3
          replace hb3 := Blk.grew hb3 hG19 hno_ho1_g3
          replace hno_ho1_g3 := hnn_g3
          have hnn_g12 := hG19.ne hno_ho1_g12 hb12
          replace hb12 := Blk.grew hb12 hG19 hno_ho1_g12
          replace hno_ho1_g12 := hnn_g12
          replace ho1 := ho19'; clear ho19'
          replace hS1 := hS1.grew hG19 (hgs_v16)
          clear hG19
          refine L.nil (hX _ _ ⟨.inr hS1, ?_⟩)
          refine D.many (rs := [6, 11]) (by decide +kernel) rfl ?_
          intro i_ hi_
          simp only [List.mem_cons, List.not_mem_nil, or_false] at hi_
          rcases hi_ with rfl | rfl
          ·
            refine ⟨_, rfl, fun hX => ?_⟩
            refine L.buildEmpty tyS25 rfl ?_
            intro g20 w8 hN20
            have hgs_g20 := New.ge hN20 hS1.size
            replace hS1 := hS1.trans hN20.mod
            have ho2 : World.ownsRow w8 w.heap.size 51 1 (.slice (some ⟨g20, 0, none⟩) 0 0) 0 [] := ⟨rfl, .inr ⟨g20, 0, #[], rfl, New.ge hN20 hm0.size, hN20.blk, Nat.le_refl _, by decide, rfl, rfl⟩⟩
            replace ha := ha.new hN20
            replace ka := ka.new hN20
            replace hb := hb.new hN20
            replace kb := kb.new hN20
            replace hbd := hbd.new hN20
            replace hm0 := hm0.trans (hN20.mod.mono (by simp))
            have hno_ho2_g2 : (Value.slice (some ⟨g20, 0, none⟩) 0 0).ownBlock ≠ some g2 := own_ne_new' (hb2.ne_ hN20)
            replace hb2 := Blk.gr hb2 hN20.mod
            have hno_ho2_g3 : (Value.slice (some ⟨g20, 0, none⟩) 0 0).ownBlock ≠ some g3 := own_ne_new' (hb3.ne_ hN20)
            replace hb3 := Blk.gr hb3 hN20.mod
            have hno_ho2_g12 : (Value.slice (some ⟨g20, 0, none⟩) 0 0).ownBlock ≠ some g12 := own_ne_new' (hb12.ne_ hN20)
            replace hb12 := Blk.gr hb12 hN20.mod
            have haw_ho1_ho2 : Away _ (.slice (some ⟨g20, 0, none⟩) 0 0) := own_away_new ho1 hN20
            replace ho1 := own_gr ho1 hN20.mod (by simp)
            clear hN20
            obtain ⟨v20, hv_v20⟩ : ∃ v, v = Value.slice (some ⟨g20, 0, none⟩) 0 0 := ⟨_, rfl⟩
            have hol_v20 : ownL v20 = [g20] := by rw [hv_v20]; rfl
            have hgs_v20 : ∀ g, v20.ownBlock = some g → _ ≤ g := fun g h9 => by rw [hv_v20] at h9; simp only [Value.ownBlock, Option.some.injEq] at h9; subst h9; exact hgs_g20
            rw [← hv_v20] at ho2 ⊢
            replace ha := ha.sub (of_cons hol_v20)
            replace ka := ka.sub (of_cons hol_v20)
            replace hb := hb.sub (of_cons hol_v20)
            replace kb := kb.sub (of_cons hol_v20)
            replace hbd := hbd.sub (of_cons hol_v20)
            rw [← hv_v20] at hno_ho2_g2
            rw [← hv_v20] at hno_ho2_g3
            rw [← hv_v20] at hno_ho2_g12
            rw [← hv_v20] at haw_ho1_ho2
            clear hv_v20 hol_v20
            refine L.nil (hX _ _ ⟨.inr hS1, ?_⟩)
            refine D.many (rs := [9, 11]) (by decide +kernel) rfl ?_
            intro i_ hi_
            simp only [List.mem_cons, List.not_mem_nil, or_false] at hi_
            rcases hi_ with rfl | rfl
            ·
              refine ⟨_, rfl, fun hX => ?_⟩
              refine L.append rfl rfl ho2 ka.1 (by simp [Value.oneCell']) tyS25 tyZ51 (by omega) (by unfold maxLen; omega) hm0.size rfl ?_
              intro v23 w9 ho23' hG23
              have haw_ho1_ho2_ := Away.grew haw_ho1_ho2 hG23 ho1
              replace ha := ha.grew2 hG23 (by first | exact mem_own | (intro b hb; simp [hb]))
              replace ka := ka.grew2 hG23 (by first | exact mem_own | (intro b hb; simp [hb]))
              replace hb := hb.grew2 hG23 (by first | exact mem_own | (intro b hb; simp [hb]))
              replace kb := kb.grew2 hG23 (by first | exact mem_own | (intro b hb; simp [hb]))
              replace hbd := hbd.grew2 hG23 (by first | exact mem_own | (intro b hb; simp [hb]))
              replace hm0 := Mod.oldOwn hm0 hG23.mod ho2
              have hnn_g2 := hG23.ne hno_ho2_g2 hb2
              replace hb2 := Blk.grew hb2 hG23 hno_ho2_g2
              replace hno_ho2_g2 := hnn_g2
              have hnn_g3 := hG23.ne hno_ho2_g3 hb3
              replace hb3 := Blk.grew hb3 hG23 hno_ho2_g3
              replace hno_ho2_g3 := hnn_g3
              have hnn_g12 := hG23.ne hno_ho2_g12 hb12
              replace hb12 := Blk.grew hb12 hG23 hno_ho2_g12
              replace hno_ho2_g12 := hnn_g12
              replace ho1 := own_away (s' := 1) (el' := 0) (k' := 0) (B' := 0) (ys := []) ho1 hG23.mod (by first | assumption | exact Away.symm (by assumption))
              replace haw_ho1_ho2 := haw_ho1_ho2_; clear haw_ho1_ho2_
              replace ho2 := ho23'; clear ho23'
              replace hS1 := hS1.grew hG23 (hgs_v20)
              clear hG23
              refine L.nil (hX _ _ ⟨.inr hS1, ?_⟩)
              replace ho1 := own_congr ho1 (Nat.zero_add _) (List.nil_append _)
              replace ho2 := own_congr ho2 (Nat.zero_add _) (List.nil_append _)
              obtain ⟨A19, c19, rfl⟩ := own_form ho1
              obtain ⟨A23, c23, rfl⟩ := own_form ho2
              refine D.take 10 rfl (by decide +kernel) (fun w_ hS => (R1.build rfl (built_Q012 _ _ _ _ _ _ _))) hS1 rfl ?_
              refine D.one 11 rfl (by decide +kernel) (fun hX => ?_)
              refine L.alloc tyZ27 rfl ?_
              intro g5 w10 hN5
              replace hS1 := hS1.trans hN5.mod
              replace ha := ha.new hN5
              replace ka := ka.new hN5
              replace hb := hb.new hN5
              replace kb := kb.new hN5
              replace hbd := hbd.new hN5
              have hge_g5 := New.ge hN5 hm0.size
              replace hm0 := hm0.trans (hN5.mod.mono (by simp))
              have hne_g2_g5 := hb2.ne_ hN5
              replace hb2 := Blk.gr hb2 hN5.mod
              have hne_g3_g5 := hb3.ne_ hN5
              replace hb3 := Blk.gr hb3 hN5.mod
              have hne_g12_g5 := hb12.ne_ hN5
              replace hb12 := Blk.gr hb12 hN5.mod
              have hno_ho1_g5 := own_ne_new ho1 hN5
              replace ho1 := own_gr ho1 hN5.mod (by simp)
              have hno_ho2_g5 := own_ne_new ho2 hN5
              replace ho2 := own_gr ho2 hN5.mod (by simp)
              have hb5 := hN5.blk
              clear hN5
              refine L.nil (hX _ _ ⟨.inr hS1, ?_⟩)
              refine D.one 12 rfl (by decide +kernel) (fun hX => ?_)
              refine L.storeBox rfl rfl hb5 rfl rfl tyG27 ?_
              intro w11 hb5' hm11
              replace ha := ha.mod hm11 (by simp)
              replace ka := ka.mod hm11 (by simp)
              replace hb := hb.mod hm11 (by simp)
              replace kb := kb.mod hm11 (by simp)
              replace hbd := hbd.gr hm11
              replace hm0 := hm0.old1 hm11 hge_g5
              replace hb2 := Blk.far hb2 hm11 (by first | exact hne_g2_g5 | exact (hne_g5_g2).symm)
              replace hb3 := Blk.far hb3 hm11 (by first | exact hne_g3_g5 | exact (hne_g5_g3).symm)
              replace hb12 := Blk.far hb12 hm11 (by first | exact hne_g12_g5 | exact (hne_g5_g12).symm)
              replace ho1 := own_far ho1 hm11 hno_ho1_g5
              replace ho2 := own_far ho2 hm11 hno_ho2_g5
              clear hm11
              replace hb5 := hb5'; clear hb5'
              refine L.nil (hX _ _ ⟨.inl rfl, ?_⟩)
              refine D.done (by decide +kernel) ?_ _
              refine X.join (g5, A19, c19, A23, c23) ?_ ?_
              · exact ⟨rfl, rfl, rfl, rfl, trivial⟩
              ·
                exact ⟨ho1, ho2, (by first | exact haw_ho1_ho2 | exact haw_ho2_ho1.symm), hno_ho1_g2, hno_ho1_g3, hno_ho1_g5, hno_ho2_g2, hno_ho2_g3, hno_ho2_g5, hb2, hb3, hb5, ha.sub (by intro b hb; simp only [List.mem_append, List.mem_cons] at hb ⊢; rcases hb with hb | hb | hb <;> simp [hb]), ka.sub (by intro b hb; simp only [List.mem_append, List.mem_cons] at hb ⊢; rcases hb with hb | hb | hb <;> simp [hb]), hb.sub (by intro b hb; simp only [List.mem_append, List.mem_cons] at hb ⊢; rcases hb with hb | hb | hb <;> simp [hb]), kb.sub (by intro b hb; simp only [List.mem_append, List.mem_cons] at hb ⊢; rcases hb with hb | hb | hb <;> simp [hb]), (fun m hm => hbd m (by simp only [List.mem_append, List.mem_cons] at hm ⊢; rcases hm with hm | hm | hm <;> simp [hm])), hm0⟩
            ·
              refine ⟨_, rfl, fun hX => ?_⟩
              refine L.alloc tyZ27 rfl ?_
              intro g5 w12 hN5
              replace hS1 := hS1.trans hN5.mod
              replace ha := ha.new hN5
              replace ka := ka.new hN5
              replace hb := hb.new hN5
              replace kb := kb.new hN5
              replace hbd := hbd.new hN5
              have hge_g5 := New.ge hN5 hm0.size
              replace hm0 := hm0.trans (hN5.mod.mono (by simp))
              have hne_g2_g5 := hb2.ne_ hN5
              replace hb2 := Blk.gr hb2 hN5.mod
              have hne_g3_g5 := hb3.ne_ hN5
              replace hb3 := Blk.gr hb3 hN5.mod
              have hne_g12_g5 := hb12.ne_ hN5
              replace hb12 := Blk.gr hb12 hN5.mod
              have hno_ho1_g5 := own_ne_new ho1 hN5
              replace ho1 := own_gr ho1 hN5.mod (by simp)
              have hno_ho2_g5 := own_ne_new ho2 hN5
              replace ho2 := own_gr ho2 hN5.mod (by simp)
              have hb5 := hN5.blk
              clear hN5
              refine L.nil (hX _ _ ⟨.inr hS1, ?_⟩)
              refine D.one 9 rfl (by decide +kernel) (fun hX => ?_)
              refine L.append rfl rfl ho2 ka.1 (by simp [Value.oneCell']) tyS25 tyZ51 (by omega) (by unfold maxLen; omega) hm0.size rfl ?_
              intro v23 w13 ho23' hG23
              have haw_ho1_ho2_ := Away.grew haw_ho1_ho2 hG23 ho1
              replace ha := ha.grew2 hG23 (by first | exact mem_own | (intro b hb; simp [hb]))
              replace ka := ka.grew2 hG23 (by first | exact mem_own | (intro b hb; simp [hb]))
              replace hb := hb.grew2 hG23 (by first | exact mem_own | (intro b hb; simp [hb]))
              replace kb := kb.grew2 hG23 (by first | exact mem_own | (intro b hb; simp [hb]))
              replace hbd := hbd.grew2 hG23 (by first | exact mem_own | (intro b hb; simp [hb]))
              replace hm0 := Mod.oldOwn hm0 hG23.mod ho2
              have hnn_g2 := hG23.ne hno_ho2_g2 hb2
              replace hb2 := Blk.grew hb2 hG23 hno_ho2_g2
              replace hno_ho2_g2 := hnn_g2
              have hnn_g3 := hG23.ne hno_ho2_g3 hb3
              replace hb3 := Blk.grew hb3 hG23 hno_ho2_g3
              replace hno_ho2_g3 := hnn_g3
              have hnn_g12 := hG23.ne hno_ho2_g12 hb12
              replace hb12 := Blk.grew hb12 hG23 hno_ho2_g12
              replace hno_ho2_g12 := hnn_g12
              replace ho1 := own_away (s' := 1) (el' := 0) (k' := 0) (B' := 0) (ys := []) ho1 hG23.mod (by first | assumption | exact Away.symm (by assumption))
              have hnn_g5 := hG23.ne hno_ho2_g5 hb5
              replace hb5 := Blk.grew hb5 hG23 hno_ho2_g5
              replace hno_ho2_g5 := hnn_g5
              replace haw_ho1_ho2 := haw_ho1_ho2_; clear haw_ho1_ho2_
              replace ho2 := ho23'; clear ho23'
              replace hS1 := hS1.grew hG23 (hgs_v20)
              clear hG23
              refine L.nil (hX _ _ ⟨.inr hS1, ?_⟩)
              replace ho1 := own_congr ho1 (Nat.zero_add _) (List.nil_append _)
              replace ho2 := own_congr ho2 (Nat.zero_add _) (List.nil_append _)
              obtain ⟨A19, c19, rfl⟩ := own_form ho1
              obtain ⟨A23, c23, rfl⟩ := own_form ho2
              refine D.take 10 rfl (by decide +kernel) (fun w_ hS => (R1.build rfl (built_Q012 _ _ _ _ _ _ _))) hS1 rfl ?_
              refine D.one 12 rfl (by decide +kernel) (fun hX => ?_)
              refine L.storeBox rfl rfl hb5 rfl rfl tyG27 ?_
              intro w14 hb5' hm14
              replace ha := ha.mod hm14 (by simp)
              replace ka := ka.mod hm14 (by simp)
              replace hb := hb.mod hm14 (by simp)
              replace kb := kb.mod hm14 (by simp)
              replace hbd := hbd.gr hm14
              replace hm0 := hm0.old1 hm14 hge_g5
              replace hb2 := Blk.far hb2 hm14 (by first | exact hne_g2_g5 | exact (hne_g5_g2).symm)
              replace hb3 := Blk.far hb3 hm14 (by first | exact hne_g3_g5 | exact (hne_g5_g3).symm)
              replace hb12 := Blk.far hb12 hm14 (by first | exact hne_g12_g5 | exact (hne_g5_g12).symm)
              replace ho1 := own_far ho1 hm14 hno_ho1_g5
              replace ho2 := own_far ho2 hm14 hno_ho2_g5
              clear hm14
              replace hb5 := hb5'; clear hb5'
              refine L.nil (hX _ _ ⟨.inl rfl, ?_⟩)
              refine D.done (by decide +kernel) ?_ _
              refine X.join (g5, A19, c19, A23, c23) ?_ ?_
              · exact ⟨rfl, rfl, rfl, rfl, trivial⟩
              ·
                exact ⟨ho1, ho2, (by first | exact haw_ho1_ho2 | exact haw_ho2_ho1.symm), hno_ho1_g2, hno_ho1_g3, hno_ho1_g5, hno_ho2_g2, hno_ho2_g3, hno_ho2_g5, hb2, hb3, hb5, ha.sub (by intro b hb; simp only [List.mem_append, List.mem_cons] at hb ⊢; rcases hb with hb | hb | hb <;> simp [hb]), ka.sub (by intro b hb; simp only [List.mem_append, List.mem_cons] at hb ⊢; rcases hb with hb | hb | hb <;> simp [hb]), hb.sub (by intro b hb; simp only [List.mem_append, List.mem_cons] at hb ⊢; rcases hb with hb | hb | hb <;> simp [hb]), kb.sub (by intro b hb; simp only [List.mem_append, List.mem_cons] at hb ⊢; rcases hb with hb | hb | hb <;> simp [hb]), (fun m hm => hbd m (by simp only [List.mem_append, List.mem_cons] at hm ⊢; rcases hm with hm | hm | hm <;> simp [hm])), hm0⟩
          ·
            refine ⟨_, rfl, fun hX => ?_⟩
            refine L.alloc tyZ27 rfl ?_
            intro g5 w15 hN5
            replace hS1 := hS1.trans hN5.mod
            replace ha := ha.new hN5
            replace ka := ka.new hN5
            replace hb := hb.new hN5
            replace kb := kb.new hN5
            replace hbd := hbd.new hN5
            have hge_g5 := New.ge hN5 hm0.size
            replace hm0 := hm0.trans (hN5.mod.mono (by simp))
            have hne_g2_g5 := hb2.ne_ hN5
            replace hb2 := Blk.gr hb2 hN5.mod
            have hne_g3_g5 := hb3.ne_ hN5
            replace hb3 := Blk.gr hb3 hN5.mod
            have hne_g12_g5 := hb12.ne_ hN5
            replace hb12 := Blk.gr hb12 hN5.mod
            have hno_ho1_g5 := own_ne_new ho1 hN5
            replace ho1 := own_gr ho1 hN5.mod (by simp)
            have hb5 := hN5.blk
            clear hN5
            refine L.nil (hX _ _ ⟨.inr hS1, ?_⟩)
            refine D.one 6 rfl (by decide +kernel) (fun hX => ?_)
            refine L.buildEmpty tyS25 rfl ?_
            intro g20 w16 hN20
            have hgs_g20 := New.ge hN20 hS1.size
            replace hS1 := hS1.trans hN20.mod
            have ho2 : World.ownsRow w16 w.heap.size 51 1 (.slice (some ⟨g20, 0, none⟩) 0 0) 0 [] := ⟨rfl, .inr ⟨g20, 0, #[], rfl, New.ge hN20 hm0.size, hN20.blk, Nat.le_refl _, by decide, rfl, rfl⟩⟩
            replace ha := ha.new hN20
            replace ka := ka.new hN20
            replace hb := hb.new hN20
            replace kb := kb.new hN20
            replace hbd := hbd.new hN20
            replace hm0 := hm0.trans (hN20.mod.mono (by simp))
            have hno_ho2_g2 : (Value.slice (some ⟨g20, 0, none⟩) 0 0).ownBlock ≠ some g2 := own_ne_new' (hb2.ne_ hN20)
            replace hb2 := Blk.gr hb2 hN20.mod
            have hno_ho2_g3 : (Value.slice (some ⟨g20, 0, none⟩) 0 0).ownBlock ≠ some g3 := own_ne_new' (hb3.ne_ hN20)
            replace hb3 := Blk.gr hb3 hN20.mod
            have hno_ho2_g12 : (Value.slice (some ⟨g20, 0, none⟩) 0 0).ownBlock ≠ some g12 := own_ne_new' (hb12.ne_ hN20)
            replace hb12 := Blk.gr hb12 hN20.mod
            have haw_ho1_ho2 : Away _ (.slice (some ⟨g20, 0, none⟩) 0 0) := own_away_new ho1 hN20
            replace ho1 := own_gr ho1 hN20.mod (by simp)
            have hno_ho2_g5 : (Value.slice (some ⟨g20, 0, none⟩) 0 0).ownBlock ≠ some g5 := own_ne_new' (hb5.ne_ hN20)
            replace hb5 := Blk.gr hb5 hN20.mod
            clear hN20
            obtain ⟨v20, hv_v20⟩ : ∃ v, v = Value.slice (some ⟨g20, 0, none⟩) 0 0 := ⟨_, rfl⟩
            have hol_v20 : ownL v20 = [g20] := by rw [hv_v20]; rfl
            have hgs_v20 : ∀ g, v20.ownBlock = some g → _ ≤ g := fun g h9 => by rw [hv_v20] at h9; simp only [Value.ownBlock, Option.some.injEq] at h9; subst h9; exact hgs_g20
            rw [← hv_v20] at ho2 ⊢
            replace ha := ha.sub (of_cons hol_v20)
            replace ka := ka.sub (of_cons hol_v20)
            replace hb := hb.sub (of_cons hol_v20)
            replace kb := kb.sub (of_cons hol_v20)
            replace hbd := hbd.sub (of_cons hol_v20)
            rw [← hv_v20] at hno_ho2_g2
            rw [← hv_v20] at hno_ho2_g3
            rw [← hv_v20] at hno_ho2_g12
            rw [← hv_v20] at haw_ho1_ho2
            rw [← hv_v20] at hno_ho2_g5
            clear hv_v20 hol_v20
            refine L.nil (hX _ _ ⟨.inr hS1, ?_⟩)
            refine D.one 9 rfl (by decide +kernel) (fun hX => ?_)
            refine L.append rfl rfl ho2 ka.1 (by simp [Value.oneCell']) tyS25 tyZ51 (by omega) (by unfold maxLen; omega) hm0.size rfl ?_
            intro v23 w17 ho23' hG23
            have haw_ho1_ho2_ := Away.grew haw_ho1_ho2 hG23 ho1
            replace ha := ha.grew2 hG23 (by first | exact mem_own | (intro b hb; simp [hb]))
            replace ka := ka.grew2 hG23 (by first | exact mem_own | (intro b hb; simp [hb]))
            replace hb := hb.grew2 hG23 (by first | exact mem_own | (intro b hb; simp [hb]))
            replace kb := kb.grew2 hG23 (by first | exact mem_own | (intro b hb; simp [hb]))
            replace hbd := hbd.grew2 hG23 (by first | exact mem_own | (intro b hb; simp [hb]))
            replace hm0 := Mod.oldOwn hm0 hG23.mod ho2
            have hnn_g2 := hG23.ne hno_ho2_g2 hb2
            replace hb2 := Blk.grew hb2 hG23 hno_ho2_g2
            replace hno_ho2_g2 := hnn_g2
            have hnn_g3 := hG23.ne hno_ho2_g3 hb3
            replace hb3 := Blk.grew hb3 hG23 hno_ho2_g3
            replace hno_ho2_g3 := hnn_g3
            have hnn_g12 := hG23.ne hno_ho2_g12 hb12
            replace hb12 := Blk.grew hb12 hG23 hno_ho2_g12
            replace hno_ho2_g12 := hnn_g12
            replace ho1 := own_away (s' := 1) (el' := 0) (k' := 0) (B' := 0) (ys := []) ho1 hG23.mod (by first | assumption | exact Away.symm (by assumption))
            have hnn_g5 := hG23.ne hno_ho2_g5 hb5
            replace hb5 := Blk.grew hb5 hG23 hno_ho2_g5
            replace hno_ho2_g5 := hnn_g5
            replace haw_ho1_ho2 := haw_ho1_ho2_; clear haw_ho1_ho2_
            replace ho2 := ho23'; clear ho23'
            replace hS1 := hS1.grew hG23 (hgs_v20)
            clear hG23
            refine L.nil (hX _ _ ⟨.inr hS1, ?_⟩)
            replace ho1 := own_congr ho1 (Nat.zero_add _) (List.nil_append _)
            replace ho2 := own_congr ho2 (Nat.zero_add _) (List.nil_append _)
            obtain ⟨A19, c19, rfl⟩ := own_form ho1
            obtain ⟨A23, c23, rfl⟩ := own_form ho2
            refine D.take 10 rfl (by decide +kernel) (fun w_ hS => (R1.build rfl (built_Q012 _ _ _ _ _ _ _))) hS1 rfl ?_
            refine D.one 12 rfl (by decide +kernel) (fun hX => ?_)
            refine L.storeBox rfl rfl hb5 rfl rfl tyG27 ?_
            intro w18 hb5' hm18
            replace ha := ha.mod hm18 (by simp)
            replace ka := ka.mod hm18 (by simp)
            replace hb := hb.mod hm18 (by simp)
            replace kb := kb.mod hm18 (by simp)
            replace hbd := hbd.gr hm18
            replace hm0 := hm0.old1 hm18 hge_g5
            replace hb2 := Blk.far hb2 hm18 (by first | exact hne_g2_g5 | exact (hne_g5_g2).symm)
            replace hb3 := Blk.far hb3 hm18 (by first | exact hne_g3_g5 | exact (hne_g5_g3).symm)
            replace hb12 := Blk.far hb12 hm18 (by first | exact hne_g12_g5 | exact (hne_g5_g12).symm)
            replace ho1 := own_far ho1 hm18 hno_ho1_g5
            replace ho2 := own_far ho2 hm18 hno_ho2_g5
            clear hm18
            replace hb5 := hb5'; clear hb5'
            refine L.nil (hX _ _ ⟨.inl rfl, ?_⟩)
            refine D.done (by decide +kernel) ?_ _
            refine X.join (g5, A19, c19, A23, c23) ?_ ?_
            · exact ⟨rfl, rfl, rfl, rfl, trivial⟩
            ·
              exact ⟨ho1, ho2, (by first | exact haw_ho1_ho2 | exact haw_ho2_ho1.symm), hno_ho1_g2, hno_ho1_g3, hno_ho1_g5, hno_ho2_g2, hno_ho2_g3, hno_ho2_g5, hb2, hb3, hb5, ha.sub (by intro b hb; simp only [List.mem_append, List.mem_cons] at hb ⊢; rcases hb with hb | hb | hb <;> simp [hb]), ka.sub (by intro b hb; simp only [List.mem_append, List.mem_cons] at hb ⊢; rcases hb with hb | hb | hb <;> simp [hb]), hb.sub (by intro b hb; simp only [List.mem_append, List.mem_cons] at hb ⊢; rcases hb with hb | hb | hb <;> simp [hb]), kb.sub (by intro b hb; simp only [List.mem_append, List.mem_cons] at hb ⊢; rcases hb with hb | hb | hb <;> simp [hb]), (fun m hm => hbd m (by simp only [List.mem_append, List.mem_cons] at hm ⊢; rcases hm with hm | hm | hm <;> simp [hm])), hm0⟩
        ·
          refine ⟨_, rfl, fun hX => ?_⟩
          refine L.buildEmpty tyS25 rfl ?_
          intro g20 w19 hN20
          have hgs_g20 := New.ge hN20 hS1.size
          replace hS1 := hS1.trans hN20.mod
          have ho2 : World.ownsRow w19 w.heap.size 51 1 (.slice (some ⟨g20, 0, none⟩) 0 0) 0 [] := ⟨rfl, .inr ⟨g20, 0, #[], rfl, New.ge hN20 hm0.size, hN20.blk, Nat.le_refl _, by decide, rfl, rfl⟩⟩
          replace ha := ha.new hN20
          replace ka := ka.new hN20
          replace hb := hb.new hN20
          replace kb := kb.new hN20
          replace hbd := hbd.new hN20
          replace hm0 := hm0.trans (hN20.mod.mono (by simp))
          have hno_ho2_g2 : (Value.slice (some ⟨g20, 0, none⟩) 0 0).ownBlock ≠ some g2 := own_ne_new' (hb2.ne_ hN20)
          replace hb2 := Blk.gr hb2 hN20.mod
          have hno_ho2_g3 : (Value.slice (some ⟨g20, 0, none⟩) 0 0).ownBlock ≠ some g3 := own_ne_new' (hb3.ne_ hN20)
          replace hb3 := Blk.gr hb3 hN20.mod
          have hno_ho2_g12 : (Value.slice (some ⟨g20, 0, none⟩) 0 0).ownBlock ≠ some g12 := own_ne_new' (hb12.ne_ hN20)
          replace hb12 := Blk.gr hb12 hN20.mod
          have haw_ho1_ho2 : Away _ (.slice (some ⟨g20, 0, none⟩) 0 0) := own_away_new ho1 hN20
          replace ho1 := own_gr ho1 hN20.mod (by simp)
          clear hN20
          obtain ⟨v20, hv_v20⟩ : ∃ v, v = Value.slice (some ⟨g20, 0, none⟩) 0 0 := ⟨_, rfl⟩
          have hol_v20 : ownL v20 = [g20] := by rw [hv_v20]; rfl
          have hgs_v20 : ∀ g, v20.ownBlock = some g → _ ≤ g := fun g h9 => by rw [hv_v20] at h9; simp only [Value.ownBlock, Option.some.injEq] at h9; subst h9; exact hgs_g20
          rw [← hv_v20] at ho2 ⊢
          replace ha := ha.sub (of_cons hol_v20)
          replace ka := ka.sub (of_cons hol_v20)
          replace hb := hb.sub (of_cons hol_v20)
          replace kb := kb.sub (of_cons hol_v20)
          replace hbd := hbd.sub (of_cons hol_v20)
          rw [← hv_v20] at hno_ho2_g2
          rw [← hv_v20] at hno_ho2_g3
          rw [← hv_v20] at hno_ho2_g12
          rw [← hv_v20] at haw_ho1_ho2
          clear hv_v20 hol_v20
          refine L.nil (hX _ _ ⟨.inr hS1, ?_⟩)
          refine D.many (rs := [5, 11]) (by decide +kernel) rfl ?_
          intro i_ hi_
          simp only [List.mem_cons, List.not_mem_nil, or_false] at hi_
          rcases hi_ with rfl | rfl
          ·
            refine ⟨_, rfl, fun hX => ?_⟩
            refine L.append rfl rfl ho1 ha.1 (by simp [Value.oneCell']) tyS25 tyZ51 (by omega) (by unfold maxLen; omega) hm0.size rfl ?_
            intro v19 w20 ho19' hG19
            have haw_ho1_ho2_ := (Away.grew haw_ho1_ho2.symm hG19 ho2).symm
            replace ha := ha.grew2 hG19 (by first | exact mem_own | (intro b hb; simp [hb]))
            replace ka := ka.grew2 hG19 (by first | exact mem_own | (intro b hb; simp [hb]))
            replace hb := hb.grew2 hG19 (by first | exact mem_own | (intro b hb; simp [hb]))
            replace kb := kb.grew2 hG19 (by first | exact mem_own | (intro b hb; simp [hb]))
            replace hbd := hbd.grew2 hG19 (by first | exact mem_own | (intro b hb; simp [hb]))
            replace hm0 := Mod.oldOwn hm0 hG19.mod ho1
            have hnn_g2 := hG19.ne hno_ho1_g2 hb2
            replace hb2 := Blk.grew hb2 hG19 hno_ho1_g2
            replace hno_ho1_g2 := hnn_g2
            have hnn_g3 := hG19.ne hno_ho1_g3 hb3
            replace hb3 := Blk.grew hb3 hG19 hno_ho1_g3
            replace hno_ho1_g3 := hnn_g3
            have hnn_g12 := hG19.ne hno_ho1_g12 hb12
            replace hb12 := Blk.grew hb12 hG19 hno_ho1_g12
            replace hno_ho1_g12 := hnn_g12
            replace ho2 := own_away (s' := 1) (el' := 0) (k' := 0) (B' := 0) (ys := []) ho2 hG19.mod (by first | assumption | exact Away.symm (by assumption))
            replace haw_ho1_ho2 := haw_ho1_ho2_; clear haw_ho1_ho2_
            replace ho1 := ho19'; clear ho19'
            replace hS1 := hS1.grew hG19 (hgs_v16)
            clear hG19
            refine L.nil (hX _ _ ⟨.inr hS1, ?_⟩)
            refine D.many (rs := [9, 11]) (by decide +kernel) rfl ?_
            intro i_ hi_
            simp only [List.mem_cons, List.not_mem_nil, or_false] at hi_
            rcases hi_ with rfl | rfl
            ·
              refine ⟨_, rfl, fun hX => ?_⟩
              refine L.append rfl rfl ho2 ka.1 (by simp [Value.oneCell']) tyS25 tyZ51 (by omega) (by unfold maxLen; omega) hm0.size rfl ?_
              intro v23 w21 ho23' hG23
              have haw_ho1_ho2_ := Away.grew haw_ho1_ho2 hG23 ho1
              replace ha := ha.grew2 hG23 (by first | exact mem_own | (intro b hb; simp [hb]))
              replace ka := ka.grew2 hG23 (by first | exact mem_own | (intro b hb; simp [hb]))
              replace hb := hb.grew2 hG23 (by first | exact mem_own | (intro b hb; simp [hb]))
              replace kb := kb.grew2 hG23 (by first | exact mem_own | (intro b hb; simp [hb]))
              replace hbd := hbd.grew2 hG23 (by first | exact mem_own | (intro b hb; simp [hb]))
              replace hm0 := Mod.oldOwn hm0 hG23.mod ho2
              have hnn_g2 := hG23.ne hno_ho2_g2 hb2
              replace hb2 := Blk.grew hb2 hG23 hno_ho2_g2
              replace hno_ho2_g2 := hnn_g2
              have hnn_g3 := hG23.ne hno_ho2_g3 hb3
              replace hb3 := Blk.grew hb3 hG23 hno_ho2_g3
              replace hno_ho2_g3 := hnn_g3
              have hnn_g12 := hG23.ne hno_ho2_g12 hb12
              replace hb12 := Blk.grew hb12 hG23 hno_ho2_g12
              replace hno_ho2_g12 := hnn_g12
              replace ho1 := own_away (s' := 1) (el' := 0) (k' := 0) (B' := 0) (ys := []) ho1 hG23.mod (by first | assumption | exact Away.symm (by assumption))
              replace haw_ho1_ho2 := haw_ho1_ho2_; clear haw_ho1_ho2_
              replace ho2 := ho23'; clear ho23'
              replace hS1 := hS1.grew hG23 (hgs_v20)
              clear hG23
              refine L.nil (hX _ _ ⟨.inr hS1, ?_⟩)
              replace ho1 := own_congr ho1 (Nat.zero_add _) (List.nil_append _)
              replace ho2 := own_congr ho2 (Nat.zero_add _) (List.nil_append _)
              obtain ⟨A19, c19, rfl⟩ := own_form ho1
              obtain ⟨A23, c23, rfl⟩ := own_form ho2
              refine D.take 10 rfl (by decide +kernel) (fun w_ hS => (R1.build rfl (built_Q012 _ _ _ _ _ _ _))) hS1 rfl ?_
              refine D.one 11 rfl (by decide +kernel) (fun hX => ?_)
              refine L.alloc tyZ27 rfl ?_
              intro g5 w22 hN5
              replace hS1 := hS1.trans hN5.mod
              replace ha := ha.new hN5
              replace ka := ka.new hN5
              replace hb := hb.new hN5
              replace kb := kb.new hN5
              replace hbd := hbd.new hN5
              have hge_g5 := New.ge hN5 hm0.size
              replace hm0 := hm0.trans (hN5.mod.mono (by simp))
              have hne_g2_g5 := hb2.ne_ hN5
              replace hb2 := Blk.gr hb2 hN5.mod
              have hne_g3_g5 := hb3.ne_ hN5
              replace hb3 := Blk.gr hb3 hN5.mod
              have hne_g12_g5 := hb12.ne_ hN5
              replace hb12 := Blk.gr hb12 hN5.mod
              have hno_ho1_g5 := own_ne_new ho1 hN5
              replace ho1 := own_gr ho1 hN5.mod (by simp)
              have hno_ho2_g5 := own_ne_new ho2 hN5
              replace ho2 := own_gr ho2 hN5.mod (by simp)
              have hb5 := hN5.blk
              clear hN5
              refine L.nil (hX _ _ ⟨.inr hS1, ?_⟩)
              refine D.one 12 rfl (by decide +kernel) (fun hX => ?_)
              refine L.storeBox rfl rfl hb5 rfl rfl tyG27 ?_
              intro w23 hb5' hm23
              replace ha := ha.mod hm23 (by simp)
              replace ka := ka.mod hm23 (by simp)
              replace hb := hb.mod hm23 (by simp)
              replace kb := kb.mod hm23 (by simp)
              replace hbd := hbd.gr hm23
              replace hm0 := hm0.old1 hm23 hge_g5
              replace hb2 := Blk.far hb2 hm23 (by first | exact hne_g2_g5 | exact (hne_g5_g2).symm)
              replace hb3 := Blk.far hb3 hm23 (by first | exact hne_g3_g5 | exact (hne_g5_g3).symm)
              replace hb12 := Blk.far hb12 hm23 (by first | exact hne_g12_g5 | exact (hne_g5_g12).symm)
              replace ho1 := own_far ho1 hm23 hno_ho1_g5
              replace ho2 := own_far ho2 hm23 hno_ho2_g5
              clear hm23
              replace hb5 := hb5'; clear hb5'
              refine L.nil (hX _ _ ⟨.inl rfl, ?_⟩)
              refine D.done (by decide +kernel) ?_ _
              refine X.join (g5, A19, c19, A23, c23) ?_ ?_
              · exact ⟨rfl, rfl, rfl, rfl, trivial⟩
              ·
                exact ⟨ho1, ho2, (by first | exact haw_ho1_ho2 | exact haw_ho2_ho1.symm), hno_ho1_g2, hno_ho1_g3, hno_ho1_g5, hno_ho2_g2, hno_ho2_g3, hno_ho2_g5, hb2, hb3, hb5, ha.sub (by intro b hb; simp only [List.mem_append, List.mem_cons] at hb ⊢; rcases hb with hb | hb | hb <;> simp [hb]), ka.sub (by intro b hb; simp only [List.mem_append, List.mem_cons] at hb ⊢; rcases hb with hb | hb | hb <;> simp [hb]), hb.sub (by intro b hb; simp only [List.mem_append, List.mem_cons] at hb ⊢; rcases hb with hb | hb | hb <;> simp [hb]), kb.sub (by intro b hb; simp only [List.mem_append, List.mem_cons] at hb ⊢; rcases hb with hb | hb | hb <;> simp [hb]), (fun m hm => hbd m (by simp only [List.mem_append, List.mem_cons] at hm ⊢; rcases hm with hm | hm | hm <;> simp [hm])), hm0⟩
            ·
              refine ⟨_, rfl, fun hX => ?_⟩
              refine L.alloc tyZ27 rfl ?_
              intro g5 w24 hN5
              replace hS1 := hS1.trans hN5.mod
              replace ha := ha.new hN5
              replace ka := ka.new hN5
              replace hb := hb.new hN5
              replace kb := kb.new hN5
              replace hbd := hbd.new hN5
              have hge_g5 := New.ge hN5 hm0.size
              replace hm0 := hm0.trans (hN5.mod.mono (by simp))
              have hne_g2_g5 := hb2.ne_ hN5
              replace hb2 := Blk.gr hb2 hN5.mod
              have hne_g3_g5 := hb3.ne_ hN5
              replace hb3 := Blk.gr hb3 hN5.mod
              have hne_g12_g5 := hb12.ne_ hN5
              replace hb12 := Blk.gr hb12 hN5.mod
              have hno_ho1_g5 := own_ne_new ho1 hN5
              replace ho1 := own_gr ho1 hN5.mod (by simp)
              have hno_ho2_g5 := own_ne_new ho2 hN5
              replace ho2 := own_gr ho2 hN5.mod (by simp)
              have hb5 := hN5.blk
              clear hN5
              refine L.nil (hX _ _ ⟨.inr hS1, ?_⟩)
              refine D.one 9 rfl (by decide +kernel) (fun hX => ?_)
              refine L.append rfl rfl ho2 ka.1 (by simp [Value.oneCell']) tyS25 tyZ51 (by omega) (by unfold maxLen; omega) hm0.size rfl ?_
              intro v23 w25 ho23' hG23
              have haw_ho1_ho2_ := Away.grew haw_ho1_ho2 hG23 ho1
              replace ha := ha.grew2 hG23 (by first | exact mem_own | (intro b hb; simp [hb]))
              replace ka := ka.grew2 hG23 (by first | exact mem_own | (intro b hb; simp [hb]))
              replace hb := hb.grew2 hG23 (by first | exact mem_own | (intro b hb; simp [hb]))
              replace kb := kb.grew2 hG23 (by first | exact mem_own | (intro b hb; simp [hb]))
              replace hbd := hbd.grew2 hG23 (by first | exact mem_own | (intro b hb; simp [hb]))
              replace hm0 := Mod.oldOwn hm0 hG23.mod ho2
              have hnn_g2 := hG23.ne hno_ho2_g2 hb2
              replace hb2 := Blk.grew hb2 hG23 hno_ho2_g2
              replace hno_ho2_g2 := hnn_g2
              have hnn_g3 := hG23.ne hno_ho2_g3 hb3
              replace hb3 := Blk.grew hb3 hG23 hno_ho2_g3
              replace hno_ho2_g3 := hnn_g3
              have hnn_g12 := hG23.ne hno_ho2_g12 hb12
              replace hb12 := Blk.grew hb12 hG23 hno_ho2_g12
              replace hno_ho2_g12 := hnn_g12
              replace ho1 := own_away (s' := 1) (el' := 0) (k' := 0) (B' := 0) (ys := []) ho1 hG23.mod (by first | assumption | exact Away.symm (by assumption))
              have hnn_g5 := hG23.ne hno_ho2_g5 hb5
              replace hb5 := Blk.grew hb5 hG23 hno_ho2_g5
              replace hno_ho2_g5 := hnn_g5
              replace haw_ho1_ho2 := haw_ho1_ho2_; clear haw_ho1_ho2_
              replace ho2 := ho23'; clear ho23'
              replace hS1 := hS1.grew hG23 (hgs_v20)
              clear hG23
              refine L.nil (hX _ _ ⟨.inr hS1, ?_⟩)
              replace ho1 := own_congr ho1 (Nat.zero_add _) (List.nil_append _)
              replace ho2 := own_congr ho2 (Nat.zero_add _) (List.nil_append _)
              obtain ⟨A19, c19, rfl⟩ := own_form ho1
              obtain ⟨A23, c23, rfl⟩ := own_form ho2
              refine D.take 10 rfl (by decide +kernel) (fun w_ hS => (R1.build rfl (built_Q012 _ _ _ _ _ _ _))) hS1 rfl ?_
              refine D.one 12 rfl (by decide +kernel) (fun hX => ?_)
              refine L.storeBox rfl rfl hb5 rfl rfl tyG27 ?_
              intro w26 hb5' hm26
              replace ha := ha.mod hm26 (by simp)
              replace ka := ka.mod hm26 (by simp)
              replace hb := hb.mod hm26 (by simp)
              replace kb := kb.mod hm26 (by simp)
              replace hbd := hbd.gr hm26
              replace hm0 := hm0.old1 hm26 hge_g5
              replace hb2 := Blk.far hb2 hm26 (by first | exact hne_g2_g5 | exact (hne_g5_g2).symm)
              replace hb3 := Blk.far hb3 hm26 (by first | exact hne_g3_g5 | exact (hne_g5_g3).symm)
              replace hb12 := Blk.far hb12 hm26 (by first | exact hne_g12_g5 | exact (hne_g5_g12).symm)
              replace ho1 := own_far ho1 hm26 hno_ho1_g5
              replace ho2 := own_far ho2 hm26 hno_ho2_g5
              clear hm26
              replace hb5 := hb5'; clear hb5'
              refine L.nil (hX _ _ ⟨.inl rfl, ?_⟩)
              refine D.done (by decide +kernel) ?_ _
              refine X.join (g5, A19, c19, A23, c23) ?_ ?_
              · exact ⟨rfl, rfl, rfl, rfl, trivial⟩
              ·
                exact ⟨ho1, ho2, (by first | exact haw_ho1_ho2 | exact haw_ho2_ho1.symm), hno_ho1_g2, hno_ho1_g3, hno_ho1_g5, hno_ho2_g2, hno_ho2_g3, hno_ho2_g5, hb2, hb3, hb5, ha.sub (by intro b hb; simp only [List.mem_append, List.mem_cons] at hb ⊢; rcases hb with hb | hb | hb <;> simp [hb]), ka.sub (by intro b hb; simp only [List.mem_append, List.mem_cons] at hb ⊢; rcases hb with hb | hb | hb <;> simp [hb]), hb.sub (by intro b hb; simp only [List.mem_append, List.mem_cons] at hb ⊢; rcases hb with hb | hb | hb <;> simp [hb]), kb.sub (by intro b hb; simp only [List.mem_append, List.mem_cons] at hb ⊢; rcases hb with hb | hb | hb <;> simp [hb]), (fun m hm => hbd m (by simp only [List.mem_append, List.mem_cons] at hm ⊢; rcases hm with hm | hm | hm <;> simp [hm])), hm0⟩
          ·
            refine ⟨_, rfl, fun hX => ?_⟩
            refine L.alloc tyZ27 rfl ?_
            intro g5 w27 hN5
            replace hS1 := hS1.trans hN5.mod
            replace ha := ha.new hN5
            replace ka := ka.new hN5
            replace hb := hb.new hN5
            replace kb := kb.new hN5
            replace hbd := hbd.new hN5
            have hge_g5 := New.ge hN5 hm0.size
            replace hm0 := hm0.trans (hN5.mod.mono (by simp))
            have hne_g2_g5 := hb2.ne_ hN5
            replace hb2 := Blk.gr hb2 hN5.mod
            have hne_g3_g5 := hb3.ne_ hN5
            replace hb3 := Blk.gr hb3 hN5.mod
            have hne_g12_g5 := hb12.ne_ hN5
            replace hb12 := Blk.gr hb12 hN5.mod
            have hno_ho1_g5 := own_ne_new ho1 hN5
            replace ho1 := own_gr ho1 hN5.mod (by simp)
            have hno_ho2_g5 := own_ne_new ho2 hN5
            replace ho2 := own_gr ho2 hN5.mod (by simp)
            have hb5 := hN5.blk
            clear hN5
            refine L.nil (hX _ _ ⟨.inr hS1, ?_⟩)
            refine D.one 5 rfl (by decide +kernel) (fun hX => ?_)
            refine L.append rfl rfl ho1 ha.1 (by simp [Value.oneCell']) tyS25 tyZ51 (by omega) (by unfold maxLen; omega) hm0.size rfl ?_
            intro v19 w28 ho19' hG19
            have haw_ho1_ho2_ := (Away.grew haw_ho1_ho2.symm hG19 ho2).symm
            replace ha := ha.grew2 hG19 (by first | exact mem_own | (intro b hb; simp [hb]))
            replace ka := ka.grew2 hG19 (by first | exact mem_own | (intro b hb; simp [hb]))
            replace hb := hb.grew2 hG19 (by first | exact mem_own | (intro b hb; simp [hb]))
            replace kb := kb.grew2 hG19 (by first | exact mem_own | (intro b hb; simp [hb]))
            replace hbd := hbd.grew2 hG19 (by first | exact mem_own | (intro b hb; simp [hb]))
            replace hm0 := Mod.oldOwn hm0 hG19.mod ho1
            have hnn_g2 := hG19.ne hno_ho1_g2 hb2
            replace hb2 := Blk.grew hb2 hG19 hno_ho1_g2
            replace hno_ho1_g2 := hnn_g2
            have hnn_g3 := hG19.ne hno_ho1_g3 hb3
            replace hb3 := Blk.grew hb3 hG19 hno_ho1_g3
            replace hno_ho1_g3 := hnn_g3
            have hnn_g12 := hG19.ne hno_ho1_g12 hb12
            replace hb12 := Blk.grew hb12 hG19 hno_ho1_g12
            replace hno_ho1_g12 := hnn_g12
            replace ho2 := own_away (s' := 1) (el' := 0) (k' := 0) (B' := 0) (ys := []) ho2 hG19.mod (by first | assumption | exact Away.symm (by assumption))
            have hnn_g5 := hG19.ne hno_ho1_g5 hb5
            replace hb5 := Blk.grew hb5 hG19 hno_ho1_g5
            replace hno_ho1_g5 := hnn_g5
            replace haw_ho1_ho2 := haw_ho1_ho2_; clear haw_ho1_ho2_
            replace ho1 := ho19'; clear ho19'
            replace hS1 := hS1.grew hG19 (hgs_v16)
            clear hG19
            refine L.nil (hX _ _ ⟨.inr hS1, ?_⟩)
            refine D.one 9 rfl (by decide +kernel) (fun hX => ?_)
            refine L.append rfl rfl ho2 ka.1 (by simp [Value.oneCell']) tyS25 tyZ51 (by omega) (by unfold maxLen; omega) hm0.size rfl ?_
            intro v23 w29 ho23' hG23
            have haw_ho1_ho2_ := Away.grew haw_ho1_ho2 hG23 ho1
            replace ha := ha.grew2 hG23 (by first | exact mem_own | (intro b hb; simp [hb]))
            replace ka := ka.grew2 hG23 (by first | exact mem_own | (intro b hb; simp [hb]))
            replace hb := hb.grew2 hG23 (by first | exact mem_own | (intro b hb; simp [hb]))
            replace kb := kb.grew2 hG23 (by first | exact mem_own | (intro b hb; simp [hb]))
            replace hbd := hbd.grew2 hG23 (by first | exact mem_own | (intro b hb; simp [hb]))
            replace hm0 := Mod.oldOwn hm0 hG23.mod ho2
            have hnn_g2 := hG23.ne hno_ho2_g2 hb2
            replace hb2 := Blk.grew hb2 hG23 hno_ho2_g2
            replace hno_ho2_g2 := hnn_g2
            have hnn_g3 := hG23.ne hno_ho2_g3 hb3
            replace hb3 := Blk.grew hb3 hG23 hno_ho2_g3
            replace hno_ho2_g3 := hnn_g3
            have hnn_g12 := hG23.ne hno_ho2_g12 hb12
            replace hb12 := Blk.grew hb12 hG23 hno_ho2_g12
            replace hno_ho2_g12 := hnn_g12
            replace ho1 := own_away (s' := 1) (el' := 0) (k' := 0) (B' := 0) (ys := []) ho1 hG23.mod (by first | assumption | exact Away.symm (by assumption))
            have hnn_g5 := hG23.ne hno_ho2_g5 hb5
            replace hb5 := Blk.grew hb5 hG23 hno_ho2_g5
            replace hno_ho2_g5 := hnn_g5
            replace haw_ho1_ho2 := haw_ho1_ho2_; clear haw_ho1_ho2_
            replace ho2 := ho23'; clear ho23'
            replace hS1 := hS1.grew hG23 (hgs_v20)
            clear hG23
            refine L.nil (hX _ _ ⟨.inr hS1, ?_⟩)
            replace ho1 := own_congr ho1 (Nat.zero_add _) (List.nil_append _)
            replace ho2 := own_congr ho2 (Nat.zero_add _) (List.nil_append _)
            obtain ⟨A19, c19, rfl⟩ := own_form ho1
            obtain ⟨A23, c23, rfl⟩ := own_form ho2
            refine D.take 10 rfl (by decide +kernel) (fun w_ hS => (R1.build rfl (built_Q012 _ _ _ _ _ _ _))) hS1 rfl ?_
            refine D.one 12 rfl (by decide +kernel) (fun hX => ?_)
            refine L.storeBox rfl rfl hb5 rfl rfl tyG27 ?_
            intro w30 hb5' hm30
            replace ha := ha.mod hm30 (by simp)
            replace ka := ka.mod hm30 (by simp)
            replace hb := hb.mod hm30 (by simp)
            replace kb := kb.mod hm30 (by simp)
            replace hbd := hbd.gr hm30
            replace hm0 := hm0.old1 hm30 hge_g5
            replace hb2 := Blk.far hb2 hm30 (by first | exact hne_g2_g5 | exact (hne_g5_g2).symm)
            replace hb3 := Blk.far hb3 hm30 (by first | exact hne_g3_g5 | exact (hne_g5_g3).symm)
            replace hb12 := Blk.far hb12 hm30 (by first | exact hne_g12_g5 | exact (hne_g5_g12).symm)
            replace ho1 := own_far ho1 hm30 hno_ho1_g5
            replace ho2 := own_far ho2 hm30 hno_ho2_g5
            clear hm30
            replace hb5 := hb5'; clear hb5'
            refine L.nil (hX _ _ ⟨.inl rfl, ?_⟩)
            refine D.done (by decide +kernel) ?_ _
            refine X.join (g5, A19, c19, A23, c23) ?_ ?_
            · exact ⟨rfl, rfl, rfl, rfl, trivial⟩
            ·
              exact ⟨ho1, ho2, (by first | exact haw_ho1_ho2 | exact haw_ho2_ho1.symm), hno_ho1_g2, hno_ho1_g3, hno_ho1_g5, hno_ho2_g2, hno_ho2_g3, hno_ho2_g5, hb2, hb3, hb5, ha.sub (by intro b hb; simp only [List.mem_append, List.mem_cons] at hb ⊢; rcases hb with hb | hb | hb <;> simp [hb]), ka.sub (by intro b hb; simp only [List.mem_append, List.mem_cons] at hb ⊢; rcases hb with hb | hb | hb <;> simp [hb]), hb.sub (by intro b hb; simp only [List.mem_append, List.mem_cons] at hb ⊢; rcases hb with hb | hb | hb <;> simp [hb]), kb.sub (by intro b hb; simp only [List.mem_append, List.mem_cons] at hb ⊢; rcases hb with hb | hb | hb <;> simp [hb]), (fun m hm => hbd m (by simp only [List.mem_append, List.mem_cons] at hm ⊢; rcases hm with hm | hm | hm <;> simp [hm])), hm0⟩
        ·
          refine ⟨_, rfl, fun hX => ?_⟩
          refine L.alloc tyZ27 rfl ?_
          intro g5 w31 hN5
          replace hS1 := hS1.trans hN5.mod
          replace ha := ha.new hN5
          replace ka := ka.new hN5
          replace hb := hb.new hN5
          replace kb := kb.new hN5
          replace hbd := hbd.new hN5
          have hge_g5 := New.ge hN5 hm0.size
          replace hm0 := hm0.trans (hN5.mod.mono (by simp))
          have hne_g2_g5 := hb2.ne_ hN5
          replace hb2 := Blk.gr hb2 hN5.mod
          have hne_g3_g5 := hb3.ne_ hN5
          replace hb3 := Blk.gr hb3 hN5.mod
          have hne_g12_g5 := hb12.ne_ hN5
          replace hb12 := Blk.gr hb12 hN5.mod
          have hno_ho1_g5 := own_ne_new ho1 hN5
          replace ho1 := own_gr ho1 hN5.mod (by simp)
          have hb5 := hN5.blk
          clear hN5
          refine L.nil (hX _ _ ⟨.inr hS1, ?_⟩)
          refine D.many (rs := [5, 6]) (by decide +kernel) rfl ?_
          intro i_ hi_
          simp only [List.mem_cons, List.not_mem_nil, or_false] at hi_
          rcases hi_ with rfl | rfl
          ·
            refine ⟨_, rfl, fun hX => ?_⟩
            refine L.append rfl rfl ho1 ha.1 (by simp [Value.oneCell']) tyS25 tyZ51 (by omega) (by unfold maxLen; omega) hm0.size rfl ?_
            intro v19 w32 ho19' hG19
            replace ha := ha.grew2 hG19 (by first | exact mem_own | (intro b hb; simp [hb]))
            replace ka := ka.grew2 hG19 (by first | exact mem_own | (intro b hb; simp [hb]))
            replace hb := hb.grew2 hG19 (by first | exact mem_own | (intro b hb; simp [hb]))
            replace kb := kb.grew2 hG19 (by first | exact mem_own | (intro b hb; simp [hb]))
            replace hbd := hbd.grew2 hG19 (by first | exact mem_own | (intro b hb; simp [hb]))
            replace hm0 := Mod.oldOwn hm0 hG19.mod ho1
            have hnn_g2 := hG19.ne hno_ho1_g2 hb2
            replace hb2 := Blk.grew hb2 hG19 hno_ho1_g2
            replace hno_ho1_g2 := hnn_g2
            have hnn_g3 := hG19.ne hno_ho1_g3 hb3
            replace hb3 := Blk.grew hb3 hG19 hno_ho1_g3
            replace hno_ho1_g3 := hnn_g3
            have hnn_g12 := hG19.ne hno_ho1_g12 hb12
            replace hb12 := Blk.grew hb12 hG19 hno_ho1_g12
            replace hno_ho1_g12 := hnn_g12
            have hnn_g5 := hG19.ne hno_ho1_g5 hb5
            replace hb5 := Blk.grew hb5 hG19 hno_ho1_g5
            replace hno_ho1_g5 := hnn_g5
            replace ho1 := ho19'; clear ho19'
            replace hS1 := hS1.grew hG19 (hgs_v16)
            clear hG19
            refine L.nil (hX _ _ ⟨.inr hS1, ?_⟩)
            refine D.one 6 rfl (by decide +kernel) (fun hX => ?_)
            refine L.buildEmpty tyS25 rfl ?_
            intro g20 w33 hN20
            have hgs_g20 := New.ge hN20 hS1.size
            replace hS1 := hS1.trans hN20.mod
            have ho2 : World.ownsRow w33 w.heap.size 51 1 (.slice (some ⟨g20, 0, none⟩) 0 0) 0 [] := ⟨rfl, .inr ⟨g20, 0, #[], rfl, New.ge hN20 hm0.size, hN20.blk, Nat.le_refl _, by decide, rfl, rfl⟩⟩
            replace ha := ha.new hN20
            replace ka := ka.new hN20
            replace hb := hb.new hN20
            replace kb := kb.new hN20
            replace hbd := hbd.new hN20
            replace hm0 := hm0.trans (hN20.mod.mono (by simp))
            have hno_ho2_g2 : (Value.slice (some ⟨g20, 0, none⟩) 0 0).ownBlock ≠ some g2 := own_ne_new' (hb2.ne_ hN20)
            replace hb2 := Blk.gr hb2 hN20.mod
            have hno_ho2_g3 : (Value.slice (some ⟨g20, 0, none⟩) 0 0).ownBlock ≠ some g3 := own_ne_new' (hb3.ne_ hN20)
            replace hb3 := Blk.gr hb3 hN20.mod
            have hno_ho2_g12 : (Value.slice (some ⟨g20, 0, none⟩) 0 0).ownBlock ≠ some g12 := own_ne_new' (hb12.ne_ hN20)
            replace hb12 := Blk.gr hb12 hN20.mod
            have haw_ho1_ho2 : Away _ (.slice (some ⟨g20, 0, none⟩) 0 0) := own_away_new ho1 hN20
            replace ho1 := own_gr ho1 hN20.mod (by simp)
            have hno_ho2_g5 : (Value.slice (some ⟨g20, 0, none⟩) 0 0).ownBlock ≠ some g5 := own_ne_new' (hb5.ne_ hN20)
            replace hb5 := Blk.gr hb5 hN20.mod
            clear hN20
            obtain ⟨v20, hv_v20⟩ : ∃ v, v = Value.slice (some ⟨g20, 0, none⟩) 0 0 := ⟨_, rfl⟩
            have hol_v20 : ownL v20 = [g20] := by rw [hv_v20]; rfl
            have hgs_v20 : ∀ g, v20.ownBlock = some g → _ ≤ g := fun g h9 => by rw [hv_v20] at h9; simp only [Value.ownBlock, Option.some.injEq] at h9; subst h9; exact hgs_g20
            rw [← hv_v20] at ho2 ⊢
            replace ha := ha.sub (of_cons hol_v20)
            replace ka := ka.sub (of_cons hol_v20)
            replace hb := hb.sub (of_cons hol_v20)
            replace kb := kb.sub (of_cons hol_v20)
            replace hbd := hbd.sub (of_cons hol_v20)
            rw [← hv_v20] at hno_ho2_g2
            rw [← hv_v20] at hno_ho2_g3
            rw [← hv_v20] at hno_ho2_g12
            rw [← hv_v20] at haw_ho1_ho2
            rw [← hv_v20] at hno_ho2_g5
            clear hv_v20 hol_v20
            refine L.nil (hX _ _ ⟨.inr hS1, ?_⟩)
            refine D.one 9 rfl (by decide +kernel) (fun hX => ?_)
            refine L.append rfl rfl ho2 ka.1 (by simp [Value.oneCell']) tyS25 tyZ51 (by omega) (by unfold maxLen; omega) hm0.size rfl ?_
            intro v23 w34 ho23' hG23
            have haw_ho1_ho2_ := Away.grew haw_ho1_ho2 hG23 ho1
            replace ha := ha.grew2 hG23 (by first | exact mem_own | (intro b hb; simp [hb]))
            replace ka := ka.grew2 hG23 (by first | exact mem_own | (intro b hb; simp [hb]))
            replace hb := hb.grew2 hG23 (by first | exact mem_own | (intro b hb; simp [hb]))
            replace kb := kb.grew2 hG23 (by first | exact mem_own | (intro b hb; simp [hb]))
            replace hbd := hbd.grew2 hG23 (by first | exact mem_own | (intro b hb; simp [hb]))
            replace hm0 := Mod.oldOwn hm0 hG23.mod ho2
            have hnn_g2 := hG23.ne hno_ho2_g2 hb2
            replace hb2 := Blk.grew hb2 hG23 hno_ho2_g2
            replace hno_ho2_g2 := hnn_g2
            have hnn_g3 := hG23.ne hno_ho2_g3 hb3
            replace hb3 := Blk.grew hb3 hG23 hno_ho2_g3
            replace hno_ho2_g3 := hnn_g3
            have hnn_g12 := hG23.ne hno_ho2_g12 hb12
            replace hb12 := Blk.grew hb12 hG23 hno_ho2_g12
            replace hno_ho2_g12 := hnn_g12
            replace ho1 := own_away (s' := 1) (el' := 0) (k' := 0) (B' := 0) (ys := []) ho1 hG23.mod (by first | assumption | exact Away.symm (by assumption))
            have hnn_g5 := hG23.ne hno_ho2_g5 hb5
            replace hb5 := Blk.grew hb5 hG23 hno_ho2_g5
            replace hno_ho2_g5 := hnn_g5
            replace haw_ho1_ho2 := haw_ho1_ho2_; clear haw_ho1_ho2_
            replace ho2 := ho23'; clear ho23'
            replace hS1 := hS1.grew hG23 (hgs_v20)
            clear hG23
            refine L.nil (hX _ _ ⟨.inr hS1, ?_⟩)
            replace ho1 := own_congr ho1 (Nat.zero_add _) (List.nil_append _)
            replace ho2 := own_congr ho2 (Nat.zero_add _) (List.nil_append _)
            obtain ⟨A19, c19, rfl⟩ := own_form ho1
            obtain ⟨A23, c23, rfl⟩ := own_form ho2
            refine D.take 10 rfl (by decide +kernel) (fun w_ hS => (R1.build rfl (built_Q012 _ _ _ _ _ _ _))) hS1 rfl ?_
            refine D.one 12 rfl (by decide +kernel) (fun hX => ?_)
            refine L.storeBox rfl rfl hb5 rfl rfl tyG27 ?_
            intro w35 hb5' hm35
            replace ha := ha.mod hm35 (by simp)
            replace ka := ka.mod hm35 (by simp)
            replace hb := hb.mod hm35 (by simp)
            replace kb := kb.mod hm35 (by simp)
            replace hbd := hbd.gr hm35
            replace hm0 := hm0.old1 hm35 hge_g5
            replace hb2 := Blk.far hb2 hm35 (by first | exact hne_g2_g5 | exact (hne_g5_g2).symm)
            replace hb3 := Blk.far hb3 hm35 (by first | exact hne_g3_g5 | exact (hne_g5_g3).symm)
            replace hb12 := Blk.far hb12 hm35 (by first | exact hne_g12_g5 | exact (hne_g5_g12).symm)
            replace ho1 := own_far ho1 hm35 hno_ho1_g5
            replace ho2 := own_far ho2 hm35 hno_ho2_g5
            clear hm35
            replace hb5 := hb5'; clear hb5'
            refine L.nil (hX _ _ ⟨.inl rfl, ?_⟩)
            refine D.done (by decide +kernel) ?_ _
            refine X.join (g5, A19, c19, A23, c23) ?_ ?_
            · exact ⟨rfl, rfl, rfl, rfl, trivial⟩
            ·
              exact ⟨ho1, ho2, (by first | exact haw_ho1_ho2 | exact haw_ho2_ho1.symm), hno_ho1_g2, hno_ho1_g3, hno_ho1_g5, hno_ho2_g2, hno_ho2_g3, hno_ho2_g5, hb2, hb3, hb5, ha.sub (by intro b hb; simp only [List.mem_append, List.mem_cons] at hb ⊢; rcases hb with hb | hb | hb <;> simp [hb]), ka.sub (by intro b hb; simp only [List.mem_append, List.mem_cons] at hb ⊢; rcases hb with hb | hb | hb <;> simp [hb]), hb.sub (by intro b hb; simp only [List.mem_append, List.mem_cons] at hb ⊢; rcases hb with hb | hb | hb <;> simp [hb]), kb.sub (by intro b hb; simp only [List.mem_append, List.mem_cons] at hb ⊢; rcases hb with hb | hb | hb <;> simp [hb]), (fun m hm => hbd m (by simp only [List.mem_append, List.mem_cons] at hm ⊢; rcases hm with hm | hm | hm <;> simp [hm])), hm0⟩
          ·
            refine ⟨_, rfl, fun hX => ?_⟩
            refine L.buildEmpty tyS25 rfl ?_
            intro g20 w36 hN20
            have hgs_g20 := New.ge hN20 hS1.size
            replace hS1 := hS1.trans hN20.mod
            have ho2 : World.ownsRow w36 w.heap.size 51 1 (.slice (some ⟨g20, 0, none⟩) 0 0) 0 [] := ⟨rfl, .inr ⟨g20, 0, #[], rfl, New.ge hN20 hm0.size, hN20.blk, Nat.le_refl _, by decide, rfl, rfl⟩⟩
            replace ha := ha.new hN20
            replace ka := ka.new hN20
            replace hb := hb.new hN20
            replace kb := kb.new hN20
            replace hbd := hbd.new hN20
            replace hm0 := hm0.trans (hN20.mod.mono (by simp))
            have hno_ho2_g2 : (Value.slice (some ⟨g20, 0, none⟩) 0 0).ownBlock ≠ some g2 := own_ne_new' (hb2.ne_ hN20)
            replace hb2 := Blk.gr hb2 hN20.mod
            have hno_ho2_g3 : (Value.slice (some ⟨g20, 0, none⟩) 0 0).ownBlock ≠ some g3 := own_ne_new' (hb3.ne_ hN20)
            replace hb3 := Blk.gr hb3 hN20.mod
            have hno_ho2_g12 : (Value.slice (some ⟨g20, 0, none⟩) 0 0).ownBlock ≠ some g12 := own_ne_new' (hb12.ne_ hN20)
            replace hb12 := Blk.gr hb12 hN20.mod
            have haw_ho1_ho2 : Away _ (.slice (some ⟨g20, 0, none⟩) 0 0) := own_away_new ho1 hN20
            replace ho1 := own_gr ho1 hN20.mod (by simp)
            have hno_ho2_g5 : (Value.slice (some ⟨g20, 0, none⟩) 0 0).ownBlock ≠ some g5 := own_ne_new' (hb5.ne_ hN20)
            replace hb5 := Blk.gr hb5 hN20.mod
            clear hN20
            obtain ⟨v20, hv_v20⟩ : ∃ v, v = Value.slice (some ⟨g20, 0, none⟩) 0 0 := ⟨_, rfl⟩
            have hol_v20 : ownL v20 = [g20] := by rw [hv_v20]; rfl
            have hgs_v20 : ∀ g, v20.ownBlock = some g → _ ≤ g := fun g h9 => by rw [hv_v20] at h9; simp only [Value.ownBlock, Option.some.injEq] at h9; subst h9; exact hgs_g20
            rw [← hv_v20] at ho2 ⊢
            replace ha := ha.sub (of_cons hol_v20)
            replace ka := ka.sub (of_cons hol_v20)
            replace hb := hb.sub (of_cons hol_v20)
            replace kb := kb.sub (of_cons hol_v20)
            replace hbd := hbd.sub (of_cons hol_v20)
            rw [← hv_v20] at hno_ho2_g2
            rw [← hv_v20] at hno_ho2_g3
            rw [← hv_v20] at hno_ho2_g12
            rw [← hv_v20] at haw_ho1_ho2
            rw [← hv_v20] at hno_ho2_g5
            clear hv_v20 hol_v20
            refine L.nil (hX _ _ ⟨.inr hS1, ?_⟩)
            refine D.one 5 rfl (by decide +kernel) (fun hX => ?_)
            refine L.append rfl rfl ho1 ha.1 (by simp [Value.oneCell']) tyS25 tyZ51 (by omega) (by unfold maxLen; omega) hm0.size rfl ?_
            intro v19 w37 ho19' hG19
            have haw_ho1_ho2_ := (Away.grew haw_ho1_ho2.symm hG19 ho2).symm
            replace ha := ha.grew2 hG19 (by first | exact mem_own | (intro b hb; simp [hb]))
            replace ka := ka.grew2 hG19 (by first | exact mem_own | (intro b hb; simp [hb]))
            replace hb := hb.grew2 hG19 (by first | exact mem_own | (intro b hb; simp [hb]))
            replace kb := kb.grew2 hG19 (by first | exact mem_own | (intro b hb; simp [hb]))
            replace hbd := hbd.grew2 hG19 (by first | exact mem_own | (intro b hb; simp [hb]))
            replace hm0 := Mod.oldOwn hm0 hG19.mod ho1
            have hnn_g2 := hG19.ne hno_ho1_g2 hb2
            replace hb2 := Blk.grew hb2 hG19 hno_ho1_g2
            replace hno_ho1_g2 := hnn_g2
            have hnn_g3 := hG19.ne hno_ho1_g3 hb3
            replace hb3 := Blk.grew hb3 hG19 hno_ho1_g3
            replace hno_ho1_g3 := hnn_g3
            have hnn_g12 := hG19.ne hno_ho1_g12 hb12
            replace hb12 := Blk.grew hb12 hG19 hno_ho1_g12
            replace hno_ho1_g12 := hnn_g12
            have hnn_g5 := hG19.ne hno_ho1_g5 hb5
            replace hb5 := Blk.grew hb5 hG19 hno_ho1_g5
            replace hno_ho1_g5 := hnn_g5
            replace ho2 := own_away (s' := 1) (el' := 0) (k' := 0) (B' := 0) (ys := []) ho2 hG19.mod (by first | assumption | exact Away.symm (by assumption))
            replace haw_ho1_ho2 := haw_ho1_ho2_; clear haw_ho1_ho2_
            replace ho1 := ho19'; clear ho19'
            replace hS1 := hS1.grew hG19 (hgs_v16)
            clear hG19
            refine L.nil (hX _ _ ⟨.inr hS1, ?_⟩)
            refine D.one 9 rfl (by decide +kernel) (fun hX => ?_)
            refine L.append rfl rfl ho2 ka.1 (by simp [Value.oneCell']) tyS25 tyZ51 (by omega) (by unfold maxLen; omega) hm0.size rfl ?_
            intro v23 w38 ho23' hG23
            have haw_ho1_ho2_ := Away.grew haw_ho1_ho2 hG23 ho1
            replace ha := ha.grew2 hG23 (by first | exact mem_own | (intro b hb; simp [hb]))
            replace ka := ka.grew2 hG23 (by first | exact mem_own | (intro b hb; simp [hb]))
            replace hb := hb.grew2 hG23 (by first | exact mem_own | (intro b hb; simp [hb]))
            replace kb := kb.grew2 hG23 (by first | exact mem_own | (intro b hb; simp [hb]))
            replace hbd := hbd.grew2 hG23 (by first | exact mem_own | (intro b hb; simp [hb]))
            replace hm0 := Mod.oldOwn hm0 hG23.mod ho2
            have hnn_g2 := hG23.ne hno_ho2_g2 hb2
            replace hb2 := Blk.grew hb2 hG23 hno_ho2_g2
            replace hno_ho2_g2 := hnn_g2
            have hnn_g3 := hG23.ne hno_ho2_g3 hb3
            replace hb3 := Blk.grew hb3 hG23 hno_ho2_g3
            replace hno_ho2_g3 := hnn_g3
            have hnn_g12 := hG23.ne hno_ho2_g12 hb12
            replace hb12 := Blk.grew hb12 hG23 hno_ho2_g12
            replace hno_ho2_g12 := hnn_g12
            replace ho1 := own_away (s' := 1) (el' := 0) (k' := 0) (B' := 0) (ys := []) ho1 hG23.mod (by first | assumption | exact Away.symm (by assumption))
            have hnn_g5 := hG23.ne hno_ho2_g5 hb5
            replace hb5 := Blk.grew hb5 hG23 hno_ho2_g5
            replace hno_ho2_g5 := hnn_g5
            replace haw_ho1_ho2 := haw_ho1_ho2_; clear haw_ho1_ho2_
            replace ho2 := ho23'; clear ho23'
            replace hS1 := hS1.grew hG23 (hgs_v20)
            clear hG23
            refine L.nil (hX _ _ ⟨.inr hS1, ?_⟩)
            replace ho1 := own_congr ho1 (Nat.zero_add _) (List.nil_append _)
            replace ho2 := own_congr ho2 (Nat.zero_add _) (List.nil_append _)
            obtain ⟨A19, c19, rfl⟩ := own_form ho1
            obtain ⟨A23, c23, rfl⟩ := own_form ho2
            refine D.take 10 rfl (by decide +kernel) (fun w_ hS => (R1.build rfl (built_Q012 _ _ _ _ _ _ _))) hS1 rfl ?_
            refine D.one 12 rfl (by decide +kernel) (fun hX => ?_)
            refine L.storeBox rfl rfl hb5 rfl rfl tyG27 ?_
            intro w39 hb5' hm39
            replace ha := ha.mod hm39 (by simp)
            replace ka := ka.mod hm39 (by simp)
            replace hb := hb.mod hm39 (by simp)
            replace kb := kb.mod hm39 (by simp)
            replace hbd := hbd.gr hm39
            replace hm0 := hm0.old1 hm39 hge_g5
            replace hb2 := Blk.far hb2 hm39 (by first | exact hne_g2_g5 | exact (hne_g5_g2).symm)
            replace hb3 := Blk.far hb3 hm39 (by first | exact hne_g3_g5 | exact (hne_g5_g3).symm)
            replace hb12 := Blk.far hb12 hm39 (by first | exact hne_g12_g5 | exact (hne_g5_g12).symm)
            replace ho1 := own_far ho1 hm39 hno_ho1_g5
            replace ho2 := own_far ho2 hm39 hno_ho2_g5
            clear hm39
            replace hb5 := hb5'; clear hb5'
            refine L.nil (hX _ _ ⟨.inl rfl, ?_⟩)
            refine D.done (by decide +kernel) ?_ _
            refine X.join (g5, A19, c19, A23, c23) ?_ ?_
            · exact ⟨rfl, rfl, rfl, rfl, trivial⟩
            ·
              exact ⟨ho1, ho2, (by first | exact haw_ho1_ho2 | exact haw_ho2_ho1.symm), hno_ho1_g2, hno_ho1_g3, hno_ho1_g5, hno_ho2_g2, hno_ho2_g3, hno_ho2_g5, hb2, hb3, hb5, ha.sub (by intro b hb; simp only [List.mem_append, List.mem_cons] at hb ⊢; rcases hb with hb | hb | hb <;> simp [hb]), ka.sub (by intro b hb; simp only [List.mem_append, List.mem_cons] at hb ⊢; rcases hb with hb | hb | hb <;> simp [hb]), hb.sub (by intro b hb; simp only [List.mem_append, List.mem_cons] at hb ⊢; rcases hb with hb | hb | hb <;> simp [hb]), kb.sub (by intro b hb; simp only [List.mem_append, List.mem_cons] at hb ⊢; rcases hb with hb | hb | hb <;> simp [hb]), (fun m hm => hbd m (by simp only [List.mem_append, List.mem_cons] at hm ⊢; rcases hm with hm | hm | hm <;> simp [hm])), hm0⟩
      ·
        refine ⟨_, rfl, fun hX => ?_⟩
        refine L.buildEmpty tyS25 rfl ?_
        intro g20 w40 hN20
        have hgs_g20 := New.ge hN20 hS1.size
        replace hS1 := hS1.trans hN20.mod
        have ho2 : World.ownsRow w40 w.heap.size 51 1 (.slice (some ⟨g20, 0, none⟩) 0 0) 0 [] := ⟨rfl, .inr ⟨g20, 0, #[], rfl, New.ge hN20 hm0.size, hN20.blk, Nat.le_refl _, by decide, rfl, rfl⟩⟩
        replace ha := ha.new hN20
        replace ka := ka.new hN20
        replace hb := hb.new hN20
        replace kb := kb.new hN20
        replace hbd := hbd.new hN20
        replace hm0 := hm0.trans (hN20.mod.mono (by simp))
        have hno_ho2_g2 : (Value.slice (some ⟨g20, 0, none⟩) 0 0).ownBlock ≠ some g2 := own_ne_new' (hb2.ne_ hN20)
        replace hb2 := Blk.gr hb2 hN20.mod
        have hno_ho2_g3 : (Value.slice (some ⟨g20, 0, none⟩) 0 0).ownBlock ≠ some g3 := own_ne_new' (hb3.ne_ hN20)
        replace hb3 := Blk.gr hb3 hN20.mod
        have hno_ho2_g12 : (Value.slice (some ⟨g20, 0, none⟩) 0 0).ownBlock ≠ some g12 := own_ne_new' (hb12.ne_ hN20)
        replace hb12 := Blk.gr hb12 hN20.mod
        clear hN20
        obtain ⟨v20, hv_v20⟩ : ∃ v, v = Value.slice (some ⟨g20, 0, none⟩) 0 0 := ⟨_, rfl⟩
        have hol_v20 : ownL v20 = [g20] := by rw [hv_v20]; rfl
        have hgs_v20 : ∀ g, v20.ownBlock = some g → _ ≤ g := fun g h9 => by rw [hv_v20] at h9; simp only [Value.ownBlock, Option.some.injEq] at h9; subst h9; exact hgs_g20
        rw [← hv_v20] at ho2 ⊢
        replace ha := ha.sub (of_cons hol_v20)
        replace ka := ka.sub (of_cons hol_v20)
        replace hb := hb.sub (of_cons hol_v20)
        replace kb := kb.sub (of_cons hol_v20)
        replace hbd := hbd.sub (of_cons hol_v20)
        rw [← hv_v20] at hno_ho2_g2
        rw [← hv_v20] at hno_ho2_g3
        rw [← hv_v20] at hno_ho2_g12
        clear hv_v20 hol_v20
        refine L.nil (hX _ _ ⟨.inr hS1, ?_⟩)
        refine D.many (rs := [2, 11]) (by decide +kernel) rfl ?_
        intro i_ hi_
        simp only [List.mem_cons, List.not_mem_nil, or_false] at hi_
        rcases hi_ with rfl | rfl
        ·
          refine ⟨_, rfl, fun hX => ?_⟩
          refine L.buildEmpty tyS25 rfl ?_
          intro g16 w41 hN16
          have hgs_g16 := New.ge hN16 hS1.size
          replace hS1 := hS1.trans hN16.mod
          have ho1 : World.ownsRow w41 w.heap.size 51 1 (.slice (some ⟨g16, 0, none⟩) 0 0) 0 [] := ⟨rfl, .inr ⟨g16, 0, #[], rfl, New.ge hN16 hm0.size, hN16.blk, Nat.le_refl _, by decide, rfl, rfl⟩⟩
          replace ha := ha.new hN16
          replace ka := ka.new hN16
          replace hb := hb.new hN16
          replace kb := kb.new hN16
          replace hbd := hbd.new hN16
          replace hm0 := hm0.trans (hN16.mod.mono (by simp))
          have hno_ho1_g2 : (Value.slice (some ⟨g16, 0, none⟩) 0 0).ownBlock ≠ some g2 := own_ne_new' (hb2.ne_ hN16)
          replace hb2 := Blk.gr hb2 hN16.mod
          have hno_ho1_g3 : (Value.slice (some ⟨g16, 0, none⟩) 0 0).ownBlock ≠ some g3 := own_ne_new' (hb3.ne_ hN16)
          replace hb3 := Blk.gr hb3 hN16.mod
          have hno_ho1_g12 : (Value.slice (some ⟨g16, 0, none⟩) 0 0).ownBlock ≠ some g12 := own_ne_new' (hb12.ne_ hN16)
          replace hb12 := Blk.gr hb12 hN16.mod
          have haw_ho2_ho1 : Away _ (.slice (some ⟨g16, 0, none⟩) 0 0) := own_away_new ho2 hN16
          replace ho2 := own_gr ho2 hN16.mod (by simp)
          clear hN16
          obtain ⟨v16, hv_v16⟩ : ∃ v, v = Value.slice (some ⟨g16, 0, none⟩) 0 0 := ⟨_, rfl⟩
          have hol_v16 : ownL v16 = [g16] := by rw [hv_v16]; rfl
          have hgs_v16 : ∀ g, v16.ownBlock = some g → _ ≤ g := fun g h9 => by rw [hv_v16] at h9; simp only [Value.ownBlock, Option.some.injEq] at h9; subst h9; exact hgs_g16
          rw [← hv_v16] at ho1 ⊢
          replace ha := ha.sub (of_cons hol_v16)
          replace ka := ka.sub (of_cons hol_v16)
          replace hb := hb.sub (of_cons hol_v16)
          replace kb := kb.sub (of_cons hol_v16)
          replace hbd := hbd.sub (of_cons hol_v16)
          rw [← hv_v16] at hno_ho1_g2
          rw [← hv_v16] at hno_ho1_g3
          rw [← hv_v16] at hno_ho1_g12
          rw [← hv_v16] at haw_ho2_ho1
          clear hv_v16 hol_v16
          refine L.nil (hX _ _ ⟨.inr hS1, ?_⟩)
          refine D.many (rs := [5, 11]) (by decide +kernel) rfl ?_
          intro i_ hi_
          simp only [List.mem_cons, List.not_mem_nil, or_false] at hi_
          rcases hi_ with rfl | rfl
          ·
            refine ⟨_, rfl, fun hX => ?_⟩
            refine L.append rfl rfl ho1 ha.1 (by simp [Value.oneCell']) tyS25 tyZ51 (by omega) (by unfold maxLen; omega) hm0.size rfl ?_
            intro v19 w42 ho19' hG19
            have haw_ho2_ho1_ := Away.grew haw_ho2_ho1 hG19 ho2
            replace ha := ha.grew2 hG19 (by first | exact mem_own | (intro b hb; simp [hb]))
            replace ka := ka.grew2 hG19 (by first | exact mem_own | (intro b hb; simp [hb]))
            replace hb := hb.grew2 hG19 (by first | exact mem_own | (intro b hb; simp [hb]))
            replace kb := kb.grew2 hG19 (by first | exact mem_own | (intro b hb; simp [hb]))
            replace hbd := hbd.grew2 hG19 (by first | exact mem_own | (intro b hb; simp [hb]))
            replace hm0 := Mod.oldOwn hm0 hG19.mod ho1
            have hnn_g2 := hG19.ne hno_ho1_g2 hb2
            replace hb2 := Blk.grew hb2 hG19 hno_ho1_g2
            replace hno_ho1_g2 := hnn_g2
            have hnn_g3 := hG19.ne hno_ho1_g3 hb3
            replace hb3 := Blk.grew hb3 hG19 hno_ho1_g3
            replace hno_ho1_g3 := hnn_g3
            have hnn_g12 := hG19.ne hno_ho1_g12 hb12
            replace hb12 := Blk.grew hb12 hG19 hno_ho1_g12
            replace hno_ho1_g12 := hnn_g12
            replace ho2 := own_away (s' := 1) (el' := 0) (k' := 0) (B' := 0) (ys := []) ho2 hG19.mod (by first | assumption | exact Away.symm (by assumption))
            replace haw_ho2_ho1 := haw_ho2_ho1_; clear haw_ho2_ho1_
            replace ho1 := ho19'; clear ho19'
            replace hS1 := hS1.grew hG19 (hgs_v16)
            clear hG19
            refine L.nil (hX _ _ ⟨.inr hS1, ?_⟩)
            refine D.many (rs := [9, 11]) (by decide +kernel) rfl ?_
            intro i_ hi_
            simp only [List.mem_cons, List.not_mem_nil, or_false] at hi_
            rcases hi_ with rfl | rfl
            ·
              refine ⟨_, rfl, fun hX => ?_⟩
              refine L.append rfl rfl ho2 ka.1 (by simp [Value.oneCell']) tyS25 tyZ51 (by omega) (by unfold maxLen; omega) hm0.size rfl ?_
              intro v23 w43 ho23' hG23
              have haw_ho2_ho1_ := (Away.grew haw_ho2_ho1.symm hG23 ho1).symm
              replace ha := ha.grew2 hG23 (by first | exact mem_own | (intro b hb; simp [hb]))
              replace ka := ka.grew2 hG23 (by first | exact mem_own | (intro b hb; simp [hb]))
              replace hb := hb.grew2 hG23 (by first | exact mem_own | (intro b hb; simp [hb]))
              replace kb := kb.grew2 hG23 (by first | exact mem_own | (intro b hb; simp [hb]))
              replace hbd := hbd.grew2 hG23 (by first | exact mem_own | (intro b hb; simp [hb]))
              replace hm0 := Mod.oldOwn hm0 hG23.mod ho2
              have hnn_g2 := hG23.ne hno_ho2_g2 hb2
              replace hb2 := Blk.grew hb2 hG23 hno_ho2_g2
              replace hno_ho2_g2 := hnn_g2
              have hnn_g3 := hG23.ne hno_ho2_g3 hb3
              replace hb3 := Blk.grew hb3 hG23 hno_ho2_g3
              replace hno_ho2_g3 := hnn_g3
              have hnn_g12 := hG23.ne hno_ho2_g12 hb12
              replace hb12 := Blk.grew hb12 hG23 hno_ho2_g12
              replace hno_ho2_g12 := hnn_g12
              replace ho1 := own_away (s' := 1) (el' := 0) (k' := 0) (B' := 0) (ys := []) ho1 hG23.mod (by first | assumption | exact Away.symm (by assumption))
              replace haw_ho2_ho1 := haw_ho2_ho1_; clear haw_ho2_ho1_
              replace ho2 := ho23'; clear ho23'
              replace hS1 := hS1.grew hG23 (hgs_v20)
              clear hG23
              refine L.nil (hX _ _ ⟨.inr hS1, ?_⟩)
              replace ho1 := own_congr ho1 (Nat.zero_add _) (List.nil_append _)
              replace ho2 := own_congr ho2 (Nat.zero_add _) (List.nil_append _)
              obtain ⟨A19, c19, rfl⟩ := own_form ho1
              obtain ⟨A23, c23, rfl⟩ := own_form ho2
              refine D.take 10 rfl (by decide +kernel) (fun w_ hS => (R1.build rfl (built_Q012 _ _ _ _ _ _ _))) hS1 rfl ?_
              refine D.one 11 rfl (by decide +kernel) (fun hX => ?_)
              refine L.alloc tyZ27 rfl ?_
              intro g5 w44 hN5
              replace hS1 := hS1.trans hN5.mod
              replace ha := ha.new hN5
              replace ka := ka.new hN5
              replace hb := hb.new hN5
              replace kb := kb.new hN5
              replace hbd := hbd.new hN5
              have hge_g5 := New.ge hN5 hm0.size
              replace hm0 := hm0.trans (hN5.mod.mono (by simp))
              have hne_g2_g5 := hb2.ne_ hN5
              replace hb2 := Blk.gr hb2 hN5.mod
              have hne_g3_g5 := hb3.ne_ hN5
              replace hb3 := Blk.gr hb3 hN5.mod
              have hne_g12_g5 := hb12.ne_ hN5
              replace hb12 := Blk.gr hb12 hN5.mod
              have hno_ho2_g5 := own_ne_new ho2 hN5
              replace ho2 := own_gr ho2 hN5.mod (by simp)
              have hno_ho1_g5 := own_ne_new ho1 hN5
              replace ho1 := own_gr ho1 hN5.mod (by simp)
              have hb5 := hN5.blk
              clear hN5
              refine L.nil (hX _ _ ⟨.inr hS1, ?_⟩)
              refine D.one 12 rfl (by decide +kernel) (fun hX => ?_)
              refine L.storeBox rfl rfl hb5 rfl rfl tyG27 ?_
              intro w45 hb5' hm45
              replace ha := ha.mod hm45 (by simp)
              replace ka := ka.mod hm45 (by simp)
              replace hb := hb.mod hm45 (by simp)
              replace kb := kb.mod hm45 (by simp)
              replace hbd := hbd.gr hm45
              replace hm0 := hm0.old1 hm45 hge_g5
              replace hb2 := Blk.far hb2 hm45 (by first | exact hne_g2_g5 | exact (hne_g5_g2).symm)
              replace hb3 := Blk.far hb3 hm45 (by first | exact hne_g3_g5 | exact (hne_g5_g3).symm)
              replace hb12 := Blk.far hb12 hm45 (by first | exact hne_g12_g5 | exact (hne_g5_g12).symm)
              replace ho2 := own_far ho2 hm45 hno_ho2_g5
              replace ho1 := own_far ho1 hm45 hno_ho1_g5
              clear hm45
              replace hb5 := hb5'; clear hb5'
              refine L.nil (hX _ _ ⟨.inl rfl, ?_⟩)
              refine D.done (by decide +kernel) ?_ _
              refine X.join (g5, A19, c19, A23, c23) ?_ ?_
              · exact ⟨rfl, rfl, rfl, rfl, trivial⟩
              ·
                exact ⟨ho1, ho2, (by first | exact haw_ho1_ho2 | exact haw_ho2_ho1.symm), hno_ho1_g2, hno_ho1_g3, hno_ho1_g5, hno_ho2_g2, hno_ho2_g3, hno_ho2_g5, hb2, hb3, hb5, ha.sub (by intro b hb; simp only [List.mem_append, List.mem_cons] at hb ⊢; rcases hb with hb | hb | hb <;> simp [hb]), ka.sub (by intro b hb; simp only [List.mem_append, List.mem_cons] at hb ⊢; rcases hb with hb | hb | hb <;> simp [hb]), hb.sub (by intro b hb; simp only [List.mem_append, List.mem_cons] at hb ⊢; rcases hb with hb | hb | hb <;> simp [hb]), kb.sub (by intro b hb; simp only [List.mem_append, List.mem_cons] at hb ⊢; rcases hb with hb | hb | hb <;> simp [hb]), (fun m hm => hbd m (by simp only [List.mem_append, List.mem_cons] at hm ⊢; rcases hm with hm | hm | hm <;> simp [hm])), hm0⟩
            ·
              refine ⟨_, rfl, fun hX => ?_⟩
              refine L.alloc tyZ27 rfl ?_
              intro g5 w46 hN5
              replace hS1 := hS1.trans hN5.mod
              replace ha := ha.new hN5
              replace ka := ka.new hN5
              replace hb := hb.new hN5
              replace kb := kb.new hN5
              replace hbd := hbd.new hN5
              have hge_g5 := New.ge hN5 hm0.size
              replace hm0 := hm0.trans (hN5.mod.mono (by simp))
              have hne_g2_g5 := hb2.ne_ hN5
              replace hb2 := Blk.gr hb2 hN5.mod
              have hne_g3_g5 := hb3.ne_ hN5
              replace hb3 := Blk.gr hb3 hN5.mod
              have hne_g12_g5 := hb12.ne_ hN5
              replace hb12 := Blk.gr hb12 hN5.mod
              have hno_ho2_g5 := own_ne_new ho2 hN5
              replace ho2 := own_gr ho2 hN5.mod (by simp)
              have hno_ho1_g5 := own_ne_new ho1 hN5
              replace ho1 := own_gr ho1 hN5.mod (by simp)
              have hb5 := hN5.blk
              clear hN5
              refine L.nil (hX _ _ ⟨.inr hS1, ?_⟩)
              refine D.one 9 rfl (by decide +kernel) (fun hX => ?_)
              refine L.append rfl rfl ho2 ka.1 (by simp [Value.oneCell']) tyS25 tyZ51 (by omega) (by unfold maxLen; omega) hm0.size rfl ?_
              intro v23 w47 ho23' hG23
              have haw_ho2_ho1_ := (Away.grew haw_ho2_ho1.symm hG23 ho1).symm
              replace ha := ha.grew2 hG23 (by first | exact mem_own | (intro b hb; simp [hb]))
              replace ka := ka.grew2 hG23 (by first | exact mem_own | (intro b hb; simp [hb]))
              replace hb := hb.grew2 hG23 (by first | exact mem_own | (intro b hb; simp [hb]))
              replace kb := kb.grew2 hG23 (by first | exact mem_own | (intro b hb; simp [hb]))
              replace hbd := hbd.grew2 hG23 (by first | exact mem_own | (intro b hb; simp [hb]))
              replace hm0 := Mod.oldOwn hm0 hG23.mod ho2
              have hnn_g2 := hG23.ne hno_ho2_g2 hb2
              replace hb2 := Blk.grew hb2 hG23 hno_ho2_g2
              replace hno_ho2_g2 := hnn_g2
              have hnn_g3 := hG23.ne hno_ho2_g3 hb3
              replace hb3 := Blk.grew hb3 hG23 hno_ho2_g3
              replace hno_ho2_g3 := hnn_g3
              have hnn_g12 := hG23.ne hno_ho2_g12 hb12
              replace hb12 := Blk.grew hb12 hG23 hno_ho2_g12
              replace hno_ho2_g12 := hnn_g12
              replace ho1 := own_away (s' := 1) (el' := 0) (k' := 0) (B' := 0) (ys := []) ho1 hG23.mod (by first | assumption | exact Away.symm (by assumption))
              have hnn_g5 := hG23.ne hno_ho2_g5 hb5
              replace hb5 := Blk.grew hb5 hG23 hno_ho2_g5
              replace hno_ho2_g5 := hnn_g5
              replace haw_ho2_ho1 := haw_ho2_ho1_; clear haw_ho2_ho1_
              replace ho2 := ho23'; clear ho23'
              replace hS1 := hS1.grew hG23 (hgs_v20)
              clear hG23
              refine L.nil (hX _ _ ⟨.inr hS1, ?_⟩)
              replace ho1 := own_congr ho1 (Nat.zero_add _) (List.nil_append _)
              replace ho2 := own_congr ho2 (Nat.zero_add _) (List.nil_append _)
              obtain ⟨A19, c19, rfl⟩ := own_form ho1
              obtain ⟨A23, c23, rfl⟩ := own_form ho2
              refine D.take 10 rfl (by decide +kernel) (fun w_ hS => (R1.build rfl (built_Q012 _ _ _ _ _ _ _))) hS1 rfl ?_
              refine D.one 12 rfl (by decide +kernel) (fun hX => ?_)
              refine L.storeBox rfl rfl hb5 rfl rfl tyG27 ?_
              intro w48 hb5' hm48
              replace ha := ha.mod hm48 (by simp)
              replace ka := ka.mod hm48 (by simp)
              replace hb := hb.mod hm48 (by simp)
              replace kb := kb.mod hm48 (by simp)
              replace hbd := hbd.gr hm48
              replace hm0 := hm0.old1 hm48 hge_g5
              replace hb2 := Blk.far hb2 hm48 (by first | exact hne_g2_g5 | exact (hne_g5_g2).symm)
              replace hb3 := Blk.far hb3 hm48 (by first | exact hne_g3_g5 | exact (hne_g5_g3).symm)
              replace hb12 := Blk.far hb12 hm48 (by first | exact hne_g12_g5 | exact (hne_g5_g12).symm)
              replace ho2 := own_far ho2 hm48 hno_ho2_g5
              replace ho1 := own_far ho1 hm48 hno_ho1_g5
              clear hm48
              replace hb5 := hb5'; clear hb5'
              refine L.nil (hX _ _ ⟨.inl rfl, ?_⟩)
              refine D.done (by decide +kernel) ?_ _
              refine X.join (g5, A19, c19, A23, c23) ?_ ?_
              · exact ⟨rfl, rfl, rfl, rfl, trivial⟩
              ·
                exact ⟨ho1, ho2, (by first | exact haw_ho1_ho2 | exact haw_ho2_ho1.symm), hno_ho1_g2, hno_ho1_g3, hno_ho1_g5, hno_ho2_g2, hno_ho2_g3, hno_ho2_g5, hb2, hb3, hb5, ha.sub (by intro b hb; simp only [List.mem_append, List.mem_cons] at hb ⊢; rcases hb with hb | hb | hb <;> simp [hb]), ka.sub (by intro b hb; simp only [List.mem_append, List.mem_cons] at hb ⊢; rcases hb with hb | hb | hb <;> simp [hb]), hb.sub (by intro b hb; simp only [List.mem_append, List.mem_cons] at hb ⊢; rcases hb with hb | hb | hb <;> simp [hb]), kb.sub (by intro b hb; simp only [List.mem_append, List.mem_cons] at hb ⊢; rcases hb with hb | hb | hb <;> simp [hb]), (fun m hm => hbd m (by simp only [List.mem_append, List.mem_cons] at hm ⊢; rcases hm with hm | hm | hm <;> simp [hm])), hm0⟩
          ·
            refine ⟨_, rfl, fun hX => ?_⟩
            refine L.alloc tyZ27 rfl ?_
            intro g5 w49 hN5
            replace hS1 := hS1.trans hN5.mod
            replace ha := ha.new hN5
            replace ka := ka.new hN5
            replace hb := hb.new hN5
            replace kb := kb.new hN5
            replace hbd := hbd.new hN5
            have hge_g5 := New.ge hN5 hm0.size
            replace hm0 := hm0.trans (hN5.mod.mono (by simp))
            have hne_g2_g5 := hb2.ne_ hN5
            replace hb2 := Blk.gr hb2 hN5.mod
            have hne_g3_g5 := hb3.ne_ hN5
            replace hb3 := Blk.gr hb3 hN5.mod
            have hne_g12_g5 := hb12.ne_ hN5
            replace hb12 := Blk.gr hb12 hN5.mod
            have hno_ho2_g5 := own_ne_new ho2 hN5
            replace ho2 := own_gr ho2 hN5.mod (by simp)
            have hno_ho1_g5 := own_ne_new ho1 hN5
            replace ho1 := own_gr ho1 hN5.mod (by simp)
            have hb5 := hN5.blk
            clear hN5
            refine L.nil (hX _ _ ⟨.inr hS1, ?_⟩)
            refine D.one 5 rfl (by decide +kernel) (fun hX => ?_)
            refine L.append rfl rfl ho1 ha.1 (by simp [Value.oneCell']) tyS25 tyZ51 (by omega) (by unfold maxLen; omega) hm0.size rfl ?_
            intro v19 w50 ho19' hG19
            have haw_ho2_ho1_ := Away.grew haw_ho2_ho1 hG19 ho2
            replace ha := ha.grew2 hG19 (by first | exact mem_own | (intro b hb; simp [hb]))
            replace ka := ka.grew2 hG19 (by first | exact mem_own | (intro b hb; simp [hb]))
            replace hb := hb.grew2 hG19 (by first | exact mem_own | (intro b hb; simp [hb]))
            replace kb := kb.grew2 hG19 (by first | exact mem_own | (intro b hb; simp [hb]))
            replace hbd := hbd.grew2 hG19 (by first | exact mem_own | (intro b hb; simp [hb]))
            replace hm0 := Mod.oldOwn hm0 hG19.mod ho1
            have hnn_g2 := hG19.ne hno_ho1_g2 hb2
            replace hb2 := Blk.grew hb2 hG19 hno_ho1_g2
            replace hno_ho1_g2 := hnn_g2
            have hnn_g3 := hG19.ne hno_ho1_g3 hb3
            replace hb3 := Blk.grew hb3 hG19 hno_ho1_g3
            replace hno_ho1_g3 := hnn_g3
            have hnn_g12 := hG19.ne hno_ho1_g12 hb12
            replace hb12 := Blk.grew hb12 hG19 hno_ho1_g12
            replace hno_ho1_g12 := hnn_g12
            replace ho2 := own_away (s' := 1) (el' := 0) (k' := 0) (B' := 0) (ys := []) ho2 hG19.mod (by first | assumption | exact Away.symm (by assumption))
            have hnn_g5 := hG19.ne hno_ho1_g5 hb5
            replace hb5 := Blk.grew hb5 hG19 hno_ho1_g5
            replace hno_ho1_g5 := hnn_g5
            replace haw_ho2_ho1 := haw_ho2_ho1_; clear haw_ho2_ho1_
            replace ho1 := ho19'; clear ho19'
            replace hS1 := hS1.grew hG19 (hgs_v16)
            clear hG19
            refine L.nil (hX _ _ ⟨.inr hS1, ?_⟩)
            refine D.one 9 rfl (by decide +kernel) (fun hX => ?_)
            refine L.append rfl rfl ho2 ka.1 (by simp [Value.oneCell']) tyS25 tyZ51 (by omega) (by unfold maxLen; omega) hm0.size rfl ?_
            intro v23 w51 ho23' hG23
            have haw_ho2_ho1_ := (Away.grew haw_ho2_ho1.symm hG23 ho1).symm
            replace ha := ha.grew2 hG23 (by first | exact mem_own | (intro b hb; simp [hb]))
            replace ka := ka.grew2 hG23 (by first | exact mem_own | (intro b hb; simp [hb]))
            replace hb := hb.grew2 hG23 (by first | exact mem_own | (intro b hb; simp [hb]))
            replace kb := kb.grew2 hG23 (by first | exact mem_own | (intro b hb; simp [hb]))
            replace hbd := hbd.grew2 hG23 (by first | exact mem_own | (intro b hb; simp [hb]))
            replace hm0 := Mod.oldOwn hm0 hG23.mod ho2
            have hnn_g2 := hG23.ne hno_ho2_g2 hb2
            replace hb2 := Blk.grew hb2 hG23 hno_ho2_g2
            replace hno_ho2_g2 := hnn_g2
            have hnn_g3 := hG23.ne hno_ho2_g3 hb3
            replace hb3 := Blk.grew hb3 hG23 hno_ho2_g3
            replace hno_ho2_g3 := hnn_g3
            have hnn_g12 := hG23.ne hno_ho2_g12 hb12
            replace hb12 := Blk.grew hb12 hG23 hno_ho2_g12
            replace hno_ho2_g12 := hnn_g12
            replace ho1 := own_away (s' := 1) (el' := 0) (k' := 0) (B' := 0) (ys := []) ho1 hG23.mod (by first | assumption | exact Away.symm (by assumption))
            have hnn_g5 := hG23.ne hno_ho2_g5 hb5
            replace hb5 := Blk.grew hb5 hG23 hno_ho2_g5
            replace hno_ho2_g5 := hnn_g5
            replace haw_ho2_ho1 := haw_ho2_ho1_; clear haw_ho2_ho1_
            replace ho2 := ho23'; clear ho23'
            replace hS1 := hS1.grew hG23 (hgs_v20)
            clear hG23
            refine L.nil (hX _ _ ⟨.inr hS1, ?_⟩)
            replace ho1 := own_congr ho1 (Nat.zero_add _) (List.nil_append _)
            replace ho2 := own_congr ho2 (Nat.zero_add _) (List.nil_append _)
            obtain ⟨A19, c19, rfl⟩ := own_form ho1
            obtain ⟨A23, c23, rfl⟩ := own_form ho2
            refine D.take 10 rfl (by decide +kernel) (fun w_ hS => (R1.build rfl (built_Q012 _ _ _ _ _ _ _))) hS1 rfl ?_
            refine D.one 12 rfl (by decide +kernel) (fun hX => ?_)
            refine L.storeBox rfl rfl hb5 rfl rfl tyG27 ?_
            intro w52 hb5' hm52
            replace ha := ha.mod hm52 (by simp)
            replace ka := ka.mod hm52 (by simp)
            replace hb := hb.mod hm52 (by simp)
            replace kb := kb.mod hm52 (by simp)
            replace hbd := hbd.gr hm52
            replace hm0 := hm0.old1 hm52 hge_g5
            replace hb2 := Blk.far hb2 hm52 (by first | exact hne_g2_g5 | exact (hne_g5_g2).symm)
            replace hb3 := Blk.far hb3 hm52 (by first | exact hne_g3_g5 | exact (hne_g5_g3).symm)
            replace hb12 := Blk.far hb12 hm52 (by first | exact hne_g12_g5 | exact (hne_g5_g12).symm)
            replace ho2 := own_far ho2 hm52 hno_ho2_g5
            replace ho1 := own_far ho1 hm52 hno_ho1_g5
            clear hm52
            replace hb5 := hb5'; clear hb5'
            refine L.nil (hX _ _ ⟨.inl rfl, ?_⟩)
            refine D.done (by decide +kernel) ?_ _
            refine X.join (g5, A19, c19, A23, c23) ?_ ?_
            · exact ⟨rfl, rfl, rfl, rfl, trivial⟩
            ·
              exact ⟨ho1, ho2, (by first | exact haw_ho1_ho2 | exact haw_ho2_ho1.symm), hno_ho1_g2, hno_ho1_g3, hno_ho1_g5, hno_ho2_g2, hno_ho2_g3, hno_ho2_g5, hb2, hb3, hb5, ha.sub (by intro b hb; simp only [List.mem_append, List.mem_cons] at hb ⊢; rcases hb with hb | hb | hb <;> simp [hb]), ka.sub (by intro b hb; simp only [List.mem_append, List.mem_cons] at hb ⊢; rcases hb with hb | hb | hb <;> simp [hb]), hb.sub (by intro b hb; simp only [List.mem_append, List.mem_cons] at hb ⊢; rcases hb with hb | hb | hb <;> simp [hb]), kb.sub (by intro b hb; simp only [List.mem_append, List.mem_cons] at hb ⊢; rcases hb with hb | hb | hb <;> simp [hb]), (fun m hm => hbd m (by simp only [List.mem_append, List.mem_cons] at hm ⊢; rcases hm with hm | hm | hm <;> simp [hm])), hm0⟩
        ·
          refine ⟨_, rfl, fun hX => ?_⟩
          refine L.alloc tyZ27 rfl ?_
          intro g5 w53 hN5
          replace hS1 := hS1.trans hN5.mod
          replace ha := ha.new hN5
          replace ka := ka.new hN5
          replace hb := hb.new hN5
          replace kb := kb.new hN5
          replace hbd := hbd.new hN5
          have hge_g5 := New.ge hN5 hm0.size
          replace hm0 := hm0.trans (hN5.mod.mono (by simp))
          have hne_g2_g5 := hb2.ne_ hN5
          replace hb2 := Blk.gr hb2 hN5.mod
          have hne_g3_g5 := hb3.ne_ hN5
          replace hb3 := Blk.gr hb3 hN5.mod
          have hne_g12_g5 := hb12.ne_ hN5
          replace hb12 := Blk.gr hb12 hN5.mod
          have hno_ho2_g5 := own_ne_new ho2 hN5
          replace ho2 := own_gr ho2 hN5.mod (by simp)
          have hb5 := hN5.blk
          clear hN5
          refine L.nil (hX _ _ ⟨.inr hS1, ?_⟩)
          refine D.one 2 rfl (by decide +kernel) (fun hX => ?_)
          refine L.buildEmpty tyS25 rfl ?_
          intro g16 w54 hN16
          have hgs_g16 := New.ge hN16 hS1.size
          replace hS1 := hS1.trans hN16.mod
          have ho1 : World.ownsRow w54 w.heap.size 51 1 (.slice (some ⟨g16, 0, none⟩) 0 0) 0 [] := ⟨rfl, .inr ⟨g16, 0, #[], rfl, New.ge hN16 hm0.size, hN16.blk, Nat.le_refl _, by decide, rfl, rfl⟩⟩
          replace ha := ha.new hN16
          replace ka := ka.new hN16
          replace hb := hb.new hN16
          replace kb := kb.new hN16
          replace hbd := hbd.new hN16
          replace hm0 := hm0.trans (hN16.mod.mono (by simp))
          have hno_ho1_g2 : (Value.slice (some ⟨g16, 0, none⟩) 0 0).ownBlock ≠ some g2 := own_ne_new' (hb2.ne_ hN16)
          replace hb2 := Blk.gr hb2 hN16.mod
          have hno_ho1_g3 : (Value.slice (some ⟨g16, 0, none⟩) 0 0).ownBlock ≠ some g3 := own_ne_new' (hb3.ne_ hN16)
          replace hb3 := Blk.gr hb3 hN16.mod
          have hno_ho1_g12 : (Value.slice (some ⟨g16, 0, none⟩) 0 0).ownBlock ≠ some g12 := own_ne_new' (hb12.ne_ hN16)
          replace hb12 := Blk.gr hb12 hN16.mod
          have haw_ho2_ho1 : Away _ (.slice (some ⟨g16, 0, none⟩) 0 0) := own_away_new ho2 hN16
          replace ho2 := own_gr ho2 hN16.mod (by simp)
          have hno_ho1_g5 : (Value.slice (some ⟨g16, 0, none⟩) 0 0).ownBlock ≠ some g5 := own_ne_new' (hb5.ne_ hN16)
          replace hb5 := Blk.gr hb5 hN16.mod
          clear hN16
          obtain ⟨v16, hv_v16⟩ : ∃ v, v = Value.slice (some ⟨g16, 0, none⟩) 0 0 := ⟨_, rfl⟩
          have hol_v16 : ownL v16 = [g16] := by rw [hv_v16]; rfl
          have hgs_v16 : ∀ g, v16.ownBlock = some g → _ ≤ g := fun g h9 => by rw [hv_v16] at h9; simp only [Value.ownBlock, Option.some.injEq] at h9; subst h9; exact hgs_g16
          rw [← hv_v16] at ho1 ⊢
          replace ha := ha.sub (of_cons hol_v16)
          replace ka := ka.sub (of_cons hol_v16)
          replace hb := hb.sub (of_cons hol_v16)
          replace kb := kb.sub (of_cons hol_v16)
          replace hbd := hbd.sub (of_cons hol_v16)
          rw [← hv_v16] at hno_ho1_g2
          rw [← hv_v16] at hno_ho1_g3
          rw [← hv_v16] at hno_ho1_g12
          rw [← hv_v16] at haw_ho2_ho1
          rw [← hv_v16] at hno_ho1_g5
          clear hv_v16 hol_v16
          refine L.nil (hX _ _ ⟨.inr hS1, ?_⟩)
          refine D.one 5 rfl (by decide +kernel) (fun hX => ?_)
          refine L.append rfl rfl ho1 ha.1 (by simp [Value.oneCell']) tyS25 tyZ51 (by omega) (by unfold maxLen; omega) hm0.size rfl ?_
          intro v19 w55 ho19' hG19
          have haw_ho2_ho1_ := Away.grew haw_ho2_ho1 hG19 ho2
          replace ha := ha.grew2 hG19 (by first | exact mem_own | (intro b hb; simp [hb]))
          replace ka := ka.grew2 hG19 (by first | exact mem_own | (intro b hb; simp [hb]))
          replace hb := hb.grew2 hG19 (by first | exact mem_own | (intro b hb; simp [hb]))
          replace kb := kb.grew2 hG19 (by first | exact mem_own | (intro b hb; simp [hb]))
          replace hbd := hbd.grew2 hG19 (by first | exact mem_own | (intro b hb; simp [hb]))
          replace hm0 := Mod.oldOwn hm0 hG19.mod ho1
          have hnn_g2 := hG19.ne hno_ho1_g2 hb2
          replace hb2 := Blk.grew hb2 hG19 hno_ho1_g2
          replace hno_ho1_g2 := hnn_g2
          have hnn_g3 := hG19.ne hno_ho1_g3 hb3
          replace hb3 := Blk.grew hb3 hG19 hno_ho1_g3
          replace hno_ho1_g3 := hnn_g3
          have hnn_g12 := hG19.ne hno_ho1_g12 hb12
          replace hb12 := Blk.grew hb12 hG19 hno_ho1_g12
          replace hno_ho1_g12 := hnn_g12
          replace ho2 := own_away (s' := 1) (el' := 0) (k' := 0) (B' := 0) (ys := []) ho2 hG19.mod (by first | assumption | exact Away.symm (by assumption))
          have hnn_g5 := hG19.ne hno_ho1_g5 hb5
          replace hb5 := Blk.grew hb5 hG19 hno_ho1_g5
          replace hno_ho1_g5 := hnn_g5
          replace haw_ho2_ho1 := haw_ho2_ho1_; clear haw_ho2_ho1_
          replace ho1 := ho19'; clear ho19'
          replace hS1 := hS1.grew hG19 (hgs_v16)
          clear hG19
          refine L.nil (hX _ _ ⟨.inr hS1, ?_⟩)
          refine D.one 9 rfl (by decide +kernel) (fun hX => ?_)
          refine L.append rfl rfl ho2 ka.1 (by simp [Value.oneCell']) tyS25 tyZ51 (by omega) (by unfold maxLen; omega) hm0.size rfl ?_
          intro v23 w56 ho23' hG23
          have haw_ho2_ho1_ := (Away.grew haw_ho2_ho1.symm hG23 ho1).symm
          replace ha := ha.grew2 hG23 (by first | exact mem_own | (intro b hb; simp [hb]))
          replace ka := ka.grew2 hG23 (by first | exact mem_own | (intro b hb; simp [hb]))
          replace hb := hb.grew2 hG23 (by first | exact mem_own | (intro b hb; simp [hb]))
          replace kb := kb.grew2 hG23 (by first | exact mem_own | (intro b hb; simp [hb]))
          replace hbd := hbd.grew2 hG23 (by first | exact mem_own | (intro b hb; simp [hb]))
          replace hm0 := Mod.oldOwn hm0 hG23.mod ho2
          have hnn_g2 := hG23.ne hno_ho2_g2 hb2
          replace hb2 := Blk.grew hb2 hG23 hno_ho2_g2
          replace hno_ho2_g2 := hnn_g2
          have hnn_g3 := hG23.ne hno_ho2_g3 hb3
          replace hb3 := Blk.grew hb3 hG23 hno_ho2_g3
          replace hno_ho2_g3 := hnn_g3
          have hnn_g12 := hG23.ne hno_ho2_g12 hb12
          replace hb12 := Blk.grew hb12 hG23 hno_ho2_g12
          replace hno_ho2_g12 := hnn_g12
          have hnn_g5 := hG23.ne hno_ho2_g5 hb5
          replace hb5 := Blk.grew hb5 hG23 hno_ho2_g5
          replace hno_ho2_g5 := hnn_g5
          replace ho1 := own_away (s' := 1) (el' := 0) (k' := 0) (B' := 0) (ys := []) ho1 hG23.mod (by first | assumption | exact Away.symm (by assumption))
          replace haw_ho2_ho1 := haw_ho2_ho1_; clear haw_ho2_ho1_
          replace ho2 := ho23'; clear ho23'
          replace hS1 := hS1.grew hG23 (hgs_v20)
          clear hG23
          refine L.nil (hX _ _ ⟨.inr hS1, ?_⟩)
          replace ho1 := own_congr ho1 (Nat.zero_add _) (List.nil_append _)
          replace ho2 := own_congr ho2 (Nat.zero_add _) (List.nil_append _)
          obtain ⟨A19, c19, rfl⟩ := own_form ho1
          obtain ⟨A23, c23, rfl⟩ := own_form ho2
          refine D.take 10 rfl (by decide +kernel) (fun w_ hS => (R1.build rfl (built_Q012 _ _ _ _ _ _ _))) hS1 rfl ?_
          refine D.one 12 rfl (by decide +kernel) (fun hX => ?_)
          refine L.storeBox rfl rfl hb5 rfl rfl tyG27 ?_
          intro w57 hb5' hm57
          replace ha := ha.mod hm57 (by simp)
          replace ka := ka.mod hm57 (by simp)
          replace hb := hb.mod hm57 (by simp)
          replace kb := kb.mod hm57 (by simp)
          replace hbd := hbd.gr hm57
          replace hm0 := hm0.old1 hm57 hge_g5
          replace hb2 := Blk.far hb2 hm57 (by first | exact hne_g2_g5 | exact (hne_g5_g2).symm)
          replace hb3 := Blk.far hb3 hm57 (by first | exact hne_g3_g5 | exact (hne_g5_g3).symm)
          replace hb12 := Blk.far hb12 hm57 (by first | exact hne_g12_g5 | exact (hne_g5_g12).symm)
          replace ho2 := own_far ho2 hm57 hno_ho2_g5
          replace ho1 := own_far ho1 hm57 hno_ho1_g5
          clear hm57
          replace hb5 := hb5'; clear hb5'
          refine L.nil (hX _ _ ⟨.inl rfl, ?_⟩)
          refine D.done (by decide +kernel) ?_ _
          refine X.join (g5, A19, c19, A23, c23) ?_ ?_
          · exact ⟨rfl, rfl, rfl, rfl, trivial⟩
          ·
            exact ⟨ho1, ho2, (by first | exact haw_ho1_ho2 | exact haw_ho2_ho1.symm), hno_ho1_g2, hno_ho1_g3, hno_ho1_g5, hno_ho2_g2, hno_ho2_g3, hno_ho2_g5, hb2, hb3, hb5, ha.sub (by intro b hb; simp only [List.mem_append, List.mem_cons] at hb ⊢; rcases hb with hb | hb | hb <;> simp [hb]), ka.sub (by intro b hb; simp only [List.mem_append, List.mem_cons] at hb ⊢; rcases hb with hb | hb | hb <;> simp [hb]), hb.sub (by intro b hb; simp only [List.mem_append, List.mem_cons] at hb ⊢; rcases hb with hb | hb | hb <;> simp [hb]), kb.sub (by intro b hb; simp only [List.mem_append, List.mem_cons] at hb ⊢; rcases hb with hb | hb | hb <;> simp [hb]), (fun m hm => hbd m (by simp only [List.mem_append, List.mem_cons] at hm ⊢; rcases hm with hm | hm | hm <;> simp [hm])), hm0⟩
      ·
        refine ⟨_, rfl, fun hX => ?_⟩
        refine L.alloc tyZ27 rfl ?_
        intro g5 w58 hN5
        replace hS1 := hS1.trans hN5.mod
        replace ha := ha.new hN5
        replace ka := ka.new hN5
        replace hb := hb.new hN5
        replace kb := kb.new hN5
        replace hbd := hbd.new hN5
        have hge_g5 := New.ge hN5 hm0.size
        replace hm0 := hm0.trans (hN5.mod.mono (by simp))
        have hne_g2_g5 := hb2.ne_ hN5
        replace hb2 := Blk.gr hb2 hN5.mod
        have hne_g3_g5 := hb3.ne_ hN5
        replace hb3 := Blk.gr hb3 hN5.mod
        have hne_g12_g5 := hb12.ne_ hN5
        replace hb12 := Blk.gr hb12 hN5.mod
        have hb5 := hN5.blk
        clear hN5
        refine L.nil (hX _ _ ⟨.inr hS1, ?_⟩)
        refine D.many (rs := [2, 6]) (by decide +kernel) rfl ?_
        intro i_ hi_
        simp only [List.mem_cons, List.not_mem_nil, or_false] at hi_
        rcases hi_ with rfl | rfl
        ·
          refine ⟨_, rfl, fun hX => ?_⟩
          refine L.buildEmpty tyS25 rfl ?_
          intro g16 w59 hN16
          have hgs_g16 := New.ge hN16 hS1.size
          replace hS1 := hS1.trans hN16.mod
          have ho1 : World.ownsRow w59 w.heap.size 51 1 (.slice (some ⟨g16, 0, none⟩) 0 0) 0 [] := ⟨rfl, .inr ⟨g16, 0, #[], rfl, New.ge hN16 hm0.size, hN16.blk, Nat.le_refl _, by decide, rfl, rfl⟩⟩
          replace ha := ha.new hN16
          replace ka := ka.new hN16
          replace hb := hb.new hN16
          replace kb := kb.new hN16
          replace hbd := hbd.new hN16
          replace hm0 := hm0.trans (hN16.mod.mono (by simp))
          have hno_ho1_g2 : (Value.slice (some ⟨g16, 0, none⟩) 0 0).ownBlock ≠ some g2 := own_ne_new' (hb2.ne_ hN16)
          replace hb2 := Blk.gr hb2 hN16.mod
          have hno_ho1_g3 : (Value.slice (some ⟨g16, 0, none⟩) 0 0).ownBlock ≠ some g3 := own_ne_new' (hb3.ne_ hN16)
          replace hb3 := Blk.gr hb3 hN16.mod
          have hno_ho1_g12 : (Value.slice (some ⟨g16, 0, none⟩) 0 0).ownBlock ≠ some g12 := own_ne_new' (hb12.ne_ hN16)
          replace hb12 := Blk.gr hb12 hN16.mod
          have hno_ho1_g5 : (Value.slice (some ⟨g16, 0, none⟩) 0 0).ownBlock ≠ some g5 := own_ne_new' (hb5.ne_ hN16)
          replace hb5 := Blk.gr hb5 hN16.mod
          clear hN16
          obtain ⟨v16, hv_v16⟩ : ∃ v, v = Value.slice (some ⟨g16, 0, none⟩) 0 0 := ⟨_, rfl⟩
          have hol_v16 : ownL v16 = [g16] := by rw [hv_v16]; rfl
          have hgs_v16 : ∀ g, v16.ownBlock = some g → _ ≤ g := fun g h9 => by rw [hv_v16] at h9; simp only [Value.ownBlock, Option.some.injEq] at h9; subst h9; exact hgs_g16
          rw [← hv_v16] at ho1 ⊢
          replace ha := ha.sub (of_cons hol_v16)
          replace ka := ka.sub (of_cons hol_v16)
          replace hb := hb.sub (of_cons hol_v16)
          replace kb := kb.sub (of_cons hol_v16)
          replace hbd := hbd.sub (of_cons hol_v16)
          rw [← hv_v16] at hno_ho1_g2
          rw [← hv_v16] at hno_ho1_g3
          rw [← hv_v16] at hno_ho1_g12
          rw [← hv_v16] at hno_ho1_g5
          clear hv_v16 hol_v16
          refine L.nil (hX _ _ ⟨.inr hS1, ?_⟩)
          refine D.many (rs := [5, 6]) (by decide +kernel) rfl ?_
          intro i_ hi_
          simp only [List.mem_cons, List.not_mem_nil, or_false] at hi_
          rcases hi_ with rfl | rfl
          ·
            refine ⟨_, rfl, fun hX => ?_⟩
            refine L.append rfl rfl ho1 ha.1 (by simp [Value.oneCell']) tyS25 tyZ51 (by omega) (by unfold maxLen; omega) hm0.size rfl ?_
            intro v19 w60 ho19' hG19
            replace ha := ha.grew2 hG19 (by first | exact mem_own | (intro b hb; simp [hb]))
            replace ka := ka.grew2 hG19 (by first | exact mem_own | (intro b hb; simp [hb]))
            replace hb := hb.grew2 hG19 (by first | exact mem_own | (intro b hb; simp [hb]))
            replace kb := kb.grew2 hG19 (by first | exact mem_own | (intro b hb; simp [hb]))
            replace hbd := hbd.grew2 hG19 (by first | exact mem_own | (intro b hb; simp [hb]))
            replace hm0 := Mod.oldOwn hm0 hG19.mod ho1
            have hnn_g2 := hG19.ne hno_ho1_g2 hb2
            replace hb2 := Blk.grew hb2 hG19 hno_ho1_g2
            replace hno_ho1_g2 := hnn_g2
            have hnn_g3 := hG19.ne hno_ho1_g3 hb3
            replace hb3 := Blk.grew hb3 hG19 hno_ho1_g3
            replace hno_ho1_g3 := hnn_g3
            have hnn_g12 := hG19.ne hno_ho1_g12 hb12
            replace hb12 := Blk.grew hb12 hG19 hno_ho1_g12
            replace hno_ho1_g12 := hnn_g12
            have hnn_g5 := hG19.ne hno_ho1_g5 hb5
            replace hb5 := Blk.grew hb5 hG19 hno_ho1_g5
            replace hno_ho1_g5 := hnn_g5
            replace ho1 := ho19'; clear ho19'
            replace hS1 := hS1.grew hG19 (hgs_v16)
            clear hG19
            refine L.nil (hX _ _ ⟨.inr hS1, ?_⟩)
            refine D.one 6 rfl (by decide +kernel) (fun hX => ?_)
            refine L.buildEmpty tyS25 rfl ?_
            intro g20 w61 hN20
            have hgs_g20 := New.ge hN20 hS1.size
            replace hS1 := hS1.trans hN20.mod
            have ho2 : World.ownsRow w61 w.heap.size 51 1 (.slice (some ⟨g20, 0, none⟩) 0 0) 0 [] := ⟨rfl, .inr ⟨g20, 0, #[], rfl, New.ge hN20 hm0.size, hN20.blk, Nat.le_refl _, by decide, rfl, rfl⟩⟩
            replace ha := ha.new hN20
            replace ka := ka.new hN20
            replace hb := hb.new hN20
            replace kb := kb.new hN20
            replace hbd := hbd.new hN20
            replace hm0 := hm0.trans (hN20.mod.mono (by simp))
            have hno_ho2_g2 : (Value.slice (some ⟨g20, 0, none⟩) 0 0).ownBlock ≠ some g2 := own_ne_new' (hb2.ne_ hN20)
            replace hb2 := Blk.gr hb2 hN20.mod
            have hno_ho2_g3 : (Value.slice (some ⟨g20, 0, none⟩) 0 0).ownBlock ≠ some g3 := own_ne_new' (hb3.ne_ hN20)
            replace hb3 := Blk.gr hb3 hN20.mod
            have hno_ho2_g12 : (Value.slice (some ⟨g20, 0, none⟩) 0 0).ownBlock ≠ some g12 := own_ne_new' (hb12.ne_ hN20)
            replace hb12 := Blk.gr hb12 hN20.mod
            have hno_ho2_g5 : (Value.slice (some ⟨g20, 0, none⟩) 0 0).ownBlock ≠ some g5 := own_ne_new' (hb5.ne_ hN20)
            replace hb5 := Blk.gr hb5 hN20.mod
            have haw_ho1_ho2 : Away _ (.slice (some ⟨g20, 0, none⟩) 0 0) := own_away_new ho1 hN20
            replace ho1 := own_gr ho1 hN20.mod (by simp)
            clear hN20
            obtain ⟨v20, hv_v20⟩ : ∃ v, v = Value.slice (some ⟨g20, 0, none⟩) 0 0 := ⟨_, rfl⟩
            have hol_v20 : ownL v20 = [g20] := by rw [hv_v20]; rfl
            have hgs_v20 : ∀ g, v20.ownBlock = some g → _ ≤ g := fun g h9 => by rw [hv_v20] at h9; simp only [Value.ownBlock, Option.some.injEq] at h9; subst h9; exact hgs_g20
            rw [← hv_v20] at ho2 ⊢
            replace ha := ha.sub (of_cons hol_v20)
            replace ka := ka.sub (of_cons hol_v20)
            replace hb := hb.sub (of_cons hol_v20)
            replace kb := kb.sub (of_cons hol_v20)
            replace hbd := hbd.sub (of_cons hol_v20)
            rw [← hv_v20] at hno_ho2_g2
            rw [← hv_v20] at hno_ho2_g3
            rw [← hv_v20] at hno_ho2_g12
            rw [← hv_v20] at hno_ho2_g5
            rw [← hv_v20] at haw_ho1_ho2
            clear hv_v20 hol_v20
            refine L.nil (hX _ _ ⟨.inr hS1, ?_⟩)
            refine D.one 9 rfl (by decide +kernel) (fun hX => ?_)
            refine L.append rfl rfl ho2 ka.1 (by simp [Value.oneCell']) tyS25 tyZ51 (by omega) (by unfold maxLen; omega) hm0.size rfl ?_
            intro v23 w62 ho23' hG23
            have haw_ho1_ho2_ := Away.grew haw_ho1_ho2 hG23 ho1
            replace ha := ha.grew2 hG23 (by first | exact mem_own | (intro b hb; simp [hb]))
            replace ka := ka.grew2 hG23 (by first | exact mem_own | (intro b hb; simp [hb]))
            replace hb := hb.grew2 hG23 (by first | exact mem_own | (intro b hb; simp [hb]))
            replace kb := kb.grew2 hG23 (by first | exact mem_own | (intro b hb; simp [hb]))
            replace hbd := hbd.grew2 hG23 (by first | exact mem_own | (intro b hb; simp [hb]))
            replace hm0 := Mod.oldOwn hm0 hG23.mod ho2
            have hnn_g2 := hG23.ne hno_ho2_g2 hb2
            replace hb2 := Blk.grew hb2 hG23 hno_ho2_g2
            replace hno_ho2_g2 := hnn_g2
            have hnn_g3 := hG23.ne hno_ho2_g3 hb3
            replace hb3 := Blk.grew hb3 hG23 hno_ho2_g3
            replace hno_ho2_g3 := hnn_g3
            have hnn_g12 := hG23.ne hno_ho2_g12 hb12
            replace hb12 := Blk.grew hb12 hG23 hno_ho2_g12
            replace hno_ho2_g12 := hnn_g12
            have hnn_g5 := hG23.ne hno_ho2_g5 hb5
            replace hb5 := Blk.grew hb5 hG23 hno_ho2_g5
            replace hno_ho2_g5 := hnn_g5
            replace ho1 := own_away (s' := 1) (el' := 0) (k' := 0) (B' := 0) (ys := []) ho1 hG23.mod (by first | assumption | exact Away.symm (by assumption))
            replace haw_ho1_ho2 := haw_ho1_ho2_; clear haw_ho1_ho2_
            replace ho2 := ho23'; clear ho23'
            replace hS1 := hS1.grew hG23 (hgs_v20)
            clear hG23
            refine L.nil (hX _ _ ⟨.inr hS1, ?_⟩)
            replace ho1 := own_congr ho1 (Nat.zero_add _) (List.nil_append _)
            replace ho2 := own_congr ho2 (Nat.zero_add _) (List.nil_append _)
            obtain ⟨A19, c19, rfl⟩ := own_form ho1
            obtain ⟨A23, c23, rfl⟩ := own_form ho2
            refine D.take 10 rfl (by decide +kernel) (fun w_ hS => (R1.build rfl (built_Q012 _ _ _ _ _ _ _))) hS1 rfl ?_
            refine D.one 12 rfl (by decide +kernel) (fun hX => ?_)
            refine L.storeBox rfl rfl hb5 rfl rfl tyG27 ?_
            intro w63 hb5' hm63
            replace ha := ha.mod hm63 (by simp)
            replace ka := ka.mod hm63 (by simp)
            replace hb := hb.mod hm63 (by simp)
            replace kb := kb.mod hm63 (by simp)
            replace hbd := hbd.gr hm63
            replace hm0 := hm0.old1 hm63 hge_g5
            replace hb2 := Blk.far hb2 hm63 (by first | exact hne_g2_g5 | exact (hne_g5_g2).symm)
            replace hb3 := Blk.far hb3 hm63 (by first | exact hne_g3_g5 | exact (hne_g5_g3).symm)
            replace hb12 := Blk.far hb12 hm63 (by first | exact hne_g12_g5 | exact (hne_g5_g12).symm)
            replace ho1 := own_far ho1 hm63 hno_ho1_g5
            replace ho2 := own_far ho2 hm63 hno_ho2_g5
            clear hm63
            replace hb5 := hb5'; clear hb5'
            refine L.nil (hX _ _ ⟨.inl rfl, ?_⟩)
            refine D.done (by decide +kernel) ?_ _
            refine X.join (g5, A19, c19, A23, c23) ?_ ?_
            · exact ⟨rfl, rfl, rfl, rfl, trivial⟩
            ·
              exact ⟨ho1, ho2, (by first | exact haw_ho1_ho2 | exact haw_ho2_ho1.symm), hno_ho1_g2, hno_ho1_g3, hno_ho1_g5, hno_ho2_g2, hno_ho2_g3, hno_ho2_g5, hb2, hb3, hb5, ha.sub (by intro b hb; simp only [List.mem_append, List.mem_cons] at hb ⊢; rcases hb with hb | hb | hb <;> simp [hb]), ka.sub (by intro b hb; simp only [List.mem_append, List.mem_cons] at hb ⊢; rcases hb with hb | hb | hb <;> simp [hb]), hb.sub (by intro b hb; simp only [List.mem_append, List.mem_cons] at hb ⊢; rcases hb with hb | hb | hb <;> simp [hb]), kb.sub (by intro b hb; simp only [List.mem_append, List.mem_cons] at hb ⊢; rcases hb with hb | hb | hb <;> simp [hb]), (fun m hm => hbd m (by simp only [List.mem_append, List.mem_cons] at hm ⊢; rcases hm with hm | hm | hm <;> simp [hm])), hm0⟩
          ·
            refine ⟨_, rfl, fun hX => ?_⟩
            refine L.buildEmpty tyS25 rfl ?_
            intro g20 w64 hN20
            have hgs_g20 := New.ge hN20 hS1.size
            replace hS1 := hS1.trans hN20.mod
            have ho2 : World.ownsRow w64 w.heap.size 51 1 (.slice (some ⟨g20, 0, none⟩) 0 0) 0 [] := ⟨rfl, .inr ⟨g20, 0, #[], rfl, New.ge hN20 hm0.size, hN20.blk, Nat.le_refl _, by decide, rfl, rfl⟩⟩
            replace ha := ha.new hN20
            replace ka := ka.new hN20
            replace hb := hb.new hN20
            replace kb := kb.new hN20
            replace hbd := hbd.new hN20
            replace hm0 := hm0.trans (hN20.mod.mono (by simp))
            have hno_ho2_g2 : (Value.slice (some ⟨g20, 0, none⟩) 0 0).ownBlock ≠ some g2 := own_ne_new' (hb2.ne_ hN20)
            replace hb2 := Blk.gr hb2 hN20.mod
            have hno_ho2_g3 : (Value.slice (some ⟨g20, 0, none⟩) 0 0).ownBlock ≠ some g3 := own_ne_new' (hb3.ne_ hN20)
            replace hb3 := Blk.gr hb3 hN20.mod
            have hno_ho2_g12 : (Value.slice (some ⟨g20, 0, none⟩) 0 0).ownBlock ≠ some g12 := own_ne_new' (hb12.ne_ hN20)
            replace hb12 := Blk.gr hb12 hN20.mod
            have hno_ho2_g5 : (Value.slice (some ⟨g20, 0, none⟩) 0 0).ownBlock ≠ some g5 := own_ne_new' (hb5.ne_ hN20)
            replace hb5 := Blk.gr hb5 hN20.mod
            have haw_ho1_ho2 : Away _ (.slice (some ⟨g20, 0, none⟩) 0 0) := own_away_new ho1 hN20
            replace ho1 := own_gr ho1 hN20.mod (by simp)
            clear hN20
            obtain ⟨v20, hv_v20⟩ : ∃ v, v = Value.slice (some ⟨g20, 0, none⟩) 0 0 := ⟨_, rfl⟩
            have hol_v20 : ownL v20 = [g20] := by rw [hv_v20]; rfl
            have hgs_v20 : ∀ g, v20.ownBlock = some g → _ ≤ g := fun g h9 => by rw [hv_v20] at h9; simp only [Value.ownBlock, Option.some.injEq] at h9; subst h9; exact hgs_g20
            rw [← hv_v20] at ho2 ⊢
            replace ha := ha.sub (of_cons hol_v20)
            replace ka := ka.sub (of_cons hol_v20)
            replace hb := hb.sub (of_cons hol_v20)
            replace kb := kb.sub (of_cons hol_v20)
            replace hbd := hbd.sub (of_cons hol_v20)
            rw [← hv_v20] at hno_ho2_g2
            rw [← hv_v20] at hno_ho2_g3
            rw [← hv_v20] at hno_ho2_g12
            rw [← hv_v20] at hno_ho2_g5
            rw [← hv_v20] at haw_ho1_ho2
            clear hv_v20 hol_v20
            refine L.nil (hX _ _ ⟨.inr hS1, ?_⟩)
            refine D.one 5 rfl (by decide +kernel) (fun hX => ?_)
            refine L.append rfl rfl ho1 ha.1 (by simp [Value.oneCell']) tyS25 tyZ51 (by omega) (by unfold maxLen; omega) hm0.size rfl ?_
            intro v19 w65 ho19' hG19
            have haw_ho1_ho2_ := (Away.grew haw_ho1_ho2.symm hG19 ho2).symm
            replace ha := ha.grew2 hG19 (by first | exact mem_own | (intro b hb; simp [hb]))
            replace ka := ka.grew2 hG19 (by first | exact mem_own | (intro b hb; simp [hb]))
            replace hb := hb.grew2 hG19 (by first | exact mem_own | (intro b hb; simp [hb]))
            replace kb := kb.grew2 hG19 (by first | exact mem_own | (intro b hb; simp [hb]))
            replace hbd := hbd.grew2 hG19 (by first | exact mem_own | (intro b hb; simp [hb]))
            replace hm0 := Mod.oldOwn hm0 hG19.mod ho1
            have hnn_g2 := hG19.ne hno_ho1_g2 hb2
            replace hb2 := Blk.grew hb2 hG19 hno_ho1_g2
            replace hno_ho1_g2 := hnn_g2
            have hnn_g3 := hG19.ne hno_ho1_g3 hb3
            replace hb3 := Blk.grew hb3 hG19 hno_ho1_g3
            replace hno_ho1_g3 := hnn_g3
            have hnn_g12 := hG19.ne hno_ho1_g12 hb12
            replace hb12 := Blk.grew hb12 hG19 hno_ho1_g12
            replace hno_ho1_g12 := hnn_g12
            have hnn_g5 := hG19.ne hno_ho1_g5 hb5
            replace hb5 := Blk.grew hb5 hG19 hno_ho1_g5
            replace hno_ho1_g5 := hnn_g5
            replace ho2 := own_away (s' := 1) (el' := 0) (k' := 0) (B' := 0) (ys := []) ho2 hG19.mod (by first | assumption | exact Away.symm (by assumption))
            replace haw_ho1_ho2 := haw_ho1_ho2_; clear haw_ho1_ho2_
            replace ho1 := ho19'; clear ho19'
            replace hS1 := hS1.grew hG19 (hgs_v16)
            clear hG19
            refine L.nil (hX _ _ ⟨.inr hS1, ?_⟩)
            refine D.one 9 rfl (by decide +kernel) (fun hX => ?_)
            refine L.append rfl rfl ho2 ka.1 (by simp [Value.oneCell']) tyS25 tyZ51 (by omega) (by unfold maxLen; omega) hm0.size rfl ?_
            intro v23 w66 ho23' hG23
            have haw_ho1_ho2_ := Away.grew haw_ho1_ho2 hG23 ho1
            replace ha := ha.grew2 hG23 (by first | exact mem_own | (intro b hb; simp [hb]))
            replace ka := ka.grew2 hG23 (by first | exact mem_own | (intro b hb; simp [hb]))
            replace hb := hb.grew2 hG23 (by first | exact mem_own | (intro b hb; simp [hb]))
            replace kb := kb.grew2 hG23 (by first | exact mem_own | (intro b hb; simp [hb]))
            replace hbd := hbd.grew2 hG23 (by first | exact mem_own | (intro b hb; simp [hb]))
            replace hm0 := Mod.oldOwn hm0 hG23.mod ho2
            have hnn_g2 := hG23.ne hno_ho2_g2 hb2
            replace hb2 := Blk.grew hb2 hG23 hno_ho2_g2
            replace hno_ho2_g2 := hnn_g2
            have hnn_g3 := hG23.ne hno_ho2_g3 hb3
            replace hb3 := Blk.grew hb3 hG23 hno_ho2_g3
            replace hno_ho2_g3 := hnn_g3
            have hnn_g12 := hG23.ne hno_ho2_g12 hb12
            replace hb12 := Blk.grew hb12 hG23 hno_ho2_g12
            replace hno_ho2_g12 := hnn_g12
            have hnn_g5 := hG23.ne hno_ho2_g5 hb5
            replace hb5 := Blk.grew hb5 hG23 hno_ho2_g5
            replace hno_ho2_g5 := hnn_g5
            replace ho1 := own_away (s' := 1) (el' := 0) (k' := 0) (B' := 0) (ys := []) ho1 hG23.mod (by first | assumption | exact Away.symm (by assumption))
            replace haw_ho1_ho2 := haw_ho1_ho2_; clear haw_ho1_ho2_
            replace ho2 := ho23'; clear ho23'
            replace hS1 := hS1.grew hG23 (hgs_v20)
            clear hG23
            refine L.nil (hX _ _ ⟨.inr hS1, ?_⟩)
            replace ho1 := own_congr ho1 (Nat.zero_add _) (List.nil_append _)
            replace ho2 := own_congr ho2 (Nat.zero_add _) (List.nil_append _)
            obtain ⟨A19, c19, rfl⟩ := own_form ho1
            obtain ⟨A23, c23, rfl⟩ := own_form ho2
            refine D.take 10 rfl (by decide +kernel) (fun w_ hS => (R1.build rfl (built_Q012 _ _ _ _ _ _ _))) hS1 rfl ?_
            refine D.one 12 rfl (by decide +kernel) (fun hX => ?_)
            refine L.storeBox rfl rfl hb5 rfl rfl tyG27 ?_
            intro w67 hb5' hm67
            replace ha := ha.mod hm67 (by simp)
            replace ka := ka.mod hm67 (by simp)
            replace hb := hb.mod hm67 (by simp)
            replace kb := kb.mod hm67 (by simp)
            replace hbd := hbd.gr hm67
            replace hm0 := hm0.old1 hm67 hge_g5
            replace hb2 := Blk.far hb2 hm67 (by first | exact hne_g2_g5 | exact (hne_g5_g2).symm)
            replace hb3 := Blk.far hb3 hm67 (by first | exact hne_g3_g5 | exact (hne_g5_g3).symm)
            replace hb12 := Blk.far hb12 hm67 (by first | exact hne_g12_g5 | exact (hne_g5_g12).symm)
            replace ho1 := own_far ho1 hm67 hno_ho1_g5
            replace ho2 := own_far ho2 hm67 hno_ho2_g5
            clear hm67
            replace hb5 := hb5'; clear hb5'
            refine L.nil (hX _ _ ⟨.inl rfl, ?_⟩)
            refine D.done (by decide +kernel) ?_ _
            refine X.join (g5, A19, c19, A23, c23) ?_ ?_
            · exact ⟨rfl, rfl, rfl, rfl, trivial⟩
            ·
              exact ⟨ho1, ho2, (by first | exact haw_ho1_ho2 | exact haw_ho2_ho1.symm), hno_ho1_g2, hno_ho1_g3, hno_ho1_g5, hno_ho2_g2, hno_ho2_g3, hno_ho2_g5, hb2, hb3, hb5, ha.sub (by intro b hb; simp only [List.mem_append, List.mem_cons] at hb ⊢; rcases hb with hb | hb | hb <;> simp [hb]), ka.sub (by intro b hb; simp only [List.mem_append, List.mem_cons] at hb ⊢; rcases hb with hb | hb | hb <;> simp [hb]), hb.sub (by intro b hb; simp only [List.mem_append, List.mem_cons] at hb ⊢; rcases hb with hb | hb | hb <;> simp [hb]), kb.sub (by intro b hb; simp only [List.mem_append, List.mem_cons] at hb ⊢; rcases hb with hb | hb | hb <;> simp [hb]), (fun m hm => hbd m (by simp only [List.mem_append, List.mem_cons] at hm ⊢; rcases hm with hm | hm | hm <;> simp [hm])), hm0⟩
        ·
          refine ⟨_, rfl, fun hX => ?_⟩
          refine L.buildEmpty tyS25 rfl ?_
          intro g20 w68 hN20
          have hgs_g20 := New.ge hN20 hS1.size
          replace hS1 := hS1.trans hN20.mod
          have ho2 : World.ownsRow w68 w.heap.size 51 1 (.slice (some ⟨g20, 0, none⟩) 0 0) 0 [] := ⟨rfl, .inr ⟨g20, 0, #[], rfl, New.ge hN20 hm0.size, hN20.blk, Nat.le_refl _, by decide, rfl, rfl⟩⟩
          replace ha := ha.new hN20
          replace ka := ka.new hN20
          replace hb := hb.new hN20
          replace kb := kb.new hN20
          replace hbd := hbd.new hN20
          replace hm0 := hm0.trans (hN20.mod.mono (by simp))
          have hno_ho2_g2 : (Value.slice (some ⟨g20, 0, none⟩) 0 0).ownBlock ≠ some g2 := own_ne_new' (hb2.ne_ hN20)
          replace hb2 := Blk.gr hb2 hN20.mod
          have hno_ho2_g3 : (Value.slice (some ⟨g20, 0, none⟩) 0 0).ownBlock ≠ some g3 := own_ne_new' (hb3.ne_ hN20)
          replace hb3 := Blk.gr hb3 hN20.mod
          have hno_ho2_g12 : (Value.slice (some ⟨g20, 0, none⟩) 0 0).ownBlock ≠ some g12 := own_ne_new' (hb12.ne_ hN20)
          replace hb12 := Blk.gr hb12 hN20.mod
          have hno_ho2_g5 : (Value.slice (some ⟨g20, 0, none⟩) 0 0).ownBlock ≠ some g5 := own_ne_new' (hb5.ne_ hN20)
          replace hb5 := Blk.gr hb5 hN20.mod
          clear hN20
          obtain ⟨v20, hv_v20⟩ : ∃ v, v = Value.slice (some ⟨g20, 0, none⟩) 0 0 := ⟨_, rfl⟩
          have hol_v20 : ownL v20 = [g20] := by rw [hv_v20]; rfl
          have hgs_v20 : ∀ g, v20.ownBlock = some g → _ ≤ g := fun g h9 => by rw [hv_v20] at h9; simp only [Value.ownBlock, Option.some.injEq] at h9; subst h9; exact hgs_g20
          rw [← hv_v20] at ho2 ⊢
          replace ha := ha.sub (of_cons hol_v20)
          replace ka := ka.sub (of_cons hol_v20)
          replace hb := hb.sub (of_cons hol_v20)
          replace kb := kb.sub (of_cons hol_v20)
          replace hbd := hbd.sub (of_cons hol_v20)
          rw [← hv_v20] at hno_ho2_g2
          rw [← hv_v20] at hno_ho2_g3
          rw [← hv_v20] at hno_ho2_g12
          rw [← hv_v20] at hno_ho2_g5
          clear hv_v20 hol_v20
          refine L.nil (hX _ _ ⟨.inr hS1, ?_⟩)
          refine D.one 2 rfl (by decide +kernel) (fun hX => ?_)
          refine L.buildEmpty tyS25 rfl ?_
          intro g16 w69 hN16
          have hgs_g16 := New.ge hN16 hS1.size
          replace hS1 := hS1.trans hN16.mod
          have ho1 : World.ownsRow w69 w.heap.size 51 1 (.slice (some ⟨g16, 0, none⟩) 0 0) 0 [] := ⟨rfl, .inr ⟨g16, 0, #[], rfl, New.ge hN16 hm0.size, hN16.blk, Nat.le_refl _, by decide, rfl, rfl⟩⟩
          replace ha := ha.new hN16
          replace ka := ka.new hN16
          replace hb := hb.new hN16
          replace kb := kb.new hN16
          replace hbd := hbd.new hN16
          replace hm0 := hm0.trans (hN16.mod.mono (by simp))
          have hno_ho1_g2 : (Value.slice (some ⟨g16, 0, none⟩) 0 0).ownBlock ≠ some g2 := own_ne_new' (hb2.ne_ hN16)
          replace hb2 := Blk.gr hb2 hN16.mod
          have hno_ho1_g3 : (Value.slice (some ⟨g16, 0, none⟩) 0 0).ownBlock ≠ some g3 := own_ne_new' (hb3.ne_ hN16)
          replace hb3 := Blk.gr hb3 hN16.mod
          have hno_ho1_g12 : (Value.slice (some ⟨g16, 0, none⟩) 0 0).ownBlock ≠ some g12 := own_ne_new' (hb12.ne_ hN16)
          replace hb12 := Blk.gr hb12 hN16.mod
          have hno_ho1_g5 : (Value.slice (some ⟨g16, 0, none⟩) 0 0).ownBlock ≠ some g5 := own_ne_new' (hb5.ne_ hN16)
          replace hb5 := Blk.gr hb5 hN16.mod
          have haw_ho2_ho1 : Away _ (.slice (some ⟨g16, 0, none⟩) 0 0) := own_away_new ho2 hN16
          replace ho2 := own_gr ho2 hN16.mod (by simp)
          clear hN16
          obtain ⟨v16, hv_v16⟩ : ∃ v, v = Value.slice (some ⟨g16, 0, none⟩) 0 0 := ⟨_, rfl⟩
          have hol_v16 : ownL v16 = [g16] := by rw [hv_v16]; rfl
          have hgs_v16 : ∀ g, v16.ownBlock = some g → _ ≤ g := fun g h9 => by rw [hv_v16] at h9; simp only [Value.ownBlock, Option.some.injEq] at h9; subst h9; exact hgs_g16
          rw [← hv_v16] at ho1 ⊢
          replace ha := ha.sub (of_cons hol_v16)
          replace ka := ka.sub (of_cons hol_v16)
          replace hb := hb.sub (of_cons hol_v16)
          replace kb := kb.sub (of_cons hol_v16)
          replace hbd := hbd.sub (of_cons hol_v16)
          rw [← hv_v16] at hno_ho1_g2
          rw [← hv_v16] at hno_ho1_g3
          rw [← hv_v16] at hno_ho1_g12
          rw [← hv_v16] at hno_ho1_g5
          rw [← hv_v16] at haw_ho2_ho1
          clear hv_v16 hol_v16
          refine L.nil (hX _ _ ⟨.inr hS1, ?_⟩)
          refine D.one 5 rfl (by decide +kernel) (fun hX => ?_)
          refine L.append rfl rfl ho1 ha.1 (by simp [Value.oneCell']) tyS25 tyZ51 (by omega) (by unfold maxLen; omega) hm0.size rfl ?_
          intro v19 w70 ho19' hG19
          have haw_ho2_ho1_ := Away.grew haw_ho2_ho1 hG19 ho2
          replace ha := ha.grew2 hG19 (by first | exact mem_own | (intro b hb; simp [hb]))
          replace ka := ka.grew2 hG19 (by first | exact mem_own | (intro b hb; simp [hb]))
          replace hb := hb.grew2 hG19 (by first | exact mem_own | (intro b hb; simp [hb]))
          replace kb := kb.grew2 hG19 (by first | exact mem_own | (intro b hb; simp [hb]))
          replace hbd := hbd.grew2 hG19 (by first | exact mem_own | (intro b hb; simp [hb]))
          replace hm0 := Mod.oldOwn hm0 hG19.mod ho1
          have hnn_g2 := hG19.ne hno_ho1_g2 hb2
          replace hb2 := Blk.grew hb2 hG19 hno_ho1_g2
          replace hno_ho1_g2 := hnn_g2
          have hnn_g3 := hG19.ne hno_ho1_g3 hb3
          replace hb3 := Blk.grew hb3 hG19 hno_ho1_g3
          replace hno_ho1_g3 := hnn_g3
          have hnn_g12 := hG19.ne hno_ho1_g12 hb12
          replace hb12 := Blk.grew hb12 hG19 hno_ho1_g12
          replace hno_ho1_g12 := hnn_g12
          have hnn_g5 := hG19.ne hno_ho1_g5 hb5
          replace hb5 := Blk.grew hb5 hG19 hno_ho1_g5
          replace hno_ho1_g5 := hnn_g5
          replace ho2 := own_away (s' := 1) (el' := 0) (k' := 0) (B' := 0) (ys := []) ho2 hG19.mod (by first | assumption | exact Away.symm (by assumption))
          replace haw_ho2_ho1 := haw_ho2_ho1_; clear haw_ho2_ho1_
          replace ho1 := ho19'; clear ho19'
          replace hS1 := hS1.grew hG19 (hgs_v16)
          clear hG19
          refine L.nil (hX _ _ ⟨.inr hS1, ?_⟩)
          refine D.one 9 rfl (by decide +kernel) (fun hX => ?_)
          refine L.append rfl rfl ho2 ka.1 (by simp [Value.oneCell']) tyS25 tyZ51 (by omega) (by unfold maxLen; omega) hm0.size rfl ?_
          intro v23 w71 ho23' hG23
          have haw_ho2_ho1_ := (Away.grew haw_ho2_ho1.symm hG23 ho1).symm
          replace ha := ha.grew2 hG23 (by first | exact mem_own | (intro b hb; simp [hb]))
          replace ka := ka.grew2 hG23 (by first | exact mem_own | (intro b hb; simp [hb]))
          replace hb := hb.grew2 hG23 (by first | exact mem_own | (intro b hb; simp [hb]))
          replace kb := kb.grew2 hG23 (by first | exact mem_own | (intro b hb; simp [hb]))
          replace hbd := hbd.grew2 hG23 (by first | exact mem_own | (intro b hb; simp [hb]))
          replace hm0 := Mod.oldOwn hm0 hG23.mod ho2
          have hnn_g2 := hG23.ne hno_ho2_g2 hb2
          replace hb2 := Blk.grew hb2 hG23 hno_ho2_g2
          replace hno_ho2_g2 := hnn_g2
          have hnn_g3 := hG23.ne hno_ho2_g3 hb3
          replace hb3 := Blk.grew hb3 hG23 hno_ho2_g3
          replace hno_ho2_g3 := hnn_g3
          have hnn_g12 := hG23.ne hno_ho2_g12 hb12
          replace hb12 := Blk.grew hb12 hG23 hno_ho2_g12
          replace hno_ho2_g12 := hnn_g12
          have hnn_g5 := hG23.ne hno_ho2_g5 hb5
          replace hb5 := Blk.grew hb5 hG23 hno_ho2_g5
          replace hno_ho2_g5 := hnn_g5
          replace ho1 := own_away (s' := 1) (el' := 0) (k' := 0) (B' := 0) (ys := []) ho1 hG23.mod (by first | assumption | exact Away.symm (by assumption))
          replace haw_ho2_ho1 := haw_ho2_ho1_; clear haw_ho2_ho1_
          replace ho2 := ho23'; clear ho23'
          replace hS1 := hS1.grew hG23 (hgs_v20)
          clear hG23
          refine L.nil (hX _ _ ⟨.inr hS1, ?_⟩)
          replace ho1 := own_congr ho1 (Nat.zero_add _) (List.nil_append _)
          replace ho2 := own_congr ho2 (Nat.zero_add _) (List.nil_append _)
          obtain ⟨A19, c19, rfl⟩ := own_form ho1
          obtain ⟨A23, c23, rfl⟩ := own_form ho2
          refine D.take 10 rfl (by decide +kernel) (fun w_ hS => (R1.build rfl (built_Q012 _ _ _ _ _ _ _))) hS1 rfl ?_
          refine D.one 12 rfl (by decide +kernel) (fun hX => ?_)
          refine L.storeBox rfl rfl hb5 rfl rfl tyG27 ?_
          intro w72 hb5' hm72
          replace ha := ha.mod hm72 (by simp)
          replace ka := ka.mod hm72 (by simp)
          replace hb := hb.mod hm72 (by simp)
          replace kb := kb.mod hm72 (by simp)
          replace hbd := hbd.gr hm72
          replace hm0 := hm0.old1 hm72 hge_g5
          replace hb2 := Blk.far hb2 hm72 (by first | exact hne_g2_g5 | exact (hne_g5_g2).symm)
          replace hb3 := Blk.far hb3 hm72 (by first | exact hne_g3_g5 | exact (hne_g5_g3).symm)
          replace hb12 := Blk.far hb12 hm72 (by first | exact hne_g12_g5 | exact (hne_g5_g12).symm)
          replace ho2 := own_far ho2 hm72 hno_ho2_g5
          replace ho1 := own_far ho1 hm72 hno_ho1_g5
          clear hm72
          replace hb5 := hb5'; clear hb5'
          refine L.nil (hX _ _ ⟨.inl rfl, ?_⟩)
          refine D.done (by decide +kernel) ?_ _
          refine X.join (g5, A19, c19, A23, c23) ?_ ?_
          · exact ⟨rfl, rfl, rfl, rfl, trivial⟩
          ·
            exact ⟨ho1, ho2, (by first | exact haw_ho1_ho2 | exact haw_ho2_ho1.symm), hno_ho1_g2, hno_ho1_g3, hno_ho1_g5, hno_ho2_g2, hno_ho2_g3, hno_ho2_g5, hb2, hb3, hb5, ha.sub (by intro b hb; simp only [List.mem_append, List.mem_cons] at hb ⊢; rcases hb with hb | hb | hb <;> simp [hb]), ka.sub (by intro b hb; simp only [List.mem_append, List.mem_cons] at hb ⊢; rcases hb with hb | hb | hb <;> simp [hb]), hb.sub (by intro b hb; simp only [List.mem_append, List.mem_cons] at hb ⊢; rcases hb with hb | hb | hb <;> simp [hb]), kb.sub (by intro b hb; simp only [List.mem_append, List.mem_cons] at hb ⊢; rcases hb with hb | hb | hb <;> simp [hb]), (fun m hm => hbd m (by simp only [List.mem_append, List.mem_cons] at hm ⊢; rcases hm with hm | hm | hm <;> simp [hm])), hm0⟩
    ·
      rintro ⟨g5, A19, c19, A23, c23⟩ wj ⟨ho1, ho2, haw, hno_ho1_g2, hno_ho1_g3, hno_ho1_g5, hno_ho2_g2, hno_ho2_g3, hno_ho2_g5, hb2, hb3, hb5, ha, ka, hb, kb, hbd, hm0⟩
      refine X.seq ?_
      refine W.seq ?_
      refine W.drawW (T := [7, 8]) rfl (by decide +kernel) (NoHang.then NoHang.post) (fun w73 hm73 => ?_)
      replace ho1 := own_gr ho1 hm73 (by simp)
      replace ho2 := own_gr ho2 hm73 (by simp)
      replace hb2 := Blk.gr hb2 hm73
      replace hb3 := Blk.gr hb3 hm73
      replace hb5 := Blk.gr hb5 hm73
      replace ha := ha.gr hm73
      replace ka := ka.gr hm73
      replace hb := hb.gr hm73
      replace kb := kb.gr hm73
      replace hbd := hbd.gr hm73
      replace hm0 := hm0.trans hm73
      have hS2 : Mod [] w73 w73 := Mod.refl _ _
      clear hm73
      have hb2_s := hb2
      have hb3_s := hb3
      have hb5_s := hb5
      refine D.take 0 rfl (by decide +kernel) (fun w_ hS => (R1.loadBox rfl (Blk.gr hb5_s hS) tyG27)) hS2 rfl ?_
      refine D.take 2 rfl (by decide +kernel) (fun w_ hS => (R1.loadBox rfl (Blk.gr hb5_s hS) tyG27)) hS2 rfl ?_
      refine D.take 3 rfl (by decide +kernel) (fun w_ hS => (R1.loadBox rfl (Blk.gr hb3_s hS) tyG27)) hS2 rfl ?_
      refine D.par2 1 4 5 6 rfl rfl rfl rfl (by decide +kernel) rfl rfl tyZ27 tyZ27 rfl rfl rfl hS2 (F1 := fun wa v wb => RN (List.range wa.heap.size) wb v qa) (F2 := fun wa v wb => RN (List.range wa.heap.size) wb v (qa + qb)) (fun wa hm => c_rat_Norm (M := List.range wa.heap.size) hqa ((U32.of_own (M := []) ho1 ha.2 (by simp)).gr hm) ((U32.of_own (M := []) ho2 ka.2 (by simp)).gr hm) (range_bd _) (by omega) (by omega)) (fun wa hm => c_rat_Add (M := List.range wa.heap.size) hqa hqb ((U32.of_own (M := []) ho1 ha.2 (by simp)).gr hm) ((U32.of_own (M := []) ho2 ka.2 (by simp)).gr hm) (hb.gr hm) (kb.gr hm) (range_bd _) (by omega) (by omega) (by omega) (by omega)) ?_
      intro v26 v29 g6 g7 wa1_ wb1_ wa2_ wb2_ w74 hP
      obtain ⟨A26, c26, B26, e26, rfl, hn26, hd26⟩ := hP.f1.par hP.n1 (hP.a1 hbd)
      obtain ⟨A29, c29, B29, e29, rfl, hn29, hd29⟩ := hP.f2.par hP.m3 (hP.a2 hbd)
      have hno_ho1_g6 : _ ≠ some g6 := fun h9 => by have h8 := (own_ge ho1 _ h9).2; have h7 := hP.ge1; omega
      have hno_ho1_g7 : _ ≠ some g7 := fun h9 => by have h8 := (own_ge ho1 _ h9).2; have h7 := hP.ge2; omega
      replace ho1 := own_gr ho1 hP.mod (by simp)
      have hno_ho2_g6 : _ ≠ some g6 := fun h9 => by have h8 := (own_ge ho2 _ h9).2; have h7 := hP.ge1; omega
      have hno_ho2_g7 : _ ≠ some g7 := fun h9 => by have h8 := (own_ge ho2 _ h9).2; have h7 := hP.ge2; omega
      replace ho2 := own_gr ho2 hP.mod (by simp)
      have hne_g2_g6 := Nat.ne_of_lt (Nat.lt_of_lt_of_le (Blk.lt hb2) hP.ge1)
      have hne_g2_g7 := Nat.ne_of_lt (Nat.lt_of_lt_of_le (Blk.lt hb2) hP.ge2)
      replace hb2 := Blk.gr hb2 hP.mod
      have hne_g3_g6 := Nat.ne_of_lt (Nat.lt_of_lt_of_le (Blk.lt hb3) hP.ge1)
      have hne_g3_g7 := Nat.ne_of_lt (Nat.lt_of_lt_of_le (Blk.lt hb3) hP.ge2)
      replace hb3 := Blk.gr hb3 hP.mod
      have hne_g5_g6 := Nat.ne_of_lt (Nat.lt_of_lt_of_le (Blk.lt hb5) hP.ge1)
      have hne_g5_g7 := Nat.ne_of_lt (Nat.lt_of_lt_of_le (Blk.lt hb5) hP.ge2)
      replace hb5 := Blk.gr hb5 hP.mod
      replace ha := ha.par2 hP
      replace ka := ka.par2 hP
      replace hb := hb.par2 hP
      replace kb := kb.par2 hP
      replace hbd := hbd.par2 hP
      have hge_g6 := Nat.le_trans hm0.size hP.ge1
      have hge_g7 := Nat.le_trans hm0.size hP.ge2
      replace hm0 := hm0.trans (hP.mod.mono (by simp))
      replace hS2 := hS2.trans hP.mod
      have hne_g6_g7 := hP.ne
      have hb6 := hP.blk1; have hb7 := hP.blk2; clear hP
      refine D.one 7 rfl (by decide +kernel) (fun hX => ?_)
      refine L.storeBox rfl rfl hb6 rfl rfl tyG27 ?_
      intro w75 hb6' hm75
      replace ho1 := own_far ho1 hm75 hno_ho1_g6
      replace ho2 := own_far ho2 hm75 hno_ho2_g6
      replace hb2 := Blk.far hb2 hm75 (by first | exact hne_g2_g6 | exact (hne_g6_g2).symm)
      replace hb3 := Blk.far hb3 hm75 (by first | exact hne_g3_g6 | exact (hne_g6_g3).symm)
      replace hb5 := Blk.far hb5 hm75 (by first | exact hne_g5_g6 | exact (hne_g6_g5).symm)
      replace ha := ha.mod hm75 (by simp)
      replace ka := ka.mod hm75 (by simp)
      replace hb := hb.mod hm75 (by simp)
      replace kb := kb.mod hm75 (by simp)
      replace hbd := hbd.gr hm75
      replace hm0 := hm0.old1 hm75 hge_g6
      replace hb7 := Blk.far hb7 hm75 (by first | exact hne_g7_g6 | exact (hne_g6_g7).symm)
      replace hn26 := hn26.mod hm75 (by simp)
      replace hd26 := hd26.mod hm75 (by simp)
      replace hn29 := hn29.mod hm75 (by simp)
      replace hd29 := hd29.mod hm75 (by simp)
      clear hm75
      replace hb6 := hb6'; clear hb6'
      refine L.nil (hX _ _ ⟨.inl rfl, ?_⟩)
      refine D.one 8 rfl (by decide +kernel) (fun hX => ?_)
      refine L.storeBox rfl rfl hb7 rfl rfl tyG27 ?_
      intro w76 hb7' hm76
      replace ho1 := own_far ho1 hm76 hno_ho1_g7
      replace ho2 := own_far ho2 hm76 hno_ho2_g7
      replace hb2 := Blk.far hb2 hm76 (by first | exact hne_g2_g7 | exact (hne_g7_g2).symm)
      replace hb3 := Blk.far hb3 hm76 (by first | exact hne_g3_g7 | exact (hne_g7_g3).symm)
      replace hb5 := Blk.far hb5 hm76 (by first | exact hne_g5_g7 | exact (hne_g7_g5).symm)
      replace ha := ha.mod hm76 (by simp)
      replace ka := ka.mod hm76 (by simp)
      replace hb := hb.mod hm76 (by simp)
      replace kb := kb.mod hm76 (by simp)
      replace hbd := hbd.gr hm76
      replace hm0 := hm0.old1 hm76 hge_g7
      replace hn26 := hn26.mod hm76 (by simp)
      replace hd26 := hd26.mod hm76 (by simp)
      replace hn29 := hn29.mod hm76 (by simp)
      replace hd29 := hd29.mod hm76 (by simp)
      replace hb6 := Blk.far hb6 hm76 (by first | exact hne_g6_g7 | exact (hne_g7_g6).symm)
      clear hm76
      replace hb7 := hb7'; clear hb7'
      refine L.nil (hX _ _ ⟨.inl rfl, ?_⟩)
      refine D.done (by decide +kernel) ?_ _
      refine X.seq ?_
      refine W.seq ?_
      have hx1 : U32 [] w76 (Value.slice A19 xa.length c19) xa := U32.of_own ho1 ha.2 (by simp)
      have hx2 : U32 [] w76 (Value.slice A23 ya.length c23) ya := U32.of_own ho2 ka.2 (by simp)
      have F26 := FA
      have F29 := Fit.add FA FB
      refine W.region ?_
      refine L.v (R1.loadBox rfl hb5 tyG27) rfl ?_
      refine L.v (R1.loadBox rfl hb3 tyG27) rfl ?_
      refine L.call rfl (c_rat_Mul (qa := qa) (qb := qb) hqa hqb hx1 hx2 hb kb hbd (by omega) (by omega) (by omega) (by omega)) rfl ?_
      rintro _ w77 ⟨⟨A32, c32, B32, e32, rfl, hn32, hd32⟩, hm77⟩
      replace ho1 := own_gr ho1 hm77 (by simp)
      replace ho2 := own_gr ho2 hm77 (by simp)
      replace hb2 := Blk.gr hb2 hm77
      replace hb3 := Blk.gr hb3 hm77
      replace hb5 := Blk.gr hb5 hm77
      replace ha := ha.gr hm77
      replace ka := ka.gr hm77
      replace hb := hb.gr hm77
      replace kb := kb.gr hm77
      replace hbd := hbd.gr hm77
      replace hm0 := hm0.trans hm77
      replace hn26 := hn26.gr hm77
      replace hd26 := hd26.gr hm77
      replace hn29 := hn29.gr hm77
      replace hd29 := hd29.gr hm77
      replace hb6 := Blk.gr hb6 hm77
      replace hb7 := Blk.gr hb7 hm77
      clear hm77
      have F32 := Fit.mul FA FB
      refine L.nil ?_
      refine X.seq ?_
      refine W.seq ?_
      have hx1 : U32 [] w77 (Value.slice A19 xa.length c19) xa := U32.of_own ho1 ha.2 (by simp)
      have hx2 : U32 [] w77 (Value.slice A23 ya.length c23) ya := U32.of_own ho2 ka.2 (by simp)
      refine W.region ?_
      refine L.v (R1.loadBox rfl hb5 tyG27) rfl ?_
      refine L.v (R1.loadBox rfl hb3 tyG27) rfl ?_
      refine L.call rfl (c_rat_Div (qa := qa) (qb := qb) hqa hqb hx1 hx2 hb kb hbd (by omega) (by omega) (by omega) (by omega)) rfl ?_
      rintro _ w78 ⟨v35, rfl, ⟨A35, c35, B35, e35, rfl, hn35, hd35⟩, hm78⟩
      replace ho1 := own_gr ho1 hm78 (by simp)
      replace ho2 := own_gr ho2 hm78 (by simp)
      replace hb2 := Blk.gr hb2 hm78
      replace hb3 := Blk.gr hb3 hm78
      replace hb5 := Blk.gr hb5 hm78
      replace ha := ha.gr hm78
      replace ka := ka.gr hm78
      replace hb := hb.gr hm78
      replace kb := kb.gr hm78
      replace hbd := hbd.gr hm78
      replace hm0 := hm0.trans hm78
      replace hn26 := hn26.gr hm78
      replace hd26 := hd26.gr hm78
      replace hn29 := hn29.gr hm78
      replace hd29 := hd29.gr hm78
      replace hb6 := Blk.gr hb6 hm78
      replace hb7 := Blk.gr hb7 hm78
      replace hn32 := hn32.gr hm78
      replace hd32 := hd32.gr hm78
      clear hm78
      have F35 := Fit.div FA FB (by decide)
      refine L.nil ?_
      refine X.seq ?_
      refine W.seq ?_
      have hx1 : U32 [] w78 (Value.slice A19 xa.length c19) xa := U32.of_own ho1 ha.2 (by simp)
      have hx2 : U32 [] w78 (Value.slice A23 ya.length c23) ya := U32.of_own ho2 ka.2 (by simp)
      refine W.region ?_
      refine L.v (R1.loadBox rfl hb5 tyG27) rfl ?_
      refine L.call rfl (c_rat_Floor (q := qa) hqa hx1 hx2 hbd (by omega) (by omega)) rfl ?_
      rintro _ w79 ⟨⟨A37, c37, B37, e37, rfl, hn37, hd37⟩, hm79⟩
      replace ho1 := own_gr ho1 hm79 (by simp)
      replace ho2 := own_gr ho2 hm79 (by simp)
      replace hb2 := Blk.gr hb2 hm79
      replace hb3 := Blk.gr hb3 hm79
      replace hb5 := Blk.gr hb5 hm79
      replace ha := ha.gr hm79
      replace ka := ka.gr hm79
      replace hb := hb.gr hm79
      replace kb := kb.gr hm79
      replace hbd := hbd.gr hm79
      replace hm0 := hm0.trans hm79
      replace hn26 := hn26.gr hm79
      replace hd26 := hd26.gr hm79
      replace hn29 := hn29.gr hm79
      replace hd29 := hd29.gr hm79
      replace hb6 := Blk.gr hb6 hm79
      replace hb7 := Blk.gr hb7 hm79
      replace hn32 := hn32.gr hm79
      replace hd32 := hd32.gr hm79
      replace hn35 := hn35.gr hm79
      replace hd35 := hd35.gr hm79
      clear hm79
      have F37 := Fit.floor FA
      refine L.nil ?_
      refine X.seq ?_
      refine W.seq ?_
      refine W.seq ?_
      have hx1 : U32 [] w79 (Value.slice A19 xa.length c19) xa := U32.of_own ho1 ha.2 (by simp)
      have hx2 : U32 [] w79 (Value.slice A23 ya.length c23) ya := U32.of_own ho2 ka.2 (by simp)
      refine W.region ?_
      refine L.v (R1.loadBox rfl hb5 tyG27) rfl ?_
      refine L.v (R1.loadBox rfl hb2 tyG27) rfl ?_
      refine L.call rfl (c_oneSelf hx1 hx2 ha ka) rfl ?_
      rintro _ w80 ⟨rfl, hm80⟩
      replace ho1 := own_gr ho1 hm80 (by simp)
      replace ho2 := own_gr ho2 hm80 (by simp)
      replace hb2 := Blk.gr hb2 hm80
      replace hb3 := Blk.gr hb3 hm80
      replace hb5 := Blk.gr hb5 hm80
      replace ha := ha.gr hm80
      replace ka := ka.gr hm80
      replace hb := hb.gr hm80
      replace kb := kb.gr hm80
      replace hbd := hbd.gr hm80
      replace hm0 := hm0.trans hm80
      replace hn26 := hn26.gr hm80
      replace hd26 := hd26.gr hm80
      replace hn29 := hn29.gr hm80
      replace hd29 := hd29.gr hm80
      replace hb6 := Blk.gr hb6 hm80
      replace hb7 := Blk.gr hb7 hm80
      replace hn32 := hn32.gr hm80
      replace hd32 := hd32.gr hm80
      replace hn35 := hn35.gr hm80
      replace hd35 := hd35.gr hm80
      replace hn37 := hn37.gr hm80
      replace hd37 := hd37.gr hm80
      clear hm80
      refine L.v ((R1.not rfl).asB (c := false) rfl) rfl ?_
      refine L.nil ?_
      refine X.seq ?_
      refine W.condF rfl ?_
      refine W.skip ?_
      refine X.seq ?_
      refine W.seq ?_
      refine W.seq ?_
      refine W.region ?_
      refine L.v (R1.assign rfl) rfl ?_
      refine L.nil ?_
      refine X.seq ?_
      refine W.block ?_
      refine W.loop (ι := Nat × List Value) (fun (i, ws) => [(2, .pointer (some ⟨g2, 0, none⟩)), (3, .pointer (some ⟨g3, 0, none⟩)), (5, .pointer (some ⟨g5, 0, none⟩)), (6, .pointer (some ⟨g6, 0, none⟩)), (7, .pointer (some ⟨g7, 0, none⟩)), (8, .int .i64 (i : Int))]) (fun (i, ws) w_ => ws.length = xa.length ∧ i ≤ xa.length ∧ World.ownsRow w_ w.heap.size 51 1 (Value.slice A19 xa.length c19) xa.length ws ∧ World.ownsRow w_ w.heap.size 51 1 (Value.slice A23 ya.length c23) ya.length (ya.map fun (z : Nat) => Value.int .u32 (z : Int)) ∧ Blk w_ g2 27 #[.bool sa, .slice Aa xa.length ca, .slice Ba ya.length da] ∧ Blk w_ g3 27 #[.bool sb, .slice Ab xb.length cb, .slice Bb yb.length db] ∧ Blk w_ g5 27 #[.bool sa, .slice A19 xa.length c19, .slice A23 ya.length c23] ∧ Blk w_ g6 27 #[.bool (decide (qa.num < 0)), .slice A26 (toL qa.num.natAbs).length c26, .slice B26 (toL qa.den).length e26] ∧ Blk w_ g7 27 #[.bool (decide ((qa + qb).num < 0)), .slice A29 (toL (qa + qb).num.natAbs).length c29, .slice B29 (toL (qa + qb).den).length e29] ∧ U32 (g7 :: g6 :: (ownL (Value.slice A19 xa.length c19) ++ (ownL (Value.slice A23 ya.length c23) ++ M))) w_ (.slice Aa xa.length ca) xa ∧ U32 (g7 :: g6 :: (ownL (Value.slice A19 xa.length c19) ++ (ownL (Value.slice A23 ya.length c23) ++ M))) w_ (.slice Ba ya.length da) ya ∧ U32 (g7 :: g6 :: (ownL (Value.slice A19 xa.length c19) ++ (ownL (Value.slice A23 ya.length c23) ++ M))) w_ (.slice Ab xb.length cb) xb ∧ U32 (g7 :: g6 :: (ownL (Value.slice A19 xa.length c19) ++ (ownL (Value.slice A23 ya.length c23) ++ M))) w_ (.slice Bb yb.length db) yb ∧ U32 (g7 :: g6 :: (ownL (Value.slice A19 xa.length c19) ++ (ownL (Value.slice A23 ya.length c23) ++ M))) w_ (.slice A26 (toL qa.num.natAbs).length c26) (toL qa.num.natAbs) ∧ U32 (g7 :: g6 :: (ownL (Value.slice A19 xa.length c19) ++ (ownL (Value.slice A23 ya.length c23) ++ M))) w_ (.slice B26 (toL qa.den).length e26) (toL qa.den) ∧ U32 (g7 :: g6 :: (ownL (Value.slice A19 xa.length c19) ++ (ownL (Value.slice A23 ya.length c23) ++ M))) w_ (.slice A29 (toL (qa + qb).num.natAbs).length c29) (toL (qa + qb).num.natAbs) ∧ U32 (g7 :: g6 :: (ownL (Value.slice A19 xa.length c19) ++ (ownL (Value.slice A23 ya.length c23) ++ M))) w_ (.slice B29 (toL (qa + qb).den).length e29) (toL (qa + qb).den) ∧ Bd (g7 :: g6 :: (ownL (Value.slice A19 xa.length c19) ++ (ownL (Value.slice A23 ya.length c23) ++ M))) w_ ∧ Mod [] w w_) (fun (i, ws) => xa.length - i) (0, (xa.map fun (z : Nat) => Value.int .u32 (z : Int))) ?_ ?_ ?_
      · exact ⟨rfl, rfl, rfl, rfl, rfl, rfl, trivial⟩
      ·
        exact ⟨by simp, Nat.zero_le _, ho1, ho2, hb2, hb3, hb5, hb6, hb7, ha, ka, hb, kb, hn26, hd26, hn29, hd29, hbd, hm0⟩
      ·
        rintro ⟨i, ws⟩ w81 ⟨hzl, hi, ho1, ho2, hb2, hb3, hb5, hb6, hb7, ha, ka, hb, kb, hn26, hd26, hn29, hd29, hbd, hm0⟩
        refine W.seq ?_
        refine W.seq ?_
        refine W.region ?_
        refine L.v (R1.move rfl) rfl ?_
        refine L.v (R1.fieldAt rfl tyF27_1) rfl ?_
        refine L.v (R1.loadFld rfl hb5 rfl tyP25) rfl ?_
        refine L.v (R1.lenOwn rfl ho1 tyS25) rfl ?_
        refine L.v (R1.lt rfl rfl) rfl ?_
        refine L.nil ?_
        refine X.seq ?_
        refine W.cond rfl ?_ ?_
        ·
          intro hc46
          try simp only [decide_eq_true_eq, decide_eq_false_iff_not, Bool.not_eq_true', Bool.not_eq_false', Int.not_lt, Int.not_le, ne_eq, Decidable.not_not] at hc46
          refine W.skip ?_
          refine X.seq ?_
          refine W.seq ?_
          refine W.block ?_
          refine W.region ?_
          refine L.v (R1.fieldAt rfl tyF27_1) rfl ?_
          refine L.v (R1.loadFld rfl hb5 rfl tyP25) rfl ?_
          refine L.v (R1.move rfl) rfl ?_
          refine L.v (R1.atOwn (i := i) rfl rfl ho1 tyS25 rfl (by omega)) rfl ?_
          refine L.storeOwn rfl rfl ho1 (by omega) rfl tyP51 ?_
          intro w82 ho1' hm82
          replace hm82 : Mod (ownL (Value.slice A19 xa.length c19)) _ _ := hm82
          replace ho1' : World.ownsRow _ _ _ _ (Value.slice A19 xa.length c19) _ _ := ho1'
          replace ho2 := own_away (s' := 1) (el' := 0) (k' := 0) (B' := 0) (ys := []) ho2 hm82 (by first | assumption | exact Away.symm (by assumption))
          replace hb2 := Blk.ownfar hb2 hm82 hno_ho1_g2
          replace hb3 := Blk.ownfar hb3 hm82 hno_ho1_g3
          replace hb5 := Blk.ownfar hb5 hm82 hno_ho1_g5
          replace hb6 := Blk.ownfar hb6 hm82 hno_ho1_g6
          replace hb7 := Blk.ownfar hb7 hm82 hno_ho1_g7
          replace ha := ha.mod hm82 (by first | exact mem_own | (intro b hb; simp [hb]))
          replace ka := ka.mod hm82 (by first | exact mem_own | (intro b hb; simp [hb]))
          replace hb := hb.mod hm82 (by first | exact mem_own | (intro b hb; simp [hb]))
          replace kb := kb.mod hm82 (by first | exact mem_own | (intro b hb; simp [hb]))
          replace hn26 := hn26.mod hm82 (by first | exact mem_own | (intro b hb; simp [hb]))
          replace hd26 := hd26.mod hm82 (by first | exact mem_own | (intro b hb; simp [hb]))
          replace hn29 := hn29.mod hm82 (by first | exact mem_own | (intro b hb; simp [hb]))
          replace hd29 := hd29.mod hm82 (by first | exact mem_own | (intro b hb; simp [hb]))
          replace hbd := hbd.gr hm82
          replace hm0 := Mod.oldOwn hm0 hm82 ho1
          clear hm82
          replace ho1 := ho1'; clear ho1'
          refine L.nil ?_
          refine X.blockEnd ?_
          refine X.seq ?_
          refine W.region ?_
          refine L.v (R1.move rfl) rfl ?_
          refine L.v (R1.addI (b := 1) rfl rfl (by omega)) rfl ?_
          refine L.v (R1.assign rfl) rfl ?_
          refine L.nil ?_
          refine X.next (i + 1, ws.set i (.int .u32 7)) ?_ ?_ ?_
          · exact ⟨rfl, rfl, rfl, rfl, rfl, rfl, trivial⟩
          ·
            exact ⟨by simp [hzl], by omega, ho1, ho2, hb2, hb3, hb5, hb6, hb7, ha, ka, hb, kb, hn26, hd26, hn29, hd29, hbd, hm0⟩
          · first | omega | (dsimp only; omega)
        ·
          intro hc46
          try simp only [decide_eq_true_eq, decide_eq_false_iff_not, Bool.not_eq_true', Bool.not_eq_false', Int.not_lt, Int.not_le, ne_eq, Decidable.not_not] at hc46
          refine W.exit ?_
          refine X.thenExit ?_
          refine X.nextExit ?_
          refine X.here ?_
          refine X.seq ?_
          refine W.seq ?_
          refine W.seq ?_
          refine W.region ?_
          refine L.v (R1.assign rfl) rfl ?_
          refine L.nil ?_
          refine X.seq ?_
          refine W.block ?_
          refine W.loop (ι := Nat × List Value) (fun (i, zs) => [(2, .pointer (some ⟨g2, 0, none⟩)), (3, .pointer (some ⟨g3, 0, none⟩)), (5, .pointer (some ⟨g5, 0, none⟩)), (6, .pointer (some ⟨g6, 0, none⟩)), (7, .pointer (some ⟨g7, 0, none⟩)), (9, .int .i64 (i : Int))]) (fun (i, zs) w_ => zs.length = ya.length ∧ i ≤ ya.length ∧ World.ownsRow w_ w.heap.size 51 1 (Value.slice A23 ya.length c23) ya.length zs ∧ World.ownsRow w_ w.heap.size 51 1 (Value.slice A19 xa.length c19) xa.length ws ∧ Blk w_ g2 27 #[.bool sa, .slice Aa xa.length ca, .slice Ba ya.length da] ∧ Blk w_ g3 27 #[.bool sb, .slice Ab xb.length cb, .slice Bb yb.length db] ∧ Blk w_ g5 27 #[.bool sa, .slice A19 xa.length c19, .slice A23 ya.length c23] ∧ Blk w_ g6 27 #[.bool (decide (qa.num < 0)), .slice A26 (toL qa.num.natAbs).length c26, .slice B26 (toL qa.den).length e26] ∧ Blk w_ g7 27 #[.bool (decide ((qa + qb).num < 0)), .slice A29 (toL (qa + qb).num.natAbs).length c29, .slice B29 (toL (qa + qb).den).length e29] ∧ U32 (g7 :: g6 :: (ownL (Value.slice A19 xa.length c19) ++ (ownL (Value.slice A23 ya.length c23) ++ M))) w_ (.slice Aa xa.length ca) xa ∧ U32 (g7 :: g6 :: (ownL (Value.slice A19 xa.length c19) ++ (ownL (Value.slice A23 ya.length c23) ++ M))) w_ (.slice Ba ya.length da) ya ∧ U32 (g7 :: g6 :: (ownL (Value.slice A19 xa.length c19) ++ (ownL (Value.slice A23 ya.length c23) ++ M))) w_ (.slice Ab xb.length cb) xb ∧ U32 (g7 :: g6 :: (ownL (Value.slice A19 xa.length c19) ++ (ownL (Value.slice A23 ya.length c23) ++ M))) w_ (.slice Bb yb.length db) yb ∧ U32 (g7 :: g6 :: (ownL (Value.slice A19 xa.length c19) ++ (ownL (Value.slice A23 ya.length c23) ++ M))) w_ (.slice A26 (toL qa.num.natAbs).length c26) (toL qa.num.natAbs) ∧ U32 (g7 :: g6 :: (ownL (Value.slice A19 xa.length c19) ++ (ownL (Value.slice A23 ya.length c23) ++ M))) w_ (.slice B26 (toL qa.den).length e26) (toL qa.den) ∧ U32 (g7 :: g6 :: (ownL (Value.slice A19 xa.length c19) ++ (ownL (Value.slice A23 ya.length c23) ++ M))) w_ (.slice A29 (toL (qa + qb).num.natAbs).length c29) (toL (qa + qb).num.natAbs) ∧ U32 (g7 :: g6 :: (ownL (Value.slice A19 xa.length c19) ++ (ownL (Value.slice A23 ya.length c23) ++ M))) w_ (.slice B29 (toL (qa + qb).den).length e29) (toL (qa + qb).den) ∧ Bd (g7 :: g6 :: (ownL (Value.slice A19 xa.length c19) ++ (ownL (Value.slice A23 ya.length c23) ++ M))) w_ ∧ Mod [] w w_) (fun (i, zs) => ya.length - i) (0, (ya.map fun (z : Nat) => Value.int .u32 (z : Int))) ?_ ?_ ?_
          · exact ⟨rfl, rfl, rfl, rfl, rfl, rfl, trivial⟩
          ·
            exact ⟨by simp, Nat.zero_le _, ho2, ho1, hb2, hb3, hb5, hb6, hb7, ha, ka, hb, kb, hn26, hd26, hn29, hd29, hbd, hm0⟩
          ·
            rintro ⟨i, zs⟩ w83 ⟨hzl, hi, ho2, ho1, hb2, hb3, hb5, hb6, hb7, ha, ka, hb, kb, hn26, hd26, hn29, hd29, hbd, hm0⟩
            refine W.seq ?_
            refine W.seq ?_
            refine W.region ?_
            refine L.v (R1.move rfl) rfl ?_
            refine L.v (R1.fieldAt rfl tyF27_2) rfl ?_
            refine L.v (R1.loadFld rfl hb5 rfl tyP25) rfl ?_
            refine L.v (R1.lenOwn rfl ho2 tyS25) rfl ?_
            refine L.v (R1.lt rfl rfl) rfl ?_
            refine L.nil ?_
            refine X.seq ?_
            refine W.cond rfl ?_ ?_
            ·
              intro hc57
              try simp only [decide_eq_true_eq, decide_eq_false_iff_not, Bool.not_eq_true', Bool.not_eq_false', Int.not_lt, Int.not_le, ne_eq, Decidable.not_not] at hc57
              refine W.skip ?_
              refine X.seq ?_
              refine W.seq ?_
              refine W.block ?_
              refine W.region ?_
              refine L.v (R1.fieldAt rfl tyF27_2) rfl ?_
              refine L.v (R1.loadFld rfl hb5 rfl tyP25) rfl ?_
              refine L.v (R1.move rfl) rfl ?_
              refine L.v (R1.atOwn (i := i) rfl rfl ho2 tyS25 rfl (by omega)) rfl ?_
              refine L.storeOwn rfl rfl ho2 (by omega) rfl tyP51 ?_
              intro w84 ho2' hm84
              replace hm84 : Mod (ownL (Value.slice A23 ya.length c23)) _ _ := hm84
              replace ho2' : World.ownsRow _ _ _ _ (Value.slice A23 ya.length c23) _ _ := ho2'
              replace ho1 := own_away (s' := 1) (el' := 0) (k' := 0) (B' := 0) (ys := []) ho1 hm84 (by first | assumption | exact Away.symm (by assumption))
              replace hb2 := Blk.ownfar hb2 hm84 hno_ho2_g2
              replace hb3 := Blk.ownfar hb3 hm84 hno_ho2_g3
              replace hb5 := Blk.ownfar hb5 hm84 hno_ho2_g5
              replace hb6 := Blk.ownfar hb6 hm84 hno_ho2_g6
              replace hb7 := Blk.ownfar hb7 hm84 hno_ho2_g7
              replace ha := ha.mod hm84 (by first | exact mem_own | (intro b hb; simp [hb]))
              replace ka := ka.mod hm84 (by first | exact mem_own | (intro b hb; simp [hb]))
              replace hb := hb.mod hm84 (by first | exact mem_own | (intro b hb; simp [hb]))
              replace kb := kb.mod hm84 (by first | exact mem_own | (intro b hb; simp [hb]))
              replace hn26 := hn26.mod hm84 (by first | exact mem_own | (intro b hb; simp [hb]))
              replace hd26 := hd26.mod hm84 (by first | exact mem_own | (intro b hb; simp [hb]))
              replace hn29 := hn29.mod hm84 (by first | exact mem_own | (intro b hb; simp [hb]))
              replace hd29 := hd29.mod hm84 (by first | exact mem_own | (intro b hb; simp [hb]))
              replace hbd := hbd.gr hm84
              replace hm0 := Mod.oldOwn hm0 hm84 ho2
              clear hm84
              replace ho2 := ho2'; clear ho2'
              refine L.nil ?_
              refine X.blockEnd ?_
              refine X.seq ?_
              refine W.region ?_
              refine L.v (R1.move rfl) rfl ?_
              refine L.v (R1.addI (b := 1) rfl rfl (by omega)) rfl ?_
              refine L.v (R1.assign rfl) rfl ?_
              refine L.nil ?_
              refine X.next (i + 1, zs.set i (.int .u32 9)) ?_ ?_ ?_
              · exact ⟨rfl, rfl, rfl, rfl, rfl, rfl, trivial⟩
              ·
                exact ⟨by simp [hzl], by omega, ho2, ho1, hb2, hb3, hb5, hb6, hb7, ha, ka, hb, kb, hn26, hd26, hn29, hd29, hbd, hm0⟩
              · first | omega | (dsimp only; omega)
            ·
              intro hc57
              try simp only [decide_eq_true_eq, decide_eq_false_iff_not, Bool.not_eq_true', Bool.not_eq_false', Int.not_lt, Int.not_le, ne_eq, Decidable.not_not] at hc57
              refine W.exit ?_
              refine X.thenExit ?_
              refine X.nextExit ?_
              refine X.here ?_
              refine X.seq ?_
              refine W.seq ?_
              refine W.drawW (T := []) rfl (by decide +kernel) (NoHang.then NoHang.post) (fun w85 hm85 => ?_)
              replace ho2 := own_gr ho2 hm85 (by simp)
              replace ho1 := own_gr ho1 hm85 (by simp)
              replace hb2 := Blk.gr hb2 hm85
              replace hb3 := Blk.gr hb3 hm85
              replace hb5 := Blk.gr hb5 hm85
              replace hb6 := Blk.gr hb6 hm85
              replace hb7 := Blk.gr hb7 hm85
              replace ha := ha.gr hm85
              replace ka := ka.gr hm85
              replace hb := hb.gr hm85
              replace kb := kb.gr hm85
              replace hn26 := hn26.gr hm85
              replace hd26 := hd26.gr hm85
              replace hn29 := hn29.gr hm85
              replace hd29 := hd29.gr hm85
              replace hbd := hbd.gr hm85
              replace hm0 := hm0.trans hm85
              have hS3 : Mod [] w85 w85 := Mod.refl _ _
              clear hm85
              have hb2_s := hb2
              have hb3_s := hb3
              have hb5_s := hb5
              have hb6_s := hb6
              have hb7_s := hb7
              refine D.take 0 rfl (by decide +kernel) (fun w_ hS => (R1.loadBox rfl (Blk.gr hb6_s hS) tyG27)) hS3 rfl ?_
              refine D.take 1 rfl (by decide +kernel) (fun w_ hS => (R1.loadBox rfl (Blk.gr hb2_s hS) tyG27)) hS3 rfl ?_
              refine D.one 2 rfl (by decide +kernel) (fun hX => ?_)
              refine L.call rfl (c_ref2_Norm (q := qa) hqa ha ka hbd (by omega) (by omega)) rfl ?_
              rintro _ w86 ⟨⟨A66, c66, B66, e66, rfl, hn66, hd66⟩, hm86⟩
              replace ho2 := own_gr ho2 hm86 (by simp)
              replace ho1 := own_gr ho1 hm86 (by simp)
              replace hb2 := Blk.gr hb2 hm86
              replace hb3 := Blk.gr hb3 hm86
              replace hb5 := Blk.gr hb5 hm86
              replace hb6 := Blk.gr hb6 hm86
              replace hb7 := Blk.gr hb7 hm86
              replace ha := ha.gr hm86
              replace ka := ka.gr hm86
              replace hb := hb.gr hm86
              replace kb := kb.gr hm86
              replace hn26 := hn26.gr hm86
              replace hd26 := hd26.gr hm86
              replace hn29 := hn29.gr hm86
              replace hd29 := hd29.gr hm86
              replace hbd := hbd.gr hm86
              replace hm0 := hm0.trans hm86
              replace hS3 := hS3.trans hm86
              clear hm86
              have F66 := FA
              refine L.nil (hX _ _ ⟨.inr hS3, ?_⟩)
              refine D.one 3 rfl (by decide +kernel) (fun hX => ?_)
              refine L.call rfl (c_oneQ (RN.mk rfl hn26 hd26) ((RN.mk rfl hn66 hd66).eq (rfl))) rfl ?_
              rintro _ w87 ⟨rfl, hm87⟩
              replace ho2 := own_gr ho2 hm87 (by simp)
              replace ho1 := own_gr ho1 hm87 (by simp)
              replace hb2 := Blk.gr hb2 hm87
              replace hb3 := Blk.gr hb3 hm87
              replace hb5 := Blk.gr hb5 hm87
              replace hb6 := Blk.gr hb6 hm87
              replace hb7 := Blk.gr hb7 hm87
              replace ha := ha.gr hm87
              replace ka := ka.gr hm87
              replace hb := hb.gr hm87
              replace kb := kb.gr hm87
              replace hn26 := hn26.gr hm87
              replace hd26 := hd26.gr hm87
              replace hn29 := hn29.gr hm87
              replace hd29 := hd29.gr hm87
              replace hbd := hbd.gr hm87
              replace hm0 := hm0.trans hm87
              replace hn66 := hn66.gr hm87
              replace hd66 := hd66.gr hm87
              replace hS3 := hS3.trans hm87
              clear hm87
              refine L.nil (hX _ _ ⟨.inr hS3, ?_⟩)
              refine D.take 4 rfl (by decide +kernel) (fun w_ hS => (R1.move rfl)) hS3 rfl ?_
              refine D.takeOn 5 rfl rfl rfl rfl (by decide +kernel) (fun w_ hS => (R1.loadBox rfl (Blk.gr hb7_s hS) tyG27)) hS3 rfl ?_
              refine D.takeOn 6 rfl rfl rfl rfl (by decide +kernel) (fun w_ hS => (R1.loadBox rfl (Blk.gr hb2_s hS) tyG27)) hS3 rfl ?_
              refine D.takeOn 7 rfl rfl rfl rfl (by decide +kernel) (fun w_ hS => (R1.loadBox rfl (Blk.gr hb3_s hS) tyG27)) hS3 rfl ?_
              refine D.one 8 rfl (by decide +kernel) (fun hX => ?_)
              refine L.callOn rfl rfl rfl rfl (c_ref2_Add (qa := qa) (qb := qb) hqa hqb ha ka hb kb hbd (by omega) (by omega) (by omega) (by omega)) rfl ?_
              rintro _ w88 ⟨⟨A72, c72, B72, e72, rfl, hn72, hd72⟩, hm88⟩
              replace ho2 := own_gr ho2 hm88 (by simp)
              replace ho1 := own_gr ho1 hm88 (by simp)
              replace hb2 := Blk.gr hb2 hm88
              replace hb3 := Blk.gr hb3 hm88
              replace hb5 := Blk.gr hb5 hm88
              replace hb6 := Blk.gr hb6 hm88
              replace hb7 := Blk.gr hb7 hm88
              replace ha := ha.gr hm88
              replace ka := ka.gr hm88
              replace hb := hb.gr hm88
              replace kb := kb.gr hm88
              replace hn26 := hn26.gr hm88
              replace hd26 := hd26.gr hm88
              replace hn29 := hn29.gr hm88
              replace hd29 := hd29.gr hm88
              replace hbd := hbd.gr hm88
              replace hm0 := hm0.trans hm88
              replace hn66 := hn66.gr hm88
              replace hd66 := hd66.gr hm88
              replace hS3 := hS3.trans hm88
              clear hm88
              have F72 := Fit.add FA FB
              refine L.nil (hX _ _ ⟨.inr hS3, ?_⟩)
              refine D.one 9 rfl (by decide +kernel) (fun hX => ?_)
              refine L.callOn rfl rfl rfl rfl (c_oneQ (RN.mk rfl hn29 hd29) ((RN.mk rfl hn72 hd72).eq (rfl))) rfl ?_
              rintro _ w89 ⟨rfl, hm89⟩
              replace ho2 := own_gr ho2 hm89 (by simp)
              replace ho1 := own_gr ho1 hm89 (by simp)
              replace hb2 := Blk.gr hb2 hm89
              replace hb3 := Blk.gr hb3 hm89
              replace hb5 := Blk.gr hb5 hm89
              replace hb6 := Blk.gr hb6 hm89
              replace hb7 := Blk.gr hb7 hm89
              replace ha := ha.gr hm89
              replace ka := ka.gr hm89
              replace hb := hb.gr hm89
              replace kb := kb.gr hm89
              replace hn26 := hn26.gr hm89
              replace hd26 := hd26.gr hm89
              replace hn29 := hn29.gr hm89
              replace hd29 := hd29.gr hm89
              replace hbd := hbd.gr hm89
              replace hm0 := hm0.trans hm89
              replace hn66 := hn66.gr hm89
              replace hd66 := hd66.gr hm89
              replace hn72 := hn72.gr hm89
              replace hd72 := hd72.gr hm89
              replace hS3 := hS3.trans hm89
              clear hm89
              refine L.nil (hX _ _ ⟨.inr hS3, ?_⟩)
              refine D.take 10 rfl (by decide +kernel) (fun w_ hS => (R1.pickT rfl rfl)) hS3 rfl ?_
              refine D.take 11 rfl (by decide +kernel) (fun w_ hS => (R1.move rfl)) hS3 rfl ?_
              refine D.one 12 rfl (by decide +kernel) (fun hX => ?_)
              refine L.callOn rfl rfl rfl rfl (c_known2) rfl ?_
              rintro _ w90 ⟨rfl, hm90⟩
              replace ho2 := own_gr ho2 hm90 (by simp)
              replace ho1 := own_gr ho1 hm90 (by simp)
              replace hb2 := Blk.gr hb2 hm90
              replace hb3 := Blk.gr hb3 hm90
              replace hb5 := Blk.gr hb5 hm90
              replace hb6 := Blk.gr hb6 hm90
              replace hb7 := Blk.gr hb7 hm90
              replace ha := ha.gr hm90
              replace ka := ka.gr hm90
              replace hb := hb.gr hm90
              replace kb := kb.gr hm90
              replace hn26 := hn26.gr hm90
              replace hd26 := hd26.gr hm90
              replace hn29 := hn29.gr hm90
              replace hd29 := hd29.gr hm90
              replace hbd := hbd.gr hm90
              replace hm0 := hm0.trans hm90
              replace hn66 := hn66.gr hm90
              replace hd66 := hd66.gr hm90
              replace hn72 := hn72.gr hm90
              replace hd72 := hd72.gr hm90
              replace hS3 := hS3.trans hm90
              clear hm90
              refine L.nil (hX _ _ ⟨.inr hS3, ?_⟩)
              refine D.take 13 rfl (by decide +kernel) (fun w_ hS => (R1.pickT rfl rfl)) hS3 rfl ?_
              refine D.take 14 rfl (by decide +kernel) (fun w_ hS => (R1.assign rfl)) hS3 rfl ?_
              refine D.done (by decide +kernel) ?_ _
              refine X.seq ?_
              refine W.ret ?_
              refine X.result1 rfl (.tmp rfl .nil) ?_
              exact ⟨rfl, hm0⟩

end Go.Proofs.Ytjeodekhamdcmaa
