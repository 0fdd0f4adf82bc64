/- Walks: what the functions compute. -/
import Derived.Test.YtbomlakekdamhaaHist3
namespace Go.Proofs.Ytbomlakekdamhaa
open Go.RowKit
set_option linter.unusedVariables false
set_option linter.unusedSimpArgs false
set_option maxRecDepth 10000

theorem c_UndoAny {M : List Nat} {w : World} {vp vf : Value} {ps fs : List ByteArray} {now : ByteArray} (hp : Strs M w vp ps) (hf : Strs M w vf fs) (hbd : Bd M w) (hl1 : ps.length ≤ 8796093022000) (hl2 : fs.length ≤ 8796093022000) :
    Ret Try.prog 9 #[.agg #[vp, vf], .string now] w (fun r w' => True ∧ Mod [] w w') := by
  rcases List.eq_nil_or_concat ps with rfl | ⟨qs, q, rfl⟩
  · exact (c_Undo0 hp hf rfl hbd (by simp) hl2).mono fun r w' ⟨_, _, _, _, _, _, _, h⟩ => ⟨trivial, h⟩
  · rw [List.concat_eq_append] at hp hl1
    exact (c_Undo1 hp hf hbd (by simp at hl1; omega) hl2).mono fun r w' ⟨_, _, _, _, _, _, _, h⟩ => ⟨trivial, h⟩
theorem c_RedoAny {M : List Nat} {w : World} {vp vf : Value} {ps fs : List ByteArray} {now : ByteArray} (hp : Strs M w vp ps) (hf : Strs M w vf fs) (hbd : Bd M w) (hl1 : ps.length ≤ 8796093022000) (hl2 : fs.length ≤ 8796093022000) :
    Ret Try.prog 12 #[.agg #[vp, vf], .string now] w (fun r w' => True ∧ Mod [] w w') := by
  rcases List.eq_nil_or_concat fs with rfl | ⟨qs, q, rfl⟩
  · exact (c_Redo0 hp hf rfl hbd hl1 (by simp)).mono fun r w' ⟨_, _, _, _, _, _, _, h⟩ => ⟨trivial, h⟩
  · rw [List.concat_eq_append] at hf hl2
    exact (c_Redo1 hp hf hbd hl1 (by simp at hl2; omega)).mono fun r w' ⟨_, _, _, _, _, _, _, h⟩ => ⟨trivial, h⟩
theorem own_eq {g n c b : Nat} (h : (Value.slice (some ⟨g, 0, none⟩) n c).ownBlock = some b) : g = b := Option.some.inj h
theorem own_single {g n c : Nat} {x : Value} (h : x.ownBlock ≠ some g) : ∀ b ∈ ownL (.slice (some ⟨g, 0, none⟩) n c), x.ownBlock ≠ some b := by
  intro b hb
  have : b = g := by simpa [ownL, Value.ownBlock] using hb
  rw [this]; exact h
theorem own_bd {w : World} {B el s n : Nat} {v : Value} {xs : List Value} (h : w.ownsRow B el s v n xs) : Bd (ownL v) w := fun m hm => (own_ge h m (by simpa [ownL] using hm)).2
theorem own_open {w : World} {B el n c : Nat} {A : Option Addr} {xs : List Value} (h : w.ownsRow B el 1 (.slice A n c) n xs) (hn : 0 < n) :
    ∃ g cur, A = some ⟨g, 0, none⟩ ∧ B ≤ g ∧ Blk w g el cur ∧ n ≤ c ∧ c ≤ maxLen ∧ cur.size = c := by
  rcases h.2 with ⟨h1, h2⟩ | ⟨g, cap, cur, h1, h2, h3, h4, h5, h6, _⟩
  · omega
  · injection h1 with h7 _ h8
    subst h8
    exact ⟨g, cur, h7, h2, h3, h4, h5, by omega⟩
theorem own_shut {w : World} {B el n g : Nat} {cur : Array Value} {c : Nat} (hb : Blk w g el cur) (hB : B ≤ g) (hn : n ≤ c) (hc : c ≤ maxLen) (hs : cur.size = c) :
    ∃ xs, w.ownsRow B el 1 (.slice (some ⟨g, 0, none⟩) n c) n xs :=
  ⟨cur.toList.take n, by simp; omega, .inr ⟨g, c, cur, rfl, hB, hb, hn, hc, by omega, by simp⟩⟩

theorem c_HistOwn {M : List Nat} {w : World} {vp vf : Value} {ps fs : List ByteArray} {now : ByteArray} (hp : Strs M w vp ps) (hf : Strs M w vf fs) (hbd : Bd M w) (hl1 : ps.length ≤ 8796093021970) (hl2 : fs.length ≤ 8796093021970) :
    Ret Try.prog 6 #[.agg #[vp, vf], .string now] w (fun r w' => r = .bool true ∧ Mod [] w w') := by
  refine Ret.of (vs := [.agg #[vp, vf], .string now]) (n := 56) Try.func6 rfl rfl rfl rfl ?_
  have hm0 : Mod [] w w := Mod.refl _ _
  refine W.seq ?_
  refine W.region ?_
  refine L.box rfl rfl ?_
  intro g2 w1 hN2
  have hge_g2 := New.ge hN2 hm0.size
  replace hm0 := hm0.trans (hN2.mod.mono (by simp))
  have hb2 := hN2.blk
  clear hN2
  refine L.v (R1.assign rfl) rfl ?_
  refine L.nil ?_
  refine X.seq ?_
  refine W.seq ?_
  refine W.seq ?_
  refine W.region ?_
  refine L.v (R1.loadBox rfl hb2 tyG24) rfl ?_
  refine L.call rfl (c_long (hp.gr hm0) (hf.gr hm0) (by omega) (by omega)) rfl ?_
  rintro _ w2 ⟨⟨b9, rfl⟩, hm2⟩
  replace hm0 := hm0.trans hm2
  replace hb2 := Blk.gr hb2 hm2
  clear hm2
  refine L.v (R1.move rfl) rfl ?_
  cases hgd10 : b9
  ·
    try simp only [decide_eq_true_eq, decide_eq_false_iff_not, Bool.not_eq_true', Bool.not_eq_false', Int.not_lt, Int.not_le, ne_eq, Decidable.not_not] at hgd10
    refine L.on rfl rfl rfl (R1.move rfl) rfl ?_
    refine L.on rfl rfl rfl (R1.lenS rfl tyStr9) rfl ?_
    refine L.on rfl rfl rfl (R1.gt rfl rfl) rfl ?_
    refine L.v (R1.pickF rfl rfl) rfl ?_
    refine L.nil ?_
    refine X.seq ?_
    refine W.cond rfl ?_ ?_
    ·
      intro hc14
      try simp only [decide_eq_true_eq, decide_eq_false_iff_not, Bool.not_eq_true', Bool.not_eq_false', Int.not_lt, Int.not_le, ne_eq, Decidable.not_not] at hc14
      refine W.seq ?_
      refine W.region ?_
      refine L.v (R1.assign rfl) rfl ?_
      refine L.nil ?_
      refine X.seq ?_
      refine W.ret ?_
      refine X.thenRet ?_
      refine X.result1 rfl (.tmp rfl .nil) ?_
      exact ⟨rfl, hm0⟩
    ·
      intro hc14
      try simp only [decide_eq_true_eq, decide_eq_false_iff_not, Bool.not_eq_true', Bool.not_eq_false', Int.not_lt, Int.not_le, ne_eq, Decidable.not_not] at hc14
      refine W.skip ?_
      refine X.seq ?_
      refine W.seq ?_
      refine W.cut (ι := Nat × Value × Value) (fun (g, x, y) => [(1, .string now), (2, .pointer (some ⟨g2, 0, none⟩)), (5, .pointer (some ⟨g, 0, none⟩))]) (fun (g, x, y) w_ => Blk w_ g2 24 #[vp, vf] ∧ Blk w_ g 24 #[x, y] ∧ World.ownsRow w_ w.heap.size 9 1 x ps.length (ps.map Value.string) ∧ World.ownsRow w_ w.heap.size 9 1 y fs.length (fs.map Value.string) ∧ x.ownBlock ≠ some g2 ∧ x.ownBlock ≠ some g ∧ y.ownBlock ≠ some g2 ∧ y.ownBlock ≠ some g ∧ g2 ≠ g ∧ w.heap.size ≤ g ∧ Mod [] w w_) ?_ ?_
      ·
        refine W.drawW (T := [10]) rfl (by decide +kernel) (NoHang.join NoHang.post) (fun w3 hm3 => ?_)
        replace hm0 := hm0.trans hm3
        replace hb2 := Blk.gr hb2 hm3
        have hS1 : Mod [] w3 w3 := Mod.refl _ _
        clear hm3
        refine D.take 1 rfl (by decide +kernel) (fun w_ hS => (R1.fieldAt rfl tyF24_0)) hS1 rfl ?_
        refine D.take 2 rfl (by decide +kernel) (fun w_ hS => (R1.loadFld rfl (Blk.gr hb2 hS) rfl tyP22)) hS1 rfl ?_
        refine D.take 5 rfl (by decide +kernel) (fun w_ hS => (R1.fieldAt rfl tyF24_1)) hS1 rfl ?_
        refine D.take 6 rfl (by decide +kernel) (fun w_ hS => (R1.loadFld rfl (Blk.gr hb2 hS) rfl tyP22)) hS1 rfl ?_
        refine D.many (rs := [0, 4, 9]) (by decide +kernel) rfl ?_
        intro i_ hi_
        simp only [List.mem_cons, List.not_mem_nil, or_false] at hi_
        rcases hi_ with rfl | rfl | rfl
        ·
          refine ⟨_, rfl, fun hX => ?_⟩
          refine L.buildEmpty tyS22 rfl ?_
          intro g15 w4 hN15
          have hgs_g15 := New.ge hN15 hS1.size
          replace hS1 := hS1.trans hN15.mod
          have hge_g15 := New.ge hN15 hm0.size
          replace hm0 := hm0.trans (hN15.mod.mono (by simp))
          have hne_g2_g15 := hb2.ne_ hN15
          replace hb2 := Blk.gr hb2 hN15.mod
          have hb15 := hN15.blk
          clear hN15
          refine L.nil (hX _ _ ⟨.inr hS1, ?_⟩)
          refine D.many (rs := [3, 4, 9]) (by decide +kernel) rfl ?_
          intro i_ hi_
          simp only [List.mem_cons, List.not_mem_nil, or_false] at hi_
          rcases hi_ with rfl | rfl | rfl
          ·
            refine ⟨_, rfl, fun hX => ?_⟩
            have hown15 : World.ownsRow w4 w.heap.size 9 1 (.slice (some ⟨g15, 0, none⟩) 0 0) 0 [] := ⟨rfl, .inr ⟨g15, 0, #[], rfl, hge_g15, hb15, Nat.le_refl _, by decide, rfl, rfl⟩⟩
            have hno_hown15_g2 : (Value.slice (some ⟨g15, 0, none⟩) 0 0).ownBlock ≠ some g2 := fun h => by first | exact hne_g15_g2 (own_eq h) | exact hne_g2_g15 (own_eq h).symm
            clear hb15
            refine L.append rfl rfl hown15 (hp.gr hm0) Strs.one tyS22 tyZ9 (by omega) (by unfold maxLen; omega) hm0.size rfl ?_
            intro v18 w5 ho18' hG18
            replace hm0 := hm0.grew hG18 (fun g hg => (own_ge hown15 g hg).1)
            have hno_ho18_g2 := hG18.ne hno_hown15_g2 hb2
            replace hb2 := Blk.grew hb2 hG18 hno_hown15_g2
            clear hown15
            have ho18 := ho18'; clear ho18'
            obtain ⟨A18, c18, rfl⟩ := own_form ho18
            replace hS1 := hS1.grew hG18 (fun b hb => own_eq hb ▸ hgs_g15)
            refine L.nil (hX _ _ ⟨.inr hS1, ?_⟩)
            refine D.many (rs := [4, 9]) (by decide +kernel) rfl ?_
            intro i_ hi_
            simp only [List.mem_cons, List.not_mem_nil, or_false] at hi_
            rcases hi_ with rfl | rfl
            ·
              refine ⟨_, rfl, fun hX => ?_⟩
              refine L.buildEmpty tyS22 rfl ?_
              intro g19 w6 hN19
              have hgs_g19 := New.ge hN19 hS1.size
              replace hS1 := hS1.trans hN19.mod
              have hge_g19 := New.ge hN19 hm0.size
              replace hm0 := hm0.trans (hN19.mod.mono (by simp))
              have hne_g2_g19 := hb2.ne_ hN19
              replace hb2 := Blk.gr hb2 hN19.mod
              have hno_ho18_g19 := own_ne_new ho18 hN19
              replace ho18 := own_gr ho18 hN19.mod (by simp)
              have hb19 := hN19.blk
              clear hN19
              refine L.nil (hX _ _ ⟨.inr hS1, ?_⟩)
              refine D.many (rs := [7, 9]) (by decide +kernel) rfl ?_
              intro i_ hi_
              simp only [List.mem_cons, List.not_mem_nil, or_false] at hi_
              rcases hi_ with rfl | rfl
              ·
                refine ⟨_, rfl, fun hX => ?_⟩
                have hown19 : World.ownsRow w6 w.heap.size 9 1 (.slice (some ⟨g19, 0, none⟩) 0 0) 0 [] := ⟨rfl, .inr ⟨g19, 0, #[], rfl, hge_g19, hb19, Nat.le_refl _, by decide, rfl, rfl⟩⟩
                have hno_hown19_g2 : (Value.slice (some ⟨g19, 0, none⟩) 0 0).ownBlock ≠ some g2 := fun h => by first | exact hne_g19_g2 (own_eq h) | exact hne_g2_g19 (own_eq h).symm
                clear hb19
                refine L.append rfl rfl hown19 (hf.gr hm0) Strs.one tyS22 tyZ9 (by omega) (by unfold maxLen; omega) hm0.size rfl ?_
                intro v22 w7 ho22' hG22
                replace hm0 := hm0.grew hG22 (fun g hg => (own_ge hown19 g hg).1)
                have hno_ho22_g2 := hG22.ne hno_hown19_g2 hb2
                replace hb2 := Blk.grew hb2 hG22 hno_hown19_g2
                replace ho18 := own_gr ho18 hG22.mod (own_single hno_ho18_g19)
                clear hown19
                have ho22 := ho22'; clear ho22'
                obtain ⟨A22, c22, rfl⟩ := own_form ho22
                replace hS1 := hS1.grew hG22 (fun b hb => own_eq hb ▸ hgs_g19)
                refine L.nil (hX _ _ ⟨.inr hS1, ?_⟩)
                refine D.take 8 rfl (by decide +kernel) (fun w_ hS => (R1.build rfl (built_H2 _ _ _ _ _ _))) hS1 rfl ?_
                refine D.one 9 rfl (by decide +kernel) (fun hX => ?_)
                refine L.alloc tyZ24 rfl ?_
                intro g5 w8 hN5
                replace hS1 := hS1.trans hN5.mod
                have hge_g5 := New.ge hN5 hm0.size
                replace hm0 := hm0.trans (hN5.mod.mono (by simp))
                have hne_g2_g5 := hb2.ne_ hN5
                replace hb2 := Blk.gr hb2 hN5.mod
                have hno_ho18_g5 := own_ne_new ho18 hN5
                replace ho18 := own_gr ho18 hN5.mod (by simp)
                have hno_ho22_g5 := own_ne_new ho22 hN5
                replace ho22 := own_gr ho22 hN5.mod (by simp)
                have hb5 := hN5.blk
                clear hN5
                refine L.nil (hX _ _ ⟨.inr hS1, ?_⟩)
                refine D.one 10 rfl (by decide +kernel) (fun hX => ?_)
                refine L.storeBox rfl rfl hb5 rfl rfl tyG24 ?_
                intro w9 hb5' hm9
                replace hm0 := hm0.old1 hm9 hge_g5
                replace hb2 := Blk.far hb2 hm9 (by first | exact hne_g2_g5 | exact (hne_g5_g2).symm)
                replace ho18 := own_far ho18 hm9 hno_ho18_g5
                replace ho22 := own_far ho22 hm9 hno_ho22_g5
                clear hm9
                replace hb5 := hb5'; clear hb5'
                refine L.nil (hX _ _ ⟨.inl rfl, ?_⟩)
                refine D.done (by decide +kernel) ?_ _
                refine X.join (g5, .slice A18 (0 + ps.length) c18, .slice A22 (0 + fs.length) c22) ?_ ?_
                · exact ⟨rfl, rfl, rfl, trivial⟩
                ·
                  exact ⟨hb2, hb5, by simpa using ho18, by simpa using ho22, hno_ho18_g2, hno_ho18_g5, hno_ho22_g2, hno_ho22_g5, by first | exact hne_g2_g5 | exact (hne_g5_g2).symm, hge_g5, hm0⟩
              ·
                refine ⟨_, rfl, fun hX => ?_⟩
                refine L.alloc tyZ24 rfl ?_
                intro g5 w10 hN5
                replace hS1 := hS1.trans hN5.mod
                have hge_g5 := New.ge hN5 hm0.size
                replace hm0 := hm0.trans (hN5.mod.mono (by simp))
                have hne_g2_g5 := hb2.ne_ hN5
                replace hb2 := Blk.gr hb2 hN5.mod
                have hno_ho18_g5 := own_ne_new ho18 hN5
                replace ho18 := own_gr ho18 hN5.mod (by simp)
                have hne_g19_g5 := hb19.ne_ hN5
                replace hb19 := Blk.gr hb19 hN5.mod
                have hb5 := hN5.blk
                clear hN5
                refine L.nil (hX _ _ ⟨.inr hS1, ?_⟩)
                refine D.one 7 rfl (by decide +kernel) (fun hX => ?_)
                have hown19 : World.ownsRow w10 w.heap.size 9 1 (.slice (some ⟨g19, 0, none⟩) 0 0) 0 [] := ⟨rfl, .inr ⟨g19, 0, #[], rfl, hge_g19, hb19, Nat.le_refl _, by decide, rfl, rfl⟩⟩
                have hno_hown19_g2 : (Value.slice (some ⟨g19, 0, none⟩) 0 0).ownBlock ≠ some g2 := fun h => by first | exact hne_g19_g2 (own_eq h) | exact hne_g2_g19 (own_eq h).symm
                have hno_hown19_g5 : (Value.slice (some ⟨g19, 0, none⟩) 0 0).ownBlock ≠ some g5 := fun h => by first | exact hne_g19_g5 (own_eq h) | exact hne_g5_g19 (own_eq h).symm
                clear hb19
                refine L.append rfl rfl hown19 (hf.gr hm0) Strs.one tyS22 tyZ9 (by omega) (by unfold maxLen; omega) hm0.size rfl ?_
                intro v22 w11 ho22' hG22
                replace hm0 := hm0.grew hG22 (fun g hg => (own_ge hown19 g hg).1)
                have hno_ho22_g2 := hG22.ne hno_hown19_g2 hb2
                replace hb2 := Blk.grew hb2 hG22 hno_hown19_g2
                replace ho18 := own_gr ho18 hG22.mod (own_single hno_ho18_g19)
                have hno_ho22_g5 := hG22.ne hno_hown19_g5 hb5
                replace hb5 := Blk.grew hb5 hG22 hno_hown19_g5
                clear hown19
                have ho22 := ho22'; clear ho22'
                obtain ⟨A22, c22, rfl⟩ := own_form ho22
                replace hS1 := hS1.grew hG22 (fun b hb => own_eq hb ▸ hgs_g19)
                refine L.nil (hX _ _ ⟨.inr hS1, ?_⟩)
                refine D.take 8 rfl (by decide +kernel) (fun w_ hS => (R1.build rfl (built_H2 _ _ _ _ _ _))) hS1 rfl ?_
                refine D.one 10 rfl (by decide +kernel) (fun hX => ?_)
                refine L.storeBox rfl rfl hb5 rfl rfl tyG24 ?_
                intro w12 hb5' hm12
                replace hm0 := hm0.old1 hm12 hge_g5
                replace hb2 := Blk.far hb2 hm12 (by first | exact hne_g2_g5 | exact (hne_g5_g2).symm)
                replace ho18 := own_far ho18 hm12 hno_ho18_g5
                replace ho22 := own_far ho22 hm12 hno_ho22_g5
                clear hm12
                replace hb5 := hb5'; clear hb5'
                refine L.nil (hX _ _ ⟨.inl rfl, ?_⟩)
                refine D.done (by decide +kernel) ?_ _
                refine X.join (g5, .slice A18 (0 + ps.length) c18, .slice A22 (0 + fs.length) c22) ?_ ?_
                · exact ⟨rfl, rfl, rfl, trivial⟩
                ·
                  exact ⟨hb2, hb5, by simpa using ho18, by simpa using ho22, hno_ho18_g2, hno_ho18_g5, hno_ho22_g2, hno_ho22_g5, by first | exact hne_g2_g5 | exact (hne_g5_g2).symm, hge_g5, hm0⟩
            ·
              refine ⟨_, rfl, fun hX => ?_⟩
              refine L.alloc tyZ24 rfl ?_
              intro g5 w13 hN5
              replace hS1 := hS1.trans hN5.mod
              have hge_g5 := New.ge hN5 hm0.size
              replace hm0 := hm0.trans (hN5.mod.mono (by simp))
              have hne_g2_g5 := hb2.ne_ hN5
              replace hb2 := Blk.gr hb2 hN5.mod
              have hno_ho18_g5 := own_ne_new ho18 hN5
              replace ho18 := own_gr ho18 hN5.mod (by simp)
              have hb5 := hN5.blk
              clear hN5
              refine L.nil (hX _ _ ⟨.inr hS1, ?_⟩)
              refine D.one 4 rfl (by decide +kernel) (fun hX => ?_)
              refine L.buildEmpty tyS22 rfl ?_
              intro g19 w14 hN19
              have hgs_g19 := New.ge hN19 hS1.size
              replace hS1 := hS1.trans hN19.mod
              have hge_g19 := New.ge hN19 hm0.size
              replace hm0 := hm0.trans (hN19.mod.mono (by simp))
              have hne_g2_g19 := hb2.ne_ hN19
              replace hb2 := Blk.gr hb2 hN19.mod
              have hno_ho18_g19 := own_ne_new ho18 hN19
              replace ho18 := own_gr ho18 hN19.mod (by simp)
              have hne_g5_g19 := hb5.ne_ hN19
              replace hb5 := Blk.gr hb5 hN19.mod
              have hb19 := hN19.blk
              clear hN19
              refine L.nil (hX _ _ ⟨.inr hS1, ?_⟩)
              refine D.one 7 rfl (by decide +kernel) (fun hX => ?_)
              have hown19 : World.ownsRow w14 w.heap.size 9 1 (.slice (some ⟨g19, 0, none⟩) 0 0) 0 [] := ⟨rfl, .inr ⟨g19, 0, #[], rfl, hge_g19, hb19, Nat.le_refl _, by decide, rfl, rfl⟩⟩
              have hno_hown19_g2 : (Value.slice (some ⟨g19, 0, none⟩) 0 0).ownBlock ≠ some g2 := fun h => by first | exact hne_g19_g2 (own_eq h) | exact hne_g2_g19 (own_eq h).symm
              have hno_hown19_g5 : (Value.slice (some ⟨g19, 0, none⟩) 0 0).ownBlock ≠ some g5 := fun h => by first | exact hne_g19_g5 (own_eq h) | exact hne_g5_g19 (own_eq h).symm
              clear hb19
              refine L.append rfl rfl hown19 (hf.gr hm0) Strs.one tyS22 tyZ9 (by omega) (by unfold maxLen; omega) hm0.size rfl ?_
              intro v22 w15 ho22' hG22
              replace hm0 := hm0.grew hG22 (fun g hg => (own_ge hown19 g hg).1)
              have hno_ho22_g2 := hG22.ne hno_hown19_g2 hb2
              replace hb2 := Blk.grew hb2 hG22 hno_hown19_g2
              replace ho18 := own_gr ho18 hG22.mod (own_single hno_ho18_g19)
              have hno_ho22_g5 := hG22.ne hno_hown19_g5 hb5
              replace hb5 := Blk.grew hb5 hG22 hno_hown19_g5
              clear hown19
              have ho22 := ho22'; clear ho22'
              obtain ⟨A22, c22, rfl⟩ := own_form ho22
              replace hS1 := hS1.grew hG22 (fun b hb => own_eq hb ▸ hgs_g19)
              refine L.nil (hX _ _ ⟨.inr hS1, ?_⟩)
              refine D.take 8 rfl (by decide +kernel) (fun w_ hS => (R1.build rfl (built_H2 _ _ _ _ _ _))) hS1 rfl ?_
              refine D.one 10 rfl (by decide +kernel) (fun hX => ?_)
              refine L.storeBox rfl rfl hb5 rfl rfl tyG24 ?_
              intro w16 hb5' hm16
              replace hm0 := hm0.old1 hm16 hge_g5
              replace hb2 := Blk.far hb2 hm16 (by first | exact hne_g2_g5 | exact (hne_g5_g2).symm)
              replace ho18 := own_far ho18 hm16 hno_ho18_g5
              replace ho22 := own_far ho22 hm16 hno_ho22_g5
              clear hm16
              replace hb5 := hb5'; clear hb5'
              refine L.nil (hX _ _ ⟨.inl rfl, ?_⟩)
              refine D.done (by decide +kernel) ?_ _
              refine X.join (g5, .slice A18 (0 + ps.length) c18, .slice A22 (0 + fs.length) c22) ?_ ?_
              · exact ⟨rfl, rfl, rfl, trivial⟩
              ·
                exact ⟨hb2, hb5, by simpa using ho18, by simpa using ho22, hno_ho18_g2, hno_ho18_g5, hno_ho22_g2, hno_ho22_g5, by first | exact hne_g2_g5 | exact (hne_g5_g2).symm, hge_g5, hm0⟩
          ·
            refine ⟨_, rfl, fun hX => ?_⟩
            refine L.buildEmpty tyS22 rfl ?_
            intro g19 w17 hN19
            have hgs_g19 := New.ge hN19 hS1.size
            replace hS1 := hS1.trans hN19.mod
            have hge_g19 := New.ge hN19 hm0.size
            replace hm0 := hm0.trans (hN19.mod.mono (by simp))
            have hne_g2_g19 := hb2.ne_ hN19
            replace hb2 := Blk.gr hb2 hN19.mod
            have hne_g15_g19 := hb15.ne_ hN19
            replace hb15 := Blk.gr hb15 hN19.mod
            have hb19 := hN19.blk
            clear hN19
            refine L.nil (hX _ _ ⟨.inr hS1, ?_⟩)
            refine D.many (rs := [3, 9]) (by decide +kernel) rfl ?_
            intro i_ hi_
            simp only [List.mem_cons, List.not_mem_nil, or_false] at hi_
            rcases hi_ with rfl | rfl
            ·
              refine ⟨_, rfl, fun hX => ?_⟩
              have hown15 : World.ownsRow w17 w.heap.size 9 1 (.slice (some ⟨g15, 0, none⟩) 0 0) 0 [] := ⟨rfl, .inr ⟨g15, 0, #[], rfl, hge_g15, hb15, Nat.le_refl _, by decide, rfl, rfl⟩⟩
              have hno_hown15_g2 : (Value.slice (some ⟨g15, 0, none⟩) 0 0).ownBlock ≠ some g2 := fun h => by first | exact hne_g15_g2 (own_eq h) | exact hne_g2_g15 (own_eq h).symm
              have hno_hown15_g19 : (Value.slice (some ⟨g15, 0, none⟩) 0 0).ownBlock ≠ some g19 := fun h => by first | exact hne_g15_g19 (own_eq h) | exact hne_g19_g15 (own_eq h).symm
              clear hb15
              refine L.append rfl rfl hown15 (hp.gr hm0) Strs.one tyS22 tyZ9 (by omega) (by unfold maxLen; omega) hm0.size rfl ?_
              intro v18 w18 ho18' hG18
              replace hm0 := hm0.grew hG18 (fun g hg => (own_ge hown15 g hg).1)
              have hno_ho18_g2 := hG18.ne hno_hown15_g2 hb2
              replace hb2 := Blk.grew hb2 hG18 hno_hown15_g2
              have hno_ho18_g19 := hG18.ne hno_hown15_g19 hb19
              replace hb19 := Blk.grew hb19 hG18 hno_hown15_g19
              clear hown15
              have ho18 := ho18'; clear ho18'
              obtain ⟨A18, c18, rfl⟩ := own_form ho18
              replace hS1 := hS1.grew hG18 (fun b hb => own_eq hb ▸ hgs_g15)
              refine L.nil (hX _ _ ⟨.inr hS1, ?_⟩)
              refine D.many (rs := [7, 9]) (by decide +kernel) rfl ?_
              intro i_ hi_
              simp only [List.mem_cons, List.not_mem_nil, or_false] at hi_
              rcases hi_ with rfl | rfl
              ·
                refine ⟨_, rfl, fun hX => ?_⟩
                have hown19 : World.ownsRow w18 w.heap.size 9 1 (.slice (some ⟨g19, 0, none⟩) 0 0) 0 [] := ⟨rfl, .inr ⟨g19, 0, #[], rfl, hge_g19, hb19, Nat.le_refl _, by decide, rfl, rfl⟩⟩
                have hno_hown19_g2 : (Value.slice (some ⟨g19, 0, none⟩) 0 0).ownBlock ≠ some g2 := fun h => by first | exact hne_g19_g2 (own_eq h) | exact hne_g2_g19 (own_eq h).symm
                clear hb19
                refine L.append rfl rfl hown19 (hf.gr hm0) Strs.one tyS22 tyZ9 (by omega) (by unfold maxLen; omega) hm0.size rfl ?_
                intro v22 w19 ho22' hG22
                replace hm0 := hm0.grew hG22 (fun g hg => (own_ge hown19 g hg).1)
                have hno_ho22_g2 := hG22.ne hno_hown19_g2 hb2
                replace hb2 := Blk.grew hb2 hG22 hno_hown19_g2
                replace ho18 := own_gr ho18 hG22.mod (own_single hno_ho18_g19)
                clear hown19
                have ho22 := ho22'; clear ho22'
                obtain ⟨A22, c22, rfl⟩ := own_form ho22
                replace hS1 := hS1.grew hG22 (fun b hb => own_eq hb ▸ hgs_g19)
                refine L.nil (hX _ _ ⟨.inr hS1, ?_⟩)
                refine D.take 8 rfl (by decide +kernel) (fun w_ hS => (R1.build rfl (built_H2 _ _ _ _ _ _))) hS1 rfl ?_
                refine D.one 9 rfl (by decide +kernel) (fun hX => ?_)
                refine L.alloc tyZ24 rfl ?_
                intro g5 w20 hN5
                replace hS1 := hS1.trans hN5.mod
                have hge_g5 := New.ge hN5 hm0.size
                replace hm0 := hm0.trans (hN5.mod.mono (by simp))
                have hne_g2_g5 := hb2.ne_ hN5
                replace hb2 := Blk.gr hb2 hN5.mod
                have hno_ho18_g5 := own_ne_new ho18 hN5
                replace ho18 := own_gr ho18 hN5.mod (by simp)
                have hno_ho22_g5 := own_ne_new ho22 hN5
                replace ho22 := own_gr ho22 hN5.mod (by simp)
                have hb5 := hN5.blk
                clear hN5
                refine L.nil (hX _ _ ⟨.inr hS1, ?_⟩)
                refine D.one 10 rfl (by decide +kernel) (fun hX => ?_)
                refine L.storeBox rfl rfl hb5 rfl rfl tyG24 ?_
                intro w21 hb5' hm21
                replace hm0 := hm0.old1 hm21 hge_g5
                replace hb2 := Blk.far hb2 hm21 (by first | exact hne_g2_g5 | exact (hne_g5_g2).symm)
                replace ho18 := own_far ho18 hm21 hno_ho18_g5
                replace ho22 := own_far ho22 hm21 hno_ho22_g5
                clear hm21
                replace hb5 := hb5'; clear hb5'
                refine L.nil (hX _ _ ⟨.inl rfl, ?_⟩)
                refine D.done (by decide +kernel) ?_ _
                refine X.join (g5, .slice A18 (0 + ps.length) c18, .slice A22 (0 + fs.length) c22) ?_ ?_
                · exact ⟨rfl, rfl, rfl, trivial⟩
                ·
                  exact ⟨hb2, hb5, by simpa using ho18, by simpa using ho22, hno_ho18_g2, hno_ho18_g5, hno_ho22_g2, hno_ho22_g5, by first | exact hne_g2_g5 | exact (hne_g5_g2).symm, hge_g5, hm0⟩
              ·
                refine ⟨_, rfl, fun hX => ?_⟩
                refine L.alloc tyZ24 rfl ?_
                intro g5 w22 hN5
                replace hS1 := hS1.trans hN5.mod
                have hge_g5 := New.ge hN5 hm0.size
                replace hm0 := hm0.trans (hN5.mod.mono (by simp))
                have hne_g2_g5 := hb2.ne_ hN5
                replace hb2 := Blk.gr hb2 hN5.mod
                have hne_g19_g5 := hb19.ne_ hN5
                replace hb19 := Blk.gr hb19 hN5.mod
                have hno_ho18_g5 := own_ne_new ho18 hN5
                replace ho18 := own_gr ho18 hN5.mod (by simp)
                have hb5 := hN5.blk
                clear hN5
                refine L.nil (hX _ _ ⟨.inr hS1, ?_⟩)
                refine D.one 7 rfl (by decide +kernel) (fun hX => ?_)
                have hown19 : World.ownsRow w22 w.heap.size 9 1 (.slice (some ⟨g19, 0, none⟩) 0 0) 0 [] := ⟨rfl, .inr ⟨g19, 0, #[], rfl, hge_g19, hb19, Nat.le_refl _, by decide, rfl, rfl⟩⟩
                have hno_hown19_g2 : (Value.slice (some ⟨g19, 0, none⟩) 0 0).ownBlock ≠ some g2 := fun h => by first | exact hne_g19_g2 (own_eq h) | exact hne_g2_g19 (own_eq h).symm
                have hno_hown19_g5 : (Value.slice (some ⟨g19, 0, none⟩) 0 0).ownBlock ≠ some g5 := fun h => by first | exact hne_g19_g5 (own_eq h) | exact hne_g5_g19 (own_eq h).symm
                clear hb19
                refine L.append rfl rfl hown19 (hf.gr hm0) Strs.one tyS22 tyZ9 (by omega) (by unfold maxLen; omega) hm0.size rfl ?_
                intro v22 w23 ho22' hG22
                replace hm0 := hm0.grew hG22 (fun g hg => (own_ge hown19 g hg).1)
                have hno_ho22_g2 := hG22.ne hno_hown19_g2 hb2
                replace hb2 := Blk.grew hb2 hG22 hno_hown19_g2
                replace ho18 := own_gr ho18 hG22.mod (own_single hno_ho18_g19)
                have hno_ho22_g5 := hG22.ne hno_hown19_g5 hb5
                replace hb5 := Blk.grew hb5 hG22 hno_hown19_g5
                clear hown19
                have ho22 := ho22'; clear ho22'
                obtain ⟨A22, c22, rfl⟩ := own_form ho22
                replace hS1 := hS1.grew hG22 (fun b hb => own_eq hb ▸ hgs_g19)
                refine L.nil (hX _ _ ⟨.inr hS1, ?_⟩)
                refine D.take 8 rfl (by decide +kernel) (fun w_ hS => (R1.build rfl (built_H2 _ _ _ _ _ _))) hS1 rfl ?_
                refine D.one 10 rfl (by decide +kernel) (fun hX => ?_)
                refine L.storeBox rfl rfl hb5 rfl rfl tyG24 ?_
                intro w24 hb5' hm24
                replace hm0 := hm0.old1 hm24 hge_g5
                replace hb2 := Blk.far hb2 hm24 (by first | exact hne_g2_g5 | exact (hne_g5_g2).symm)
                replace ho18 := own_far ho18 hm24 hno_ho18_g5
                replace ho22 := own_far ho22 hm24 hno_ho22_g5
                clear hm24
                replace hb5 := hb5'; clear hb5'
                refine L.nil (hX _ _ ⟨.inl rfl, ?_⟩)
                refine D.done (by decide +kernel) ?_ _
                refine X.join (g5, .slice A18 (0 + ps.length) c18, .slice A22 (0 + fs.length) c22) ?_ ?_
                · exact ⟨rfl, rfl, rfl, trivial⟩
                ·
                  exact ⟨hb2, hb5, by simpa using ho18, by simpa using ho22, hno_ho18_g2, hno_ho18_g5, hno_ho22_g2, hno_ho22_g5, by first | exact hne_g2_g5 | exact (hne_g5_g2).symm, hge_g5, hm0⟩
            ·
              refine ⟨_, rfl, fun hX => ?_⟩
              refine L.alloc tyZ24 rfl ?_
              intro g5 w25 hN5
              replace hS1 := hS1.trans hN5.mod
              have hge_g5 := New.ge hN5 hm0.size
              replace hm0 := hm0.trans (hN5.mod.mono (by simp))
              have hne_g2_g5 := hb2.ne_ hN5
              replace hb2 := Blk.gr hb2 hN5.mod
              have hne_g15_g5 := hb15.ne_ hN5
              replace hb15 := Blk.gr hb15 hN5.mod
              have hne_g19_g5 := hb19.ne_ hN5
              replace hb19 := Blk.gr hb19 hN5.mod
              have hb5 := hN5.blk
              clear hN5
              refine L.nil (hX _ _ ⟨.inr hS1, ?_⟩)
              refine D.one 3 rfl (by decide +kernel) (fun hX => ?_)
              have hown15 : World.ownsRow w25 w.heap.size 9 1 (.slice (some ⟨g15, 0, none⟩) 0 0) 0 [] := ⟨rfl, .inr ⟨g15, 0, #[], rfl, hge_g15, hb15, Nat.le_refl _, by decide, rfl, rfl⟩⟩
              have hno_hown15_g2 : (Value.slice (some ⟨g15, 0, none⟩) 0 0).ownBlock ≠ some g2 := fun h => by first | exact hne_g15_g2 (own_eq h) | exact hne_g2_g15 (own_eq h).symm
              have hno_hown15_g19 : (Value.slice (some ⟨g15, 0, none⟩) 0 0).ownBlock ≠ some g19 := fun h => by first | exact hne_g15_g19 (own_eq h) | exact hne_g19_g15 (own_eq h).symm
              have hno_hown15_g5 : (Value.slice (some ⟨g15, 0, none⟩) 0 0).ownBlock ≠ some g5 := fun h => by first | exact hne_g15_g5 (own_eq h) | exact hne_g5_g15 (own_eq h).symm
              clear hb15
              refine L.append rfl rfl hown15 (hp.gr hm0) Strs.one tyS22 tyZ9 (by omega) (by unfold maxLen; omega) hm0.size rfl ?_
              intro v18 w26 ho18' hG18
              replace hm0 := hm0.grew hG18 (fun g hg => (own_ge hown15 g hg).1)
              have hno_ho18_g2 := hG18.ne hno_hown15_g2 hb2
              replace hb2 := Blk.grew hb2 hG18 hno_hown15_g2
              have hno_ho18_g19 := hG18.ne hno_hown15_g19 hb19
              replace hb19 := Blk.grew hb19 hG18 hno_hown15_g19
              have hno_ho18_g5 := hG18.ne hno_hown15_g5 hb5
              replace hb5 := Blk.grew hb5 hG18 hno_hown15_g5
              clear hown15
              have ho18 := ho18'; clear ho18'
              obtain ⟨A18, c18, rfl⟩ := own_form ho18
              replace hS1 := hS1.grew hG18 (fun b hb => own_eq hb ▸ hgs_g15)
              refine L.nil (hX _ _ ⟨.inr hS1, ?_⟩)
              refine D.one 7 rfl (by decide +kernel) (fun hX => ?_)
              have hown19 : World.ownsRow w26 w.heap.size 9 1 (.slice (some ⟨g19, 0, none⟩) 0 0) 0 [] := ⟨rfl, .inr ⟨g19, 0, #[], rfl, hge_g19, hb19, Nat.le_refl _, by decide, rfl, rfl⟩⟩
              have hno_hown19_g2 : (Value.slice (some ⟨g19, 0, none⟩) 0 0).ownBlock ≠ some g2 := fun h => by first | exact hne_g19_g2 (own_eq h) | exact hne_g2_g19 (own_eq h).symm
              have hno_hown19_g5 : (Value.slice (some ⟨g19, 0, none⟩) 0 0).ownBlock ≠ some g5 := fun h => by first | exact hne_g19_g5 (own_eq h) | exact hne_g5_g19 (own_eq h).symm
              clear hb19
              refine L.append rfl rfl hown19 (hf.gr hm0) Strs.one tyS22 tyZ9 (by omega) (by unfold maxLen; omega) hm0.size rfl ?_
              intro v22 w27 ho22' hG22
              replace hm0 := hm0.grew hG22 (fun g hg => (own_ge hown19 g hg).1)
              have hno_ho22_g2 := hG22.ne hno_hown19_g2 hb2
              replace hb2 := Blk.grew hb2 hG22 hno_hown19_g2
              have hno_ho22_g5 := hG22.ne hno_hown19_g5 hb5
              replace hb5 := Blk.grew hb5 hG22 hno_hown19_g5
              replace ho18 := own_gr ho18 hG22.mod (own_single hno_ho18_g19)
              clear hown19
              have ho22 := ho22'; clear ho22'
              obtain ⟨A22, c22, rfl⟩ := own_form ho22
              replace hS1 := hS1.grew hG22 (fun b hb => own_eq hb ▸ hgs_g19)
              refine L.nil (hX _ _ ⟨.inr hS1, ?_⟩)
              refine D.take 8 rfl (by decide +kernel) (fun w_ hS => (R1.build rfl (built_H2 _ _ _ _ _ _))) hS1 rfl ?_
              refine D.one 10 rfl (by decide +kernel) (fun hX => ?_)
              refine L.storeBox rfl rfl hb5 rfl rfl tyG24 ?_
              intro w28 hb5' hm28
              replace hm0 := hm0.old1 hm28 hge_g5
              replace hb2 := Blk.far hb2 hm28 (by first | exact hne_g2_g5 | exact (hne_g5_g2).symm)
              replace ho18 := own_far ho18 hm28 hno_ho18_g5
              replace ho22 := own_far ho22 hm28 hno_ho22_g5
              clear hm28
              replace hb5 := hb5'; clear hb5'
              refine L.nil (hX _ _ ⟨.inl rfl, ?_⟩)
              refine D.done (by decide +kernel) ?_ _
              refine X.join (g5, .slice A18 (0 + ps.length) c18, .slice A22 (0 + fs.length) c22) ?_ ?_
              · exact ⟨rfl, rfl, rfl, trivial⟩
              ·
                exact ⟨hb2, hb5, by simpa using ho18, by simpa using ho22, hno_ho18_g2, hno_ho18_g5, hno_ho22_g2, hno_ho22_g5, by first | exact hne_g2_g5 | exact (hne_g5_g2).symm, hge_g5, hm0⟩
          ·
            refine ⟨_, rfl, fun hX => ?_⟩
            refine L.alloc tyZ24 rfl ?_
            intro g5 w29 hN5
            replace hS1 := hS1.trans hN5.mod
            have hge_g5 := New.ge hN5 hm0.size
            replace hm0 := hm0.trans (hN5.mod.mono (by simp))
            have hne_g2_g5 := hb2.ne_ hN5
            replace hb2 := Blk.gr hb2 hN5.mod
            have hne_g15_g5 := hb15.ne_ hN5
            replace hb15 := Blk.gr hb15 hN5.mod
            have hb5 := hN5.blk
            clear hN5
            refine L.nil (hX _ _ ⟨.inr hS1, ?_⟩)
            refine D.many (rs := [3, 4]) (by decide +kernel) rfl ?_
            intro i_ hi_
            simp only [List.mem_cons, List.not_mem_nil, or_false] at hi_
            rcases hi_ with rfl | rfl
            ·
              refine ⟨_, rfl, fun hX => ?_⟩
              have hown15 : World.ownsRow w29 w.heap.size 9 1 (.slice (some ⟨g15, 0, none⟩) 0 0) 0 [] := ⟨rfl, .inr ⟨g15, 0, #[], rfl, hge_g15, hb15, Nat.le_refl _, by decide, rfl, rfl⟩⟩
              have hno_hown15_g2 : (Value.slice (some ⟨g15, 0, none⟩) 0 0).ownBlock ≠ some g2 := fun h => by first | exact hne_g15_g2 (own_eq h) | exact hne_g2_g15 (own_eq h).symm
              have hno_hown15_g5 : (Value.slice (some ⟨g15, 0, none⟩) 0 0).ownBlock ≠ some g5 := fun h => by first | exact hne_g15_g5 (own_eq h) | exact hne_g5_g15 (own_eq h).symm
              clear hb15
              refine L.append rfl rfl hown15 (hp.gr hm0) Strs.one tyS22 tyZ9 (by omega) (by unfold maxLen; omega) hm0.size rfl ?_
              intro v18 w30 ho18' hG18
              replace hm0 := hm0.grew hG18 (fun g hg => (own_ge hown15 g hg).1)
              have hno_ho18_g2 := hG18.ne hno_hown15_g2 hb2
              replace hb2 := Blk.grew hb2 hG18 hno_hown15_g2
              have hno_ho18_g5 := hG18.ne hno_hown15_g5 hb5
              replace hb5 := Blk.grew hb5 hG18 hno_hown15_g5
              clear hown15
              have ho18 := ho18'; clear ho18'
              obtain ⟨A18, c18, rfl⟩ := own_form ho18
              replace hS1 := hS1.grew hG18 (fun b hb => own_eq hb ▸ hgs_g15)
              refine L.nil (hX _ _ ⟨.inr hS1, ?_⟩)
              refine D.one 4 rfl (by decide +kernel) (fun hX => ?_)
              refine L.buildEmpty tyS22 rfl ?_
              intro g19 w31 hN19
              have hgs_g19 := New.ge hN19 hS1.size
              replace hS1 := hS1.trans hN19.mod
              have hge_g19 := New.ge hN19 hm0.size
              replace hm0 := hm0.trans (hN19.mod.mono (by simp))
              have hne_g2_g19 := hb2.ne_ hN19
              replace hb2 := Blk.gr hb2 hN19.mod
              have hne_g5_g19 := hb5.ne_ hN19
              replace hb5 := Blk.gr hb5 hN19.mod
              have hno_ho18_g19 := own_ne_new ho18 hN19
              replace ho18 := own_gr ho18 hN19.mod (by simp)
              have hb19 := hN19.blk
              clear hN19
              refine L.nil (hX _ _ ⟨.inr hS1, ?_⟩)
              refine D.one 7 rfl (by decide +kernel) (fun hX => ?_)
              have hown19 : World.ownsRow w31 w.heap.size 9 1 (.slice (some ⟨g19, 0, none⟩) 0 0) 0 [] := ⟨rfl, .inr ⟨g19, 0, #[], rfl, hge_g19, hb19, Nat.le_refl _, by decide, rfl, rfl⟩⟩
              have hno_hown19_g2 : (Value.slice (some ⟨g19, 0, none⟩) 0 0).ownBlock ≠ some g2 := fun h => by first | exact hne_g19_g2 (own_eq h) | exact hne_g2_g19 (own_eq h).symm
              have hno_hown19_g5 : (Value.slice (some ⟨g19, 0, none⟩) 0 0).ownBlock ≠ some g5 := fun h => by first | exact hne_g19_g5 (own_eq h) | exact hne_g5_g19 (own_eq h).symm
              clear hb19
              refine L.append rfl rfl hown19 (hf.gr hm0) Strs.one tyS22 tyZ9 (by omega) (by unfold maxLen; omega) hm0.size rfl ?_
              intro v22 w32 ho22' hG22
              replace hm0 := hm0.grew hG22 (fun g hg => (own_ge hown19 g hg).1)
              have hno_ho22_g2 := hG22.ne hno_hown19_g2 hb2
              replace hb2 := Blk.grew hb2 hG22 hno_hown19_g2
              have hno_ho22_g5 := hG22.ne hno_hown19_g5 hb5
              replace hb5 := Blk.grew hb5 hG22 hno_hown19_g5
              replace ho18 := own_gr ho18 hG22.mod (own_single hno_ho18_g19)
              clear hown19
              have ho22 := ho22'; clear ho22'
              obtain ⟨A22, c22, rfl⟩ := own_form ho22
              replace hS1 := hS1.grew hG22 (fun b hb => own_eq hb ▸ hgs_g19)
              refine L.nil (hX _ _ ⟨.inr hS1, ?_⟩)
              refine D.take 8 rfl (by decide +kernel) (fun w_ hS => (R1.build rfl (built_H2 _ _ _ _ _ _))) hS1 rfl ?_
              refine D.one 10 rfl (by decide +kernel) (fun hX => ?_)
              refine L.storeBox rfl rfl hb5 rfl rfl tyG24 ?_
              intro w33 hb5' hm33
              replace hm0 := hm0.old1 hm33 hge_g5
              replace hb2 := Blk.far hb2 hm33 (by first | exact hne_g2_g5 | exact (hne_g5_g2).symm)
              replace ho18 := own_far ho18 hm33 hno_ho18_g5
              replace ho22 := own_far ho22 hm33 hno_ho22_g5
              clear hm33
              replace hb5 := hb5'; clear hb5'
              refine L.nil (hX _ _ ⟨.inl rfl, ?_⟩)
              refine D.done (by decide +kernel) ?_ _
              refine X.join (g5, .slice A18 (0 + ps.length) c18, .slice A22 (0 + fs.length) c22) ?_ ?_
              · exact ⟨rfl, rfl, rfl, trivial⟩
              ·
                exact ⟨hb2, hb5, by simpa using ho18, by simpa using ho22, hno_ho18_g2, hno_ho18_g5, hno_ho22_g2, hno_ho22_g5, by first | exact hne_g2_g5 | exact (hne_g5_g2).symm, hge_g5, hm0⟩
            ·
              refine ⟨_, rfl, fun hX => ?_⟩
              refine L.buildEmpty tyS22 rfl ?_
              intro g19 w34 hN19
              have hgs_g19 := New.ge hN19 hS1.size
              replace hS1 := hS1.trans hN19.mod
              have hge_g19 := New.ge hN19 hm0.size
              replace hm0 := hm0.trans (hN19.mod.mono (by simp))
              have hne_g2_g19 := hb2.ne_ hN19
              replace hb2 := Blk.gr hb2 hN19.mod
              have hne_g15_g19 := hb15.ne_ hN19
              replace hb15 := Blk.gr hb15 hN19.mod
              have hne_g5_g19 := hb5.ne_ hN19
              replace hb5 := Blk.gr hb5 hN19.mod
              have hb19 := hN19.blk
              clear hN19
              refine L.nil (hX _ _ ⟨.inr hS1, ?_⟩)
              refine D.one 3 rfl (by decide +kernel) (fun hX => ?_)
              have hown15 : World.ownsRow w34 w.heap.size 9 1 (.slice (some ⟨g15, 0, none⟩) 0 0) 0 [] := ⟨rfl, .inr ⟨g15, 0, #[], rfl, hge_g15, hb15, Nat.le_refl _, by decide, rfl, rfl⟩⟩
              have hno_hown15_g2 : (Value.slice (some ⟨g15, 0, none⟩) 0 0).ownBlock ≠ some g2 := fun h => by first | exact hne_g15_g2 (own_eq h) | exact hne_g2_g15 (own_eq h).symm
              have hno_hown15_g5 : (Value.slice (some ⟨g15, 0, none⟩) 0 0).ownBlock ≠ some g5 := fun h => by first | exact hne_g15_g5 (own_eq h) | exact hne_g5_g15 (own_eq h).symm
              have hno_hown15_g19 : (Value.slice (some ⟨g15, 0, none⟩) 0 0).ownBlock ≠ some g19 := fun h => by first | exact hne_g15_g19 (own_eq h) | exact hne_g19_g15 (own_eq h).symm
              clear hb15
              refine L.append rfl rfl hown15 (hp.gr hm0) Strs.one tyS22 tyZ9 (by omega) (by unfold maxLen; omega) hm0.size rfl ?_
              intro v18 w35 ho18' hG18
              replace hm0 := hm0.grew hG18 (fun g hg => (own_ge hown15 g hg).1)
              have hno_ho18_g2 := hG18.ne hno_hown15_g2 hb2
              replace hb2 := Blk.grew hb2 hG18 hno_hown15_g2
              have hno_ho18_g5 := hG18.ne hno_hown15_g5 hb5
              replace hb5 := Blk.grew hb5 hG18 hno_hown15_g5
              have hno_ho18_g19 := hG18.ne hno_hown15_g19 hb19
              replace hb19 := Blk.grew hb19 hG18 hno_hown15_g19
              clear hown15
              have ho18 := ho18'; clear ho18'
              obtain ⟨A18, c18, rfl⟩ := own_form ho18
              replace hS1 := hS1.grew hG18 (fun b hb => own_eq hb ▸ hgs_g15)
              refine L.nil (hX _ _ ⟨.inr hS1, ?_⟩)
              refine D.one 7 rfl (by decide +kernel) (fun hX => ?_)
              have hown19 : World.ownsRow w35 w.heap.size 9 1 (.slice (some ⟨g19, 0, none⟩) 0 0) 0 [] := ⟨rfl, .inr ⟨g19, 0, #[], rfl, hge_g19, hb19, Nat.le_refl _, by decide, rfl, rfl⟩⟩
              have hno_hown19_g2 : (Value.slice (some ⟨g19, 0, none⟩) 0 0).ownBlock ≠ some g2 := fun h => by first | exact hne_g19_g2 (own_eq h) | exact hne_g2_g19 (own_eq h).symm
              have hno_hown19_g5 : (Value.slice (some ⟨g19, 0, none⟩) 0 0).ownBlock ≠ some g5 := fun h => by first | exact hne_g19_g5 (own_eq h) | exact hne_g5_g19 (own_eq h).symm
              clear hb19
              refine L.append rfl rfl hown19 (hf.gr hm0) Strs.one tyS22 tyZ9 (by omega) (by unfold maxLen; omega) hm0.size rfl ?_
              intro v22 w36 ho22' hG22
              replace hm0 := hm0.grew hG22 (fun g hg => (own_ge hown19 g hg).1)
              have hno_ho22_g2 := hG22.ne hno_hown19_g2 hb2
              replace hb2 := Blk.grew hb2 hG22 hno_hown19_g2
              have hno_ho22_g5 := hG22.ne hno_hown19_g5 hb5
              replace hb5 := Blk.grew hb5 hG22 hno_hown19_g5
              replace ho18 := own_gr ho18 hG22.mod (own_single hno_ho18_g19)
              clear hown19
              have ho22 := ho22'; clear ho22'
              obtain ⟨A22, c22, rfl⟩ := own_form ho22
              replace hS1 := hS1.grew hG22 (fun b hb => own_eq hb ▸ hgs_g19)
              refine L.nil (hX _ _ ⟨.inr hS1, ?_⟩)
              refine D.take 8 rfl (by decide +kernel) (fun w_ hS => (R1.build rfl (built_H2 _ _ _ _ _ _))) hS1 rfl ?_
              refine D.one 10 rfl (by decide +kernel) (fun hX => ?_)
              refine L.storeBox rfl rfl hb5 rfl rfl tyG24 ?_
              intro w37 hb5' hm37
              replace hm0 := hm0.old1 hm37 hge_g5
              replace hb2 := Blk.far hb2 hm37 (by first | exact hne_g2_g5 | exact (hne_g5_g2).symm)
              replace ho18 := own_far ho18 hm37 hno_ho18_g5
              replace ho22 := own_far ho22 hm37 hno_ho22_g5
              clear hm37
              replace hb5 := hb5'; clear hb5'
              refine L.nil (hX _ _ ⟨.inl rfl, ?_⟩)
              refine D.done (by decide +kernel) ?_ _
              refine X.join (g5, .slice A18 (0 + ps.length) c18, .slice A22 (0 + fs.length) c22) ?_ ?_
              · exact ⟨rfl, rfl, rfl, trivial⟩
              ·
                exact ⟨hb2, hb5, by simpa using ho18, by simpa using ho22, hno_ho18_g2, hno_ho18_g5, hno_ho22_g2, hno_ho22_g5, by first | exact hne_g2_g5 | exact (hne_g5_g2).symm, hge_g5, hm0⟩
        ·
          refine ⟨_, rfl, fun hX => ?_⟩
          refine L.buildEmpty tyS22 rfl ?_
          intro g19 w38 hN19
          have hgs_g19 := New.ge hN19 hS1.size
          replace hS1 := hS1.trans hN19.mod
          have hge_g19 := New.ge hN19 hm0.size
          replace hm0 := hm0.trans (hN19.mod.mono (by simp))
          have hne_g2_g19 := hb2.ne_ hN19
          replace hb2 := Blk.gr hb2 hN19.mod
          have hb19 := hN19.blk
          clear hN19
          refine L.nil (hX _ _ ⟨.inr hS1, ?_⟩)
          refine D.many (rs := [0, 9]) (by decide +kernel) rfl ?_
          intro i_ hi_
          simp only [List.mem_cons, List.not_mem_nil, or_false] at hi_
          rcases hi_ with rfl | rfl
          ·
            refine ⟨_, rfl, fun hX => ?_⟩
            refine L.buildEmpty tyS22 rfl ?_
            intro g15 w39 hN15
            have hgs_g15 := New.ge hN15 hS1.size
            replace hS1 := hS1.trans hN15.mod
            have hge_g15 := New.ge hN15 hm0.size
            replace hm0 := hm0.trans (hN15.mod.mono (by simp))
            have hne_g2_g15 := hb2.ne_ hN15
            replace hb2 := Blk.gr hb2 hN15.mod
            have hne_g19_g15 := hb19.ne_ hN15
            replace hb19 := Blk.gr hb19 hN15.mod
            have hb15 := hN15.blk
            clear hN15
            refine L.nil (hX _ _ ⟨.inr hS1, ?_⟩)
            refine D.many (rs := [3, 9]) (by decide +kernel) rfl ?_
            intro i_ hi_
            simp only [List.mem_cons, List.not_mem_nil, or_false] at hi_
            rcases hi_ with rfl | rfl
            ·
              refine ⟨_, rfl, fun hX => ?_⟩
              have hown15 : World.ownsRow w39 w.heap.size 9 1 (.slice (some ⟨g15, 0, none⟩) 0 0) 0 [] := ⟨rfl, .inr ⟨g15, 0, #[], rfl, hge_g15, hb15, Nat.le_refl _, by decide, rfl, rfl⟩⟩
              have hno_hown15_g2 : (Value.slice (some ⟨g15, 0, none⟩) 0 0).ownBlock ≠ some g2 := fun h => by first | exact hne_g15_g2 (own_eq h) | exact hne_g2_g15 (own_eq h).symm
              have hno_hown15_g19 : (Value.slice (some ⟨g15, 0, none⟩) 0 0).ownBlock ≠ some g19 := fun h => by first | exact hne_g15_g19 (own_eq h) | exact hne_g19_g15 (own_eq h).symm
              clear hb15
              refine L.append rfl rfl hown15 (hp.gr hm0) Strs.one tyS22 tyZ9 (by omega) (by unfold maxLen; omega) hm0.size rfl ?_
              intro v18 w40 ho18' hG18
              replace hm0 := hm0.grew hG18 (fun g hg => (own_ge hown15 g hg).1)
              have hno_ho18_g2 := hG18.ne hno_hown15_g2 hb2
              replace hb2 := Blk.grew hb2 hG18 hno_hown15_g2
              have hno_ho18_g19 := hG18.ne hno_hown15_g19 hb19
              replace hb19 := Blk.grew hb19 hG18 hno_hown15_g19
              clear hown15
              have ho18 := ho18'; clear ho18'
              obtain ⟨A18, c18, rfl⟩ := own_form ho18
              replace hS1 := hS1.grew hG18 (fun b hb => own_eq hb ▸ hgs_g15)
              refine L.nil (hX _ _ ⟨.inr hS1, ?_⟩)
              refine D.many (rs := [7, 9]) (by decide +kernel) rfl ?_
              intro i_ hi_
              simp only [List.mem_cons, List.not_mem_nil, or_false] at hi_
              rcases hi_ with rfl | rfl
              ·
                refine ⟨_, rfl, fun hX => ?_⟩
                have hown19 : World.ownsRow w40 w.heap.size 9 1 (.slice (some ⟨g19, 0, none⟩) 0 0) 0 [] := ⟨rfl, .inr ⟨g19, 0, #[], rfl, hge_g19, hb19, Nat.le_refl _, by decide, rfl, rfl⟩⟩
                have hno_hown19_g2 : (Value.slice (some ⟨g19, 0, none⟩) 0 0).ownBlock ≠ some g2 := fun h => by first | exact hne_g19_g2 (own_eq h) | exact hne_g2_g19 (own_eq h).symm
                clear hb19
                refine L.append rfl rfl hown19 (hf.gr hm0) Strs.one tyS22 tyZ9 (by omega) (by unfold maxLen; omega) hm0.size rfl ?_
                intro v22 w41 ho22' hG22
                replace hm0 := hm0.grew hG22 (fun g hg => (own_ge hown19 g hg).1)
                have hno_ho22_g2 := hG22.ne hno_hown19_g2 hb2
                replace hb2 := Blk.grew hb2 hG22 hno_hown19_g2
                replace ho18 := own_gr ho18 hG22.mod (own_single hno_ho18_g19)
                clear hown19
                have ho22 := ho22'; clear ho22'
                obtain ⟨A22, c22, rfl⟩ := own_form ho22
                replace hS1 := hS1.grew hG22 (fun b hb => own_eq hb ▸ hgs_g19)
                refine L.nil (hX _ _ ⟨.inr hS1, ?_⟩)
                refine D.take 8 rfl (by decide +kernel) (fun w_ hS => (R1.build rfl (built_H2 _ _ _ _ _ _))) hS1 rfl ?_
                refine D.one 9 rfl (by decide +kernel) (fun hX => ?_)
                refine L.alloc tyZ24 rfl ?_
                intro g5 w42 hN5
                replace hS1 := hS1.trans hN5.mod
                have hge_g5 := New.ge hN5 hm0.size
                replace hm0 := hm0.trans (hN5.mod.mono (by simp))
                have hne_g2_g5 := hb2.ne_ hN5
                replace hb2 := Blk.gr hb2 hN5.mod
                have hno_ho18_g5 := own_ne_new ho18 hN5
                replace ho18 := own_gr ho18 hN5.mod (by simp)
                have hno_ho22_g5 := own_ne_new ho22 hN5
                replace ho22 := own_gr ho22 hN5.mod (by simp)
                have hb5 := hN5.blk
                clear hN5
                refine L.nil (hX _ _ ⟨.inr hS1, ?_⟩)
                refine D.one 10 rfl (by decide +kernel) (fun hX => ?_)
                refine L.storeBox rfl rfl hb5 rfl rfl tyG24 ?_
                intro w43 hb5' hm43
                replace hm0 := hm0.old1 hm43 hge_g5
                replace hb2 := Blk.far hb2 hm43 (by first | exact hne_g2_g5 | exact (hne_g5_g2).symm)
                replace ho18 := own_far ho18 hm43 hno_ho18_g5
                replace ho22 := own_far ho22 hm43 hno_ho22_g5
                clear hm43
                replace hb5 := hb5'; clear hb5'
                refine L.nil (hX _ _ ⟨.inl rfl, ?_⟩)
                refine D.done (by decide +kernel) ?_ _
                refine X.join (g5, .slice A18 (0 + ps.length) c18, .slice A22 (0 + fs.length) c22) ?_ ?_
                · exact ⟨rfl, rfl, rfl, trivial⟩
                ·
                  exact ⟨hb2, hb5, by simpa using ho18, by simpa using ho22, hno_ho18_g2, hno_ho18_g5, hno_ho22_g2, hno_ho22_g5, by first | exact hne_g2_g5 | exact (hne_g5_g2).symm, hge_g5, hm0⟩
              ·
                refine ⟨_, rfl, fun hX => ?_⟩
                refine L.alloc tyZ24 rfl ?_
                intro g5 w44 hN5
                replace hS1 := hS1.trans hN5.mod
                have hge_g5 := New.ge hN5 hm0.size
                replace hm0 := hm0.trans (hN5.mod.mono (by simp))
                have hne_g2_g5 := hb2.ne_ hN5
                replace hb2 := Blk.gr hb2 hN5.mod
                have hne_g19_g5 := hb19.ne_ hN5
                replace hb19 := Blk.gr hb19 hN5.mod
                have hno_ho18_g5 := own_ne_new ho18 hN5
                replace ho18 := own_gr ho18 hN5.mod (by simp)
                have hb5 := hN5.blk
                clear hN5
                refine L.nil (hX _ _ ⟨.inr hS1, ?_⟩)
                refine D.one 7 rfl (by decide +kernel) (fun hX => ?_)
                have hown19 : World.ownsRow w44 w.heap.size 9 1 (.slice (some ⟨g19, 0, none⟩) 0 0) 0 [] := ⟨rfl, .inr ⟨g19, 0, #[], rfl, hge_g19, hb19, Nat.le_refl _, by decide, rfl, rfl⟩⟩
                have hno_hown19_g2 : (Value.slice (some ⟨g19, 0, none⟩) 0 0).ownBlock ≠ some g2 := fun h => by first | exact hne_g19_g2 (own_eq h) | exact hne_g2_g19 (own_eq h).symm
                have hno_hown19_g5 : (Value.slice (some ⟨g19, 0, none⟩) 0 0).ownBlock ≠ some g5 := fun h => by first | exact hne_g19_g5 (own_eq h) | exact hne_g5_g19 (own_eq h).symm
                clear hb19
                refine L.append rfl rfl hown19 (hf.gr hm0) Strs.one tyS22 tyZ9 (by omega) (by unfold maxLen; omega) hm0.size rfl ?_
                intro v22 w45 ho22' hG22
                replace hm0 := hm0.grew hG22 (fun g hg => (own_ge hown19 g hg).1)
                have hno_ho22_g2 := hG22.ne hno_hown19_g2 hb2
                replace hb2 := Blk.grew hb2 hG22 hno_hown19_g2
                replace ho18 := own_gr ho18 hG22.mod (own_single hno_ho18_g19)
                have hno_ho22_g5 := hG22.ne hno_hown19_g5 hb5
                replace hb5 := Blk.grew hb5 hG22 hno_hown19_g5
                clear hown19
                have ho22 := ho22'; clear ho22'
                obtain ⟨A22, c22, rfl⟩ := own_form ho22
                replace hS1 := hS1.grew hG22 (fun b hb => own_eq hb ▸ hgs_g19)
                refine L.nil (hX _ _ ⟨.inr hS1, ?_⟩)
                refine D.take 8 rfl (by decide +kernel) (fun w_ hS => (R1.build rfl (built_H2 _ _ _ _ _ _))) hS1 rfl ?_
                refine D.one 10 rfl (by decide +kernel) (fun hX => ?_)
                refine L.storeBox rfl rfl hb5 rfl rfl tyG24 ?_
                intro w46 hb5' hm46
                replace hm0 := hm0.old1 hm46 hge_g5
                replace hb2 := Blk.far hb2 hm46 (by first | exact hne_g2_g5 | exact (hne_g5_g2).symm)
                replace ho18 := own_far ho18 hm46 hno_ho18_g5
                replace ho22 := own_far ho22 hm46 hno_ho22_g5
                clear hm46
                replace hb5 := hb5'; clear hb5'
                refine L.nil (hX _ _ ⟨.inl rfl, ?_⟩)
                refine D.done (by decide +kernel) ?_ _
                refine X.join (g5, .slice A18 (0 + ps.length) c18, .slice A22 (0 + fs.length) c22) ?_ ?_
                · exact ⟨rfl, rfl, rfl, trivial⟩
                ·
                  exact ⟨hb2, hb5, by simpa using ho18, by simpa using ho22, hno_ho18_g2, hno_ho18_g5, hno_ho22_g2, hno_ho22_g5, by first | exact hne_g2_g5 | exact (hne_g5_g2).symm, hge_g5, hm0⟩
            ·
              refine ⟨_, rfl, fun hX => ?_⟩
              refine L.alloc tyZ24 rfl ?_
              intro g5 w47 hN5
              replace hS1 := hS1.trans hN5.mod
              have hge_g5 := New.ge hN5 hm0.size
              replace hm0 := hm0.trans (hN5.mod.mono (by simp))
              have hne_g2_g5 := hb2.ne_ hN5
              replace hb2 := Blk.gr hb2 hN5.mod
              have hne_g19_g5 := hb19.ne_ hN5
              replace hb19 := Blk.gr hb19 hN5.mod
              have hne_g15_g5 := hb15.ne_ hN5
              replace hb15 := Blk.gr hb15 hN5.mod
              have hb5 := hN5.blk
              clear hN5
              refine L.nil (hX _ _ ⟨.inr hS1, ?_⟩)
              refine D.one 3 rfl (by decide +kernel) (fun hX => ?_)
              have hown15 : World.ownsRow w47 w.heap.size 9 1 (.slice (some ⟨g15, 0, none⟩) 0 0) 0 [] := ⟨rfl, .inr ⟨g15, 0, #[], rfl, hge_g15, hb15, Nat.le_refl _, by decide, rfl, rfl⟩⟩
              have hno_hown15_g2 : (Value.slice (some ⟨g15, 0, none⟩) 0 0).ownBlock ≠ some g2 := fun h => by first | exact hne_g15_g2 (own_eq h) | exact hne_g2_g15 (own_eq h).symm
              have hno_hown15_g19 : (Value.slice (some ⟨g15, 0, none⟩) 0 0).ownBlock ≠ some g19 := fun h => by first | exact hne_g15_g19 (own_eq h) | exact hne_g19_g15 (own_eq h).symm
              have hno_hown15_g5 : (Value.slice (some ⟨g15, 0, none⟩) 0 0).ownBlock ≠ some g5 := fun h => by first | exact hne_g15_g5 (own_eq h) | exact hne_g5_g15 (own_eq h).symm
              clear hb15
              refine L.append rfl rfl hown15 (hp.gr hm0) Strs.one tyS22 tyZ9 (by omega) (by unfold maxLen; omega) hm0.size rfl ?_
              intro v18 w48 ho18' hG18
              replace hm0 := hm0.grew hG18 (fun g hg => (own_ge hown15 g hg).1)
              have hno_ho18_g2 := hG18.ne hno_hown15_g2 hb2
              replace hb2 := Blk.grew hb2 hG18 hno_hown15_g2
              have hno_ho18_g19 := hG18.ne hno_hown15_g19 hb19
              replace hb19 := Blk.grew hb19 hG18 hno_hown15_g19
              have hno_ho18_g5 := hG18.ne hno_hown15_g5 hb5
              replace hb5 := Blk.grew hb5 hG18 hno_hown15_g5
              clear hown15
              have ho18 := ho18'; clear ho18'
              obtain ⟨A18, c18, rfl⟩ := own_form ho18
              replace hS1 := hS1.grew hG18 (fun b hb => own_eq hb ▸ hgs_g15)
              refine L.nil (hX _ _ ⟨.inr hS1, ?_⟩)
              refine D.one 7 rfl (by decide +kernel) (fun hX => ?_)
              have hown19 : World.ownsRow w48 w.heap.size 9 1 (.slice (some ⟨g19, 0, none⟩) 0 0) 0 [] := ⟨rfl, .inr ⟨g19, 0, #[], rfl, hge_g19, hb19, Nat.le_refl _, by decide, rfl, rfl⟩⟩
              have hno_hown19_g2 : (Value.slice (some ⟨g19, 0, none⟩) 0 0).ownBlock ≠ some g2 := fun h => by first | exact hne_g19_g2 (own_eq h) | exact hne_g2_g19 (own_eq h).symm
              have hno_hown19_g5 : (Value.slice (some ⟨g19, 0, none⟩) 0 0).ownBlock ≠ some g5 := fun h => by first | exact hne_g19_g5 (own_eq h) | exact hne_g5_g19 (own_eq h).symm
              clear hb19
              refine L.append rfl rfl hown19 (hf.gr hm0) Strs.one tyS22 tyZ9 (by omega) (by unfold maxLen; omega) hm0.size rfl ?_
              intro v22 w49 ho22' hG22
              replace hm0 := hm0.grew hG22 (fun g hg => (own_ge hown19 g hg).1)
              have hno_ho22_g2 := hG22.ne hno_hown19_g2 hb2
              replace hb2 := Blk.grew hb2 hG22 hno_hown19_g2
              have hno_ho22_g5 := hG22.ne hno_hown19_g5 hb5
              replace hb5 := Blk.grew hb5 hG22 hno_hown19_g5
              replace ho18 := own_gr ho18 hG22.mod (own_single hno_ho18_g19)
              clear hown19
              have ho22 := ho22'; clear ho22'
              obtain ⟨A22, c22, rfl⟩ := own_form ho22
              replace hS1 := hS1.grew hG22 (fun b hb => own_eq hb ▸ hgs_g19)
              refine L.nil (hX _ _ ⟨.inr hS1, ?_⟩)
              refine D.take 8 rfl (by decide +kernel) (fun w_ hS => (R1.build rfl (built_H2 _ _ _ _ _ _))) hS1 rfl ?_
              refine D.one 10 rfl (by decide +kernel) (fun hX => ?_)
              refine L.storeBox rfl rfl hb5 rfl rfl tyG24 ?_
              intro w50 hb5' hm50
              replace hm0 := hm0.old1 hm50 hge_g5
              replace hb2 := Blk.far hb2 hm50 (by first | exact hne_g2_g5 | exact (hne_g5_g2).symm)
              replace ho18 := own_far ho18 hm50 hno_ho18_g5
              replace ho22 := own_far ho22 hm50 hno_ho22_g5
              clear hm50
              replace hb5 := hb5'; clear hb5'
              refine L.nil (hX _ _ ⟨.inl rfl, ?_⟩)
              refine D.done (by decide +kernel) ?_ _
              refine X.join (g5, .slice A18 (0 + ps.length) c18, .slice A22 (0 + fs.length) c22) ?_ ?_
              · exact ⟨rfl, rfl, rfl, trivial⟩
              ·
                exact ⟨hb2, hb5, by simpa using ho18, by simpa using ho22, hno_ho18_g2, hno_ho18_g5, hno_ho22_g2, hno_ho22_g5, by first | exact hne_g2_g5 | exact (hne_g5_g2).symm, hge_g5, hm0⟩
          ·
            refine ⟨_, rfl, fun hX => ?_⟩
            refine L.alloc tyZ24 rfl ?_
            intro g5 w51 hN5
            replace hS1 := hS1.trans hN5.mod
            have hge_g5 := New.ge hN5 hm0.size
            replace hm0 := hm0.trans (hN5.mod.mono (by simp))
            have hne_g2_g5 := hb2.ne_ hN5
            replace hb2 := Blk.gr hb2 hN5.mod
            have hne_g19_g5 := hb19.ne_ hN5
            replace hb19 := Blk.gr hb19 hN5.mod
            have hb5 := hN5.blk
            clear hN5
            refine L.nil (hX _ _ ⟨.inr hS1, ?_⟩)
            refine D.one 0 rfl (by decide +kernel) (fun hX => ?_)
            refine L.buildEmpty tyS22 rfl ?_
            intro g15 w52 hN15
            have hgs_g15 := New.ge hN15 hS1.size
            replace hS1 := hS1.trans hN15.mod
            have hge_g15 := New.ge hN15 hm0.size
            replace hm0 := hm0.trans (hN15.mod.mono (by simp))
            have hne_g2_g15 := hb2.ne_ hN15
            replace hb2 := Blk.gr hb2 hN15.mod
            have hne_g19_g15 := hb19.ne_ hN15
            replace hb19 := Blk.gr hb19 hN15.mod
            have hne_g5_g15 := hb5.ne_ hN15
            replace hb5 := Blk.gr hb5 hN15.mod
            have hb15 := hN15.blk
            clear hN15
            refine L.nil (hX _ _ ⟨.inr hS1, ?_⟩)
            refine D.one 3 rfl (by decide +kernel) (fun hX => ?_)
            have hown15 : World.ownsRow w52 w.heap.size 9 1 (.slice (some ⟨g15, 0, none⟩) 0 0) 0 [] := ⟨rfl, .inr ⟨g15, 0, #[], rfl, hge_g15, hb15, Nat.le_refl _, by decide, rfl, rfl⟩⟩
            have hno_hown15_g2 : (Value.slice (some ⟨g15, 0, none⟩) 0 0).ownBlock ≠ some g2 := fun h => by first | exact hne_g15_g2 (own_eq h) | exact hne_g2_g15 (own_eq h).symm
            have hno_hown15_g19 : (Value.slice (some ⟨g15, 0, none⟩) 0 0).ownBlock ≠ some g19 := fun h => by first | exact hne_g15_g19 (own_eq h) | exact hne_g19_g15 (own_eq h).symm
            have hno_hown15_g5 : (Value.slice (some ⟨g15, 0, none⟩) 0 0).ownBlock ≠ some g5 := fun h => by first | exact hne_g15_g5 (own_eq h) | exact hne_g5_g15 (own_eq h).symm
            clear hb15
            refine L.append rfl rfl hown15 (hp.gr hm0) Strs.one tyS22 tyZ9 (by omega) (by unfold maxLen; omega) hm0.size rfl ?_
            intro v18 w53 ho18' hG18
            replace hm0 := hm0.grew hG18 (fun g hg => (own_ge hown15 g hg).1)
            have hno_ho18_g2 := hG18.ne hno_hown15_g2 hb2
            replace hb2 := Blk.grew hb2 hG18 hno_hown15_g2
            have hno_ho18_g19 := hG18.ne hno_hown15_g19 hb19
            replace hb19 := Blk.grew hb19 hG18 hno_hown15_g19
            have hno_ho18_g5 := hG18.ne hno_hown15_g5 hb5
            replace hb5 := Blk.grew hb5 hG18 hno_hown15_g5
            clear hown15
            have ho18 := ho18'; clear ho18'
            obtain ⟨A18, c18, rfl⟩ := own_form ho18
            replace hS1 := hS1.grew hG18 (fun b hb => own_eq hb ▸ hgs_g15)
            refine L.nil (hX _ _ ⟨.inr hS1, ?_⟩)
            refine D.one 7 rfl (by decide +kernel) (fun hX => ?_)
            have hown19 : World.ownsRow w53 w.heap.size 9 1 (.slice (some ⟨g19, 0, none⟩) 0 0) 0 [] := ⟨rfl, .inr ⟨g19, 0, #[], rfl, hge_g19, hb19, Nat.le_refl _, by decide, rfl, rfl⟩⟩
            have hno_hown19_g2 : (Value.slice (some ⟨g19, 0, none⟩) 0 0).ownBlock ≠ some g2 := fun h => by first | exact hne_g19_g2 (own_eq h) | exact hne_g2_g19 (own_eq h).symm
            have hno_hown19_g5 : (Value.slice (some ⟨g19, 0, none⟩) 0 0).ownBlock ≠ some g5 := fun h => by first | exact hne_g19_g5 (own_eq h) | exact hne_g5_g19 (own_eq h).symm
            clear hb19
            refine L.append rfl rfl hown19 (hf.gr hm0) Strs.one tyS22 tyZ9 (by omega) (by unfold maxLen; omega) hm0.size rfl ?_
            intro v22 w54 ho22' hG22
            replace hm0 := hm0.grew hG22 (fun g hg => (own_ge hown19 g hg).1)
            have hno_ho22_g2 := hG22.ne hno_hown19_g2 hb2
            replace hb2 := Blk.grew hb2 hG22 hno_hown19_g2
            have hno_ho22_g5 := hG22.ne hno_hown19_g5 hb5
            replace hb5 := Blk.grew hb5 hG22 hno_hown19_g5
            replace ho18 := own_gr ho18 hG22.mod (own_single hno_ho18_g19)
            clear hown19
            have ho22 := ho22'; clear ho22'
            obtain ⟨A22, c22, rfl⟩ := own_form ho22
            replace hS1 := hS1.grew hG22 (fun b hb => own_eq hb ▸ hgs_g19)
            refine L.nil (hX _ _ ⟨.inr hS1, ?_⟩)
            refine D.take 8 rfl (by decide +kernel) (fun w_ hS => (R1.build rfl (built_H2 _ _ _ _ _ _))) hS1 rfl ?_
            refine D.one 10 rfl (by decide +kernel) (fun hX => ?_)
            refine L.storeBox rfl rfl hb5 rfl rfl tyG24 ?_
            intro w55 hb5' hm55
            replace hm0 := hm0.old1 hm55 hge_g5
            replace hb2 := Blk.far hb2 hm55 (by first | exact hne_g2_g5 | exact (hne_g5_g2).symm)
            replace ho18 := own_far ho18 hm55 hno_ho18_g5
            replace ho22 := own_far ho22 hm55 hno_ho22_g5
            clear hm55
            replace hb5 := hb5'; clear hb5'
            refine L.nil (hX _ _ ⟨.inl rfl, ?_⟩)
            refine D.done (by decide +kernel) ?_ _
            refine X.join (g5, .slice A18 (0 + ps.length) c18, .slice A22 (0 + fs.length) c22) ?_ ?_
            · exact ⟨rfl, rfl, rfl, trivial⟩
            ·
              exact ⟨hb2, hb5, by simpa using ho18, by simpa using ho22, hno_ho18_g2, hno_ho18_g5, hno_ho22_g2, hno_ho22_g5, by first | exact hne_g2_g5 | exact (hne_g5_g2).symm, hge_g5, hm0⟩
        ·
          refine ⟨_, rfl, fun hX => ?_⟩
          refine L.alloc tyZ24 rfl ?_
          intro g5 w56 hN5
          replace hS1 := hS1.trans hN5.mod
          have hge_g5 := New.ge hN5 hm0.size
          replace hm0 := hm0.trans (hN5.mod.mono (by simp))
          have hne_g2_g5 := hb2.ne_ hN5
          replace hb2 := Blk.gr hb2 hN5.mod
          have hb5 := hN5.blk
          clear hN5
          refine L.nil (hX _ _ ⟨.inr hS1, ?_⟩)
          refine D.many (rs := [0, 4]) (by decide +kernel) rfl ?_
          intro i_ hi_
          simp only [List.mem_cons, List.not_mem_nil, or_false] at hi_
          rcases hi_ with rfl | rfl
          ·
            refine ⟨_, rfl, fun hX => ?_⟩
            refine L.buildEmpty tyS22 rfl ?_
            intro g15 w57 hN15
            have hgs_g15 := New.ge hN15 hS1.size
            replace hS1 := hS1.trans hN15.mod
            have hge_g15 := New.ge hN15 hm0.size
            replace hm0 := hm0.trans (hN15.mod.mono (by simp))
            have hne_g2_g15 := hb2.ne_ hN15
            replace hb2 := Blk.gr hb2 hN15.mod
            have hne_g5_g15 := hb5.ne_ hN15
            replace hb5 := Blk.gr hb5 hN15.mod
            have hb15 := hN15.blk
            clear hN15
            refine L.nil (hX _ _ ⟨.inr hS1, ?_⟩)
            refine D.many (rs := [3, 4]) (by decide +kernel) rfl ?_
            intro i_ hi_
            simp only [List.mem_cons, List.not_mem_nil, or_false] at hi_
            rcases hi_ with rfl | rfl
            ·
              refine ⟨_, rfl, fun hX => ?_⟩
              have hown15 : World.ownsRow w57 w.heap.size 9 1 (.slice (some ⟨g15, 0, none⟩) 0 0) 0 [] := ⟨rfl, .inr ⟨g15, 0, #[], rfl, hge_g15, hb15, Nat.le_refl _, by decide, rfl, rfl⟩⟩
              have hno_hown15_g2 : (Value.slice (some ⟨g15, 0, none⟩) 0 0).ownBlock ≠ some g2 := fun h => by first | exact hne_g15_g2 (own_eq h) | exact hne_g2_g15 (own_eq h).symm
              have hno_hown15_g5 : (Value.slice (some ⟨g15, 0, none⟩) 0 0).ownBlock ≠ some g5 := fun h => by first | exact hne_g15_g5 (own_eq h) | exact hne_g5_g15 (own_eq h).symm
              clear hb15
              refine L.append rfl rfl hown15 (hp.gr hm0) Strs.one tyS22 tyZ9 (by omega) (by unfold maxLen; omega) hm0.size rfl ?_
              intro v18 w58 ho18' hG18
              replace hm0 := hm0.grew hG18 (fun g hg => (own_ge hown15 g hg).1)
              have hno_ho18_g2 := hG18.ne hno_hown15_g2 hb2
              replace hb2 := Blk.grew hb2 hG18 hno_hown15_g2
              have hno_ho18_g5 := hG18.ne hno_hown15_g5 hb5
              replace hb5 := Blk.grew hb5 hG18 hno_hown15_g5
              clear hown15
              have ho18 := ho18'; clear ho18'
              obtain ⟨A18, c18, rfl⟩ := own_form ho18
              replace hS1 := hS1.grew hG18 (fun b hb => own_eq hb ▸ hgs_g15)
              refine L.nil (hX _ _ ⟨.inr hS1, ?_⟩)
              refine D.one 4 rfl (by decide +kernel) (fun hX => ?_)
              refine L.buildEmpty tyS22 rfl ?_
              intro g19 w59 hN19
              have hgs_g19 := New.ge hN19 hS1.size
              replace hS1 := hS1.trans hN19.mod
              have hge_g19 := New.ge hN19 hm0.size
              replace hm0 := hm0.trans (hN19.mod.mono (by simp))
              have hne_g2_g19 := hb2.ne_ hN19
              replace hb2 := Blk.gr hb2 hN19.mod
              have hne_g5_g19 := hb5.ne_ hN19
              replace hb5 := Blk.gr hb5 hN19.mod
              have hno_ho18_g19 := own_ne_new ho18 hN19
              replace ho18 := own_gr ho18 hN19.mod (by simp)
              have hb19 := hN19.blk
              clear hN19
              refine L.nil (hX _ _ ⟨.inr hS1, ?_⟩)
              refine D.one 7 rfl (by decide +kernel) (fun hX => ?_)
              have hown19 : World.ownsRow w59 w.heap.size 9 1 (.slice (some ⟨g19, 0, none⟩) 0 0) 0 [] := ⟨rfl, .inr ⟨g19, 0, #[], rfl, hge_g19, hb19, Nat.le_refl _, by decide, rfl, rfl⟩⟩
              have hno_hown19_g2 : (Value.slice (some ⟨g19, 0, none⟩) 0 0).ownBlock ≠ some g2 := fun h => by first | exact hne_g19_g2 (own_eq h) | exact hne_g2_g19 (own_eq h).symm
              have hno_hown19_g5 : (Value.slice (some ⟨g19, 0, none⟩) 0 0).ownBlock ≠ some g5 := fun h => by first | exact hne_g19_g5 (own_eq h) | exact hne_g5_g19 (own_eq h).symm
              clear hb19
              refine L.append rfl rfl hown19 (hf.gr hm0) Strs.one tyS22 tyZ9 (by omega) (by unfold maxLen; omega) hm0.size rfl ?_
              intro v22 w60 ho22' hG22
              replace hm0 := hm0.grew hG22 (fun g hg => (own_ge hown19 g hg).1)
              have hno_ho22_g2 := hG22.ne hno_hown19_g2 hb2
              replace hb2 := Blk.grew hb2 hG22 hno_hown19_g2
              have hno_ho22_g5 := hG22.ne hno_hown19_g5 hb5
              replace hb5 := Blk.grew hb5 hG22 hno_hown19_g5
              replace ho18 := own_gr ho18 hG22.mod (own_single hno_ho18_g19)
              clear hown19
              have ho22 := ho22'; clear ho22'
              obtain ⟨A22, c22, rfl⟩ := own_form ho22
              replace hS1 := hS1.grew hG22 (fun b hb => own_eq hb ▸ hgs_g19)
              refine L.nil (hX _ _ ⟨.inr hS1, ?_⟩)
              refine D.take 8 rfl (by decide +kernel) (fun w_ hS => (R1.build rfl (built_H2 _ _ _ _ _ _))) hS1 rfl ?_
              refine D.one 10 rfl (by decide +kernel) (fun hX => ?_)
              refine L.storeBox rfl rfl hb5 rfl rfl tyG24 ?_
              intro w61 hb5' hm61
              replace hm0 := hm0.old1 hm61 hge_g5
              replace hb2 := Blk.far hb2 hm61 (by first | exact hne_g2_g5 | exact (hne_g5_g2).symm)
              replace ho18 := own_far ho18 hm61 hno_ho18_g5
              replace ho22 := own_far ho22 hm61 hno_ho22_g5
              clear hm61
              replace hb5 := hb5'; clear hb5'
              refine L.nil (hX _ _ ⟨.inl rfl, ?_⟩)
              refine D.done (by decide +kernel) ?_ _
              refine X.join (g5, .slice A18 (0 + ps.length) c18, .slice A22 (0 + fs.length) c22) ?_ ?_
              · exact ⟨rfl, rfl, rfl, trivial⟩
              ·
                exact ⟨hb2, hb5, by simpa using ho18, by simpa using ho22, hno_ho18_g2, hno_ho18_g5, hno_ho22_g2, hno_ho22_g5, by first | exact hne_g2_g5 | exact (hne_g5_g2).symm, hge_g5, hm0⟩
            ·
              refine ⟨_, rfl, fun hX => ?_⟩
              refine L.buildEmpty tyS22 rfl ?_
              intro g19 w62 hN19
              have hgs_g19 := New.ge hN19 hS1.size
              replace hS1 := hS1.trans hN19.mod
              have hge_g19 := New.ge hN19 hm0.size
              replace hm0 := hm0.trans (hN19.mod.mono (by simp))
              have hne_g2_g19 := hb2.ne_ hN19
              replace hb2 := Blk.gr hb2 hN19.mod
              have hne_g5_g19 := hb5.ne_ hN19
              replace hb5 := Blk.gr hb5 hN19.mod
              have hne_g15_g19 := hb15.ne_ hN19
              replace hb15 := Blk.gr hb15 hN19.mod
              have hb19 := hN19.blk
              clear hN19
              refine L.nil (hX _ _ ⟨.inr hS1, ?_⟩)
              refine D.one 3 rfl (by decide +kernel) (fun hX => ?_)
              have hown15 : World.ownsRow w62 w.heap.size 9 1 (.slice (some ⟨g15, 0, none⟩) 0 0) 0 [] := ⟨rfl, .inr ⟨g15, 0, #[], rfl, hge_g15, hb15, Nat.le_refl _, by decide, rfl, rfl⟩⟩
              have hno_hown15_g2 : (Value.slice (some ⟨g15, 0, none⟩) 0 0).ownBlock ≠ some g2 := fun h => by first | exact hne_g15_g2 (own_eq h) | exact hne_g2_g15 (own_eq h).symm
              have hno_hown15_g5 : (Value.slice (some ⟨g15, 0, none⟩) 0 0).ownBlock ≠ some g5 := fun h => by first | exact hne_g15_g5 (own_eq h) | exact hne_g5_g15 (own_eq h).symm
              have hno_hown15_g19 : (Value.slice (some ⟨g15, 0, none⟩) 0 0).ownBlock ≠ some g19 := fun h => by first | exact hne_g15_g19 (own_eq h) | exact hne_g19_g15 (own_eq h).symm
              clear hb15
              refine L.append rfl rfl hown15 (hp.gr hm0) Strs.one tyS22 tyZ9 (by omega) (by unfold maxLen; omega) hm0.size rfl ?_
              intro v18 w63 ho18' hG18
              replace hm0 := hm0.grew hG18 (fun g hg => (own_ge hown15 g hg).1)
              have hno_ho18_g2 := hG18.ne hno_hown15_g2 hb2
              replace hb2 := Blk.grew hb2 hG18 hno_hown15_g2
              have hno_ho18_g5 := hG18.ne hno_hown15_g5 hb5
              replace hb5 := Blk.grew hb5 hG18 hno_hown15_g5
              have hno_ho18_g19 := hG18.ne hno_hown15_g19 hb19
              replace hb19 := Blk.grew hb19 hG18 hno_hown15_g19
              clear hown15
              have ho18 := ho18'; clear ho18'
              obtain ⟨A18, c18, rfl⟩ := own_form ho18
              replace hS1 := hS1.grew hG18 (fun b hb => own_eq hb ▸ hgs_g15)
              refine L.nil (hX _ _ ⟨.inr hS1, ?_⟩)
              refine D.one 7 rfl (by decide +kernel) (fun hX => ?_)
              have hown19 : World.ownsRow w63 w.heap.size 9 1 (.slice (some ⟨g19, 0, none⟩) 0 0) 0 [] := ⟨rfl, .inr ⟨g19, 0, #[], rfl, hge_g19, hb19, Nat.le_refl _, by decide, rfl, rfl⟩⟩
              have hno_hown19_g2 : (Value.slice (some ⟨g19, 0, none⟩) 0 0).ownBlock ≠ some g2 := fun h => by first | exact hne_g19_g2 (own_eq h) | exact hne_g2_g19 (own_eq h).symm
              have hno_hown19_g5 : (Value.slice (some ⟨g19, 0, none⟩) 0 0).ownBlock ≠ some g5 := fun h => by first | exact hne_g19_g5 (own_eq h) | exact hne_g5_g19 (own_eq h).symm
              clear hb19
              refine L.append rfl rfl hown19 (hf.gr hm0) Strs.one tyS22 tyZ9 (by omega) (by unfold maxLen; omega) hm0.size rfl ?_
              intro v22 w64 ho22' hG22
              replace hm0 := hm0.grew hG22 (fun g hg => (own_ge hown19 g hg).1)
              have hno_ho22_g2 := hG22.ne hno_hown19_g2 hb2
              replace hb2 := Blk.grew hb2 hG22 hno_hown19_g2
              have hno_ho22_g5 := hG22.ne hno_hown19_g5 hb5
              replace hb5 := Blk.grew hb5 hG22 hno_hown19_g5
              replace ho18 := own_gr ho18 hG22.mod (own_single hno_ho18_g19)
              clear hown19
              have ho22 := ho22'; clear ho22'
              obtain ⟨A22, c22, rfl⟩ := own_form ho22
              replace hS1 := hS1.grew hG22 (fun b hb => own_eq hb ▸ hgs_g19)
              refine L.nil (hX _ _ ⟨.inr hS1, ?_⟩)
              refine D.take 8 rfl (by decide +kernel) (fun w_ hS => (R1.build rfl (built_H2 _ _ _ _ _ _))) hS1 rfl ?_
              refine D.one 10 rfl (by decide +kernel) (fun hX => ?_)
              refine L.storeBox rfl rfl hb5 rfl rfl tyG24 ?_
              intro w65 hb5' hm65
              replace hm0 := hm0.old1 hm65 hge_g5
              replace hb2 := Blk.far hb2 hm65 (by first | exact hne_g2_g5 | exact (hne_g5_g2).symm)
              replace ho18 := own_far ho18 hm65 hno_ho18_g5
              replace ho22 := own_far ho22 hm65 hno_ho22_g5
              clear hm65
              replace hb5 := hb5'; clear hb5'
              refine L.nil (hX _ _ ⟨.inl rfl, ?_⟩)
              refine D.done (by decide +kernel) ?_ _
              refine X.join (g5, .slice A18 (0 + ps.length) c18, .slice A22 (0 + fs.length) c22) ?_ ?_
              · exact ⟨rfl, rfl, rfl, trivial⟩
              ·
                exact ⟨hb2, hb5, by simpa using ho18, by simpa using ho22, hno_ho18_g2, hno_ho18_g5, hno_ho22_g2, hno_ho22_g5, by first | exact hne_g2_g5 | exact (hne_g5_g2).symm, hge_g5, hm0⟩
          ·
            refine ⟨_, rfl, fun hX => ?_⟩
            refine L.buildEmpty tyS22 rfl ?_
            intro g19 w66 hN19
            have hgs_g19 := New.ge hN19 hS1.size
            replace hS1 := hS1.trans hN19.mod
            have hge_g19 := New.ge hN19 hm0.size
            replace hm0 := hm0.trans (hN19.mod.mono (by simp))
            have hne_g2_g19 := hb2.ne_ hN19
            replace hb2 := Blk.gr hb2 hN19.mod
            have hne_g5_g19 := hb5.ne_ hN19
            replace hb5 := Blk.gr hb5 hN19.mod
            have hb19 := hN19.blk
            clear hN19
            refine L.nil (hX _ _ ⟨.inr hS1, ?_⟩)
            refine D.one 0 rfl (by decide +kernel) (fun hX => ?_)
            refine L.buildEmpty tyS22 rfl ?_
            intro g15 w67 hN15
            have hgs_g15 := New.ge hN15 hS1.size
            replace hS1 := hS1.trans hN15.mod
            have hge_g15 := New.ge hN15 hm0.size
            replace hm0 := hm0.trans (hN15.mod.mono (by simp))
            have hne_g2_g15 := hb2.ne_ hN15
            replace hb2 := Blk.gr hb2 hN15.mod
            have hne_g5_g15 := hb5.ne_ hN15
            replace hb5 := Blk.gr hb5 hN15.mod
            have hne_g19_g15 := hb19.ne_ hN15
            replace hb19 := Blk.gr hb19 hN15.mod
            have hb15 := hN15.blk
            clear hN15
            refine L.nil (hX _ _ ⟨.inr hS1, ?_⟩)
            refine D.one 3 rfl (by decide +kernel) (fun hX => ?_)
            have hown15 : World.ownsRow w67 w.heap.size 9 1 (.slice (some ⟨g15, 0, none⟩) 0 0) 0 [] := ⟨rfl, .inr ⟨g15, 0, #[], rfl, hge_g15, hb15, Nat.le_refl _, by decide, rfl, rfl⟩⟩
            have hno_hown15_g2 : (Value.slice (some ⟨g15, 0, none⟩) 0 0).ownBlock ≠ some g2 := fun h => by first | exact hne_g15_g2 (own_eq h) | exact hne_g2_g15 (own_eq h).symm
            have hno_hown15_g5 : (Value.slice (some ⟨g15, 0, none⟩) 0 0).ownBlock ≠ some g5 := fun h => by first | exact hne_g15_g5 (own_eq h) | exact hne_g5_g15 (own_eq h).symm
            have hno_hown15_g19 : (Value.slice (some ⟨g15, 0, none⟩) 0 0).ownBlock ≠ some g19 := fun h => by first | exact hne_g15_g19 (own_eq h) | exact hne_g19_g15 (own_eq h).symm
            clear hb15
            refine L.append rfl rfl hown15 (hp.gr hm0) Strs.one tyS22 tyZ9 (by omega) (by unfold maxLen; omega) hm0.size rfl ?_
            intro v18 w68 ho18' hG18
            replace hm0 := hm0.grew hG18 (fun g hg => (own_ge hown15 g hg).1)
            have hno_ho18_g2 := hG18.ne hno_hown15_g2 hb2
            replace hb2 := Blk.grew hb2 hG18 hno_hown15_g2
            have hno_ho18_g5 := hG18.ne hno_hown15_g5 hb5
            replace hb5 := Blk.grew hb5 hG18 hno_hown15_g5
            have hno_ho18_g19 := hG18.ne hno_hown15_g19 hb19
            replace hb19 := Blk.grew hb19 hG18 hno_hown15_g19
            clear hown15
            have ho18 := ho18'; clear ho18'
            obtain ⟨A18, c18, rfl⟩ := own_form ho18
            replace hS1 := hS1.grew hG18 (fun b hb => own_eq hb ▸ hgs_g15)
            refine L.nil (hX _ _ ⟨.inr hS1, ?_⟩)
            refine D.one 7 rfl (by decide +kernel) (fun hX => ?_)
            have hown19 : World.ownsRow w68 w.heap.size 9 1 (.slice (some ⟨g19, 0, none⟩) 0 0) 0 [] := ⟨rfl, .inr ⟨g19, 0, #[], rfl, hge_g19, hb19, Nat.le_refl _, by decide, rfl, rfl⟩⟩
            have hno_hown19_g2 : (Value.slice (some ⟨g19, 0, none⟩) 0 0).ownBlock ≠ some g2 := fun h => by first | exact hne_g19_g2 (own_eq h) | exact hne_g2_g19 (own_eq h).symm
            have hno_hown19_g5 : (Value.slice (some ⟨g19, 0, none⟩) 0 0).ownBlock ≠ some g5 := fun h => by first | exact hne_g19_g5 (own_eq h) | exact hne_g5_g19 (own_eq h).symm
            clear hb19
            refine L.append rfl rfl hown19 (hf.gr hm0) Strs.one tyS22 tyZ9 (by omega) (by unfold maxLen; omega) hm0.size rfl ?_
            intro v22 w69 ho22' hG22
            replace hm0 := hm0.grew hG22 (fun g hg => (own_ge hown19 g hg).1)
            have hno_ho22_g2 := hG22.ne hno_hown19_g2 hb2
            replace hb2 := Blk.grew hb2 hG22 hno_hown19_g2
            have hno_ho22_g5 := hG22.ne hno_hown19_g5 hb5
            replace hb5 := Blk.grew hb5 hG22 hno_hown19_g5
            replace ho18 := own_gr ho18 hG22.mod (own_single hno_ho18_g19)
            clear hown19
            have ho22 := ho22'; clear ho22'
            obtain ⟨A22, c22, rfl⟩ := own_form ho22
            replace hS1 := hS1.grew hG22 (fun b hb => own_eq hb ▸ hgs_g19)
            refine L.nil (hX _ _ ⟨.inr hS1, ?_⟩)
            refine D.take 8 rfl (by decide +kernel) (fun w_ hS => (R1.build rfl (built_H2 _ _ _ _ _ _))) hS1 rfl ?_
            refine D.one 10 rfl (by decide +kernel) (fun hX => ?_)
            refine L.storeBox rfl rfl hb5 rfl rfl tyG24 ?_
            intro w70 hb5' hm70
            replace hm0 := hm0.old1 hm70 hge_g5
            replace hb2 := Blk.far hb2 hm70 (by first | exact hne_g2_g5 | exact (hne_g5_g2).symm)
            replace ho18 := own_far ho18 hm70 hno_ho18_g5
            replace ho22 := own_far ho22 hm70 hno_ho22_g5
            clear hm70
            replace hb5 := hb5'; clear hb5'
            refine L.nil (hX _ _ ⟨.inl rfl, ?_⟩)
            refine D.done (by decide +kernel) ?_ _
            refine X.join (g5, .slice A18 (0 + ps.length) c18, .slice A22 (0 + fs.length) c22) ?_ ?_
            · exact ⟨rfl, rfl, rfl, trivial⟩
            ·
              exact ⟨hb2, hb5, by simpa using ho18, by simpa using ho22, hno_ho18_g2, hno_ho18_g5, hno_ho22_g2, hno_ho22_g5, by first | exact hne_g2_g5 | exact (hne_g5_g2).symm, hge_g5, hm0⟩
      ·
        rintro ⟨g5, x, y⟩ wj ⟨hb2, hb5, hx, hy, hno_hx_g2, hno_hx_g5, hno_hy_g2, hno_hy_g5, hne_g2_g5, hge_g5, hm0⟩
        obtain ⟨Ax, cx, rfl⟩ := own_form hx
        obtain ⟨Ay, cy, rfl⟩ := own_form hy
        refine X.seq ?_
        refine W.seq ?_
        refine W.region ?_
        refine L.v (R1.loadBox rfl hb5 tyG24) rfl ?_
        refine L.v (R1.move rfl) rfl ?_
        refine L.call rfl (c_PushQ (M2 := ownL (.slice Ax ps.length cx)) rfl (Strs.of_own hx (fun b h => by simp) : Strs [] _ _ _) (own_bd hx) (by omega)) rfl ?_
        rintro _ w71 ⟨A26, c26, rfl, h26, hm71⟩
        replace hb2 := Blk.gr hb2 hm71
        replace hb5 := Blk.gr hb5 hm71
        replace hx := own_gr hx hm71 (by simp)
        replace hy := own_gr hy hm71 (by simp)
        replace hm0 := hm0.trans hm71
        clear hm71
        refine L.alloc tyZ24 rfl ?_
        intro g6 w72 hN6
        have hne_g2_g6 := hb2.ne_ hN6
        replace hb2 := Blk.gr hb2 hN6.mod
        have hne_g5_g6 := hb5.ne_ hN6
        replace hb5 := Blk.gr hb5 hN6.mod
        have hno_hx_g6 := own_ne_new hx hN6
        replace hx := own_gr hx hN6.mod (by simp)
        have hno_hy_g6 := own_ne_new hy hN6
        replace hy := own_gr hy hN6.mod (by simp)
        have hge_g6 := New.ge hN6 hm0.size
        replace hm0 := hm0.trans (hN6.mod.mono (by simp))
        replace h26 := h26.new hN6
        have hb6 := hN6.blk
        clear hN6
        refine L.storeBox rfl rfl hb6 rfl rfl tyG24 ?_
        intro w73 hb6' hm73
        replace hb2 := Blk.far hb2 hm73 (by first | exact hne_g2_g6 | exact (hne_g6_g2).symm)
        replace hb5 := Blk.far hb5 hm73 (by first | exact hne_g5_g6 | exact (hne_g6_g5).symm)
        replace hx := own_far hx hm73 hno_hx_g6
        replace hy := own_far hy hm73 hno_hy_g6
        replace hm0 := hm0.old1 hm73 hge_g6
        replace h26 := h26.mod hm73 (by simp)
        clear hm73
        replace hb6 := hb6'; clear hb6'
        refine L.nil ?_
        refine X.seq ?_
        refine W.seq ?_
        refine W.region ?_
        refine L.v (R1.loadBox rfl hb5 tyG24) rfl ?_
        refine L.v (R1.move rfl) rfl ?_
        refine L.call rfl (c_UndoAny (Strs.of_own hx (fun b h => by simp) : Strs [] _ _ _) (Strs.of_own hy (fun b h => by simp)) (fun m h => by cases h) (by omega) (by omega)) rfl ?_
        rintro _ w74 ⟨_, hm74⟩
        replace hb2 := Blk.gr hb2 hm74
        replace hb5 := Blk.gr hb5 hm74
        replace hx := own_gr hx hm74 (by simp)
        replace hy := own_gr hy hm74 (by simp)
        replace hm0 := hm0.trans hm74
        replace h26 := h26.gr hm74
        replace hb6 := Blk.gr hb6 hm74
        clear hm74
        refine L.nil ?_
        refine X.seq ?_
        refine W.seq ?_
        refine W.region ?_
        refine L.v (R1.loadBox rfl hb5 tyG24) rfl ?_
        refine L.v (R1.move rfl) rfl ?_
        refine L.call rfl (c_RedoAny (Strs.of_own hx (fun b h => by simp) : Strs [] _ _ _) (Strs.of_own hy (fun b h => by simp)) (fun m h => by cases h) (by omega) (by omega)) rfl ?_
        rintro _ w75 ⟨_, hm75⟩
        replace hb2 := Blk.gr hb2 hm75
        replace hb5 := Blk.gr hb5 hm75
        replace hx := own_gr hx hm75 (by simp)
        replace hy := own_gr hy hm75 (by simp)
        replace hm0 := hm0.trans hm75
        replace h26 := h26.gr hm75
        replace hb6 := Blk.gr hb6 hm75
        clear hm75
        refine L.nil ?_
        refine X.seq ?_
        refine W.seq ?_
        refine W.seq ?_
        refine W.region ?_
        refine L.v (R1.loadBox rfl hb5 tyG24) rfl ?_
        refine L.v (R1.loadBox rfl hb2 tyG24) rfl ?_
        refine L.call rfl (c_Same (Strs.of_own hx (fun b h => by simp) : Strs [] _ _ _) (Strs.of_own hy (fun b h => by simp)) ((hp.gr hm0).sub (by simp)) ((hf.gr hm0).sub (by simp)) (by omega) (by omega)) rfl ?_
        rintro _ w76 ⟨rfl, hm76⟩
        replace hb2 := Blk.gr hb2 hm76
        replace hb5 := Blk.gr hb5 hm76
        replace hx := own_gr hx hm76 (by simp)
        replace hy := own_gr hy hm76 (by simp)
        replace hm0 := hm0.trans hm76
        replace h26 := h26.gr hm76
        replace hb6 := Blk.gr hb6 hm76
        clear hm76
        refine L.v ((R1.not rfl).asB (c := false) rfl) rfl ?_
        refine L.nil ?_
        refine X.seq ?_
        refine W.condF rfl ?_
        refine W.skip ?_
        refine X.seq ?_
        refine W.seq ?_
        refine W.seq ?_
        refine W.region ?_
        refine L.v (R1.assign rfl) rfl ?_
        refine L.nil ?_
        refine X.seq ?_
        refine W.block ?_
        refine W.loop (ι := Nat) (fun k => [(1, .string now), (2, .pointer (some ⟨g2, 0, none⟩)), (5, .pointer (some ⟨g5, 0, none⟩)), (6, .pointer (some ⟨g6, 0, none⟩)), (7, .int .i64 (k : Int))]) (fun k w_ => k ≤ ps.length ∧ Blk w_ g2 24 #[vp, vf] ∧ Blk w_ g5 24 #[.slice Ax ps.length cx, .slice Ay fs.length cy] ∧ Blk w_ g6 24 #[.slice A26 (lastN 32 (ps ++ [now])).length c26, .slice none 0 0] ∧ (∃ xs, World.ownsRow w_ w.heap.size 9 1 (.slice Ax ps.length cx) ps.length xs) ∧ Strs (ownL (.slice Ax ps.length cx)) w_ (.slice A26 (lastN 32 (ps ++ [now])).length c26) (lastN 32 (ps ++ [now])) ∧ Mod [] w w_) (fun k => ps.length - k) 0 ?_ ?_ ?_
        · exact ⟨rfl, rfl, rfl, rfl, rfl, trivial⟩
        ·
          exact ⟨Nat.zero_le _, hb2, hb5, hb6, ⟨_, hx⟩, h26.sub (by intro b hb; simp [hb]), hm0⟩
        ·
          rintro k w77 ⟨hk, hb2, hb5, hb6, hx, h26, hm0⟩
          refine W.seq ?_
          refine W.seq ?_
          refine W.region ?_
          refine L.v (R1.move rfl) rfl ?_
          refine L.v (R1.fieldAt rfl tyF24_0) rfl ?_
          refine L.v (R1.loadFld rfl hb5 rfl tyP22) rfl ?_
          refine L.v (R1.len rfl tyS22) rfl ?_
          refine L.v (R1.lt rfl rfl) rfl ?_
          refine L.nil ?_
          refine X.seq ?_
          refine W.cond rfl ?_ ?_
          ·
            intro hc41
            try simp only [decide_eq_true_eq, decide_eq_false_iff_not, Bool.not_eq_true', Bool.not_eq_false', Int.not_lt, Int.not_le, ne_eq, Decidable.not_not] at hc41
            have hk1 : k < ps.length := by omega
            obtain ⟨xs, hx⟩ := hx
            obtain ⟨gx, cur, rfl, hge_gx, hbx, hnc, hcm, hsz⟩ := own_open hx (by omega)
            clear hx
            replace h26 : Strs [gx] w77 _ _ := h26.sub (by simp [ownL, Value.ownBlock])
            have hne_g2_gx : g2 ≠ gx := fun h => hno_hx_g2 (by rw [h]; rfl)
            have hne_g5_gx : g5 ≠ gx := fun h => hno_hx_g5 (by rw [h]; rfl)
            have hne_g6_gx : g6 ≠ gx := fun h => hno_hx_g6 (by rw [h]; rfl)
            refine W.skip ?_
            refine X.seq ?_
            refine W.seq ?_
            refine W.block ?_
            refine W.region ?_
            refine L.v (R1.fieldAt rfl tyF24_0) rfl ?_
            refine L.v (R1.loadFld rfl hb5 rfl tyP22) rfl ?_
            refine L.v (R1.move rfl) rfl ?_
            refine L.v (R1.atO (j := k) rfl rfl tyS22 rfl (by omega)) rfl ?_
            refine L.store rfl rfl hbx (by omega) rfl tyP9 ?_
            intro w78 hbx' hm78
            replace hb2 := Blk.far hb2 hm78 (by first | exact hne_g2_gx | exact (hne_gx_g2).symm)
            replace hb5 := Blk.far hb5 hm78 (by first | exact hne_g5_gx | exact (hne_gx_g5).symm)
            replace hb6 := Blk.far hb6 hm78 (by first | exact hne_g6_gx | exact (hne_gx_g6).symm)
            replace h26 := h26.mod hm78 (by simp)
            replace hm0 := hm0.old1 hm78 hge_gx
            clear hm78
            replace hbx := hbx'; clear hbx'
            refine L.nil ?_
            refine X.blockEnd ?_
            refine X.seq ?_
            refine W.region ?_
            refine L.v (R1.move rfl) rfl ?_
            refine L.v (R1.addI (b := 1) rfl rfl (by omega)) rfl ?_
            refine L.v (R1.assign rfl) rfl ?_
            refine L.nil ?_
            refine X.next (k + 1) ?_ ?_ ?_
            · exact ⟨rfl, rfl, rfl, rfl, rfl, trivial⟩
            ·
              exact ⟨by omega, hb2, hb5, hb6, own_shut hbx hge_gx hnc hcm (by first | simpa using hsz | (simp; omega)), h26.sub (by intro b hb; simpa [ownL, Value.ownBlock] using hb), hm0⟩
            · first | omega | (dsimp only; omega)
          ·
            intro hc41
            try simp only [decide_eq_true_eq, decide_eq_false_iff_not, Bool.not_eq_true', Bool.not_eq_false', Int.not_lt, Int.not_le, ne_eq, Decidable.not_not] at hc41
            refine W.exit ?_
            refine X.thenExit ?_
            refine X.nextExit ?_
            refine X.here ?_
            refine X.seq ?_
            refine W.seq ?_
            refine W.drawW (T := []) rfl (by decide +kernel) (NoHang.then NoHang.post) (fun w79 hm79 => ?_)
            replace hb2 := Blk.gr hb2 hm79
            replace hb5 := Blk.gr hb5 hm79
            replace hb6 := Blk.gr hb6 hm79
            replace h26 := h26.gr hm79
            replace hm0 := hm0.trans hm79
            have hS2 : Mod [] w79 w79 := Mod.refl _ _
            clear hm79
            refine D.take 0 rfl (by decide +kernel) (fun w_ hS => (R1.loadBox rfl (Blk.gr hb6 hS) tyG24)) hS2 rfl ?_
            refine D.take 1 rfl (by decide +kernel) (fun w_ hS => (R1.loadBox rfl (Blk.gr hb2 hS) tyG24)) hS2 rfl ?_
            refine D.take 2 rfl (by decide +kernel) (fun w_ hS => (R1.move rfl)) hS2 rfl ?_
            refine D.one 3 rfl (by decide +kernel) (fun hX => ?_)
            refine L.call rfl (c_refPush ((hp.gr hm0).sub (M' := []) (by simp)) (fun m h => by cases h) (by omega)) rfl ?_
            rintro _ w80 ⟨A51, c51, rfl, h51, hm80⟩
            replace hb2 := Blk.gr hb2 hm80
            replace hb5 := Blk.gr hb5 hm80
            replace hb6 := Blk.gr hb6 hm80
            replace h26 := h26.gr hm80
            replace hm0 := hm0.trans hm80
            replace hS2 := hS2.trans hm80
            clear hm80
            refine L.nil (hX _ _ ⟨.inr hS2, ?_⟩)
            refine D.one 4 rfl (by decide +kernel) (fun hX => ?_)
            refine L.call rfl (c_same (h26.sub (M' := []) (by simp)) Strs.nil h51 Strs.nil (by rw [lastN_len]; omega) (by simp)) rfl ?_
            rintro _ w81 ⟨rfl, hm81⟩
            replace hb2 := Blk.gr hb2 hm81
            replace hb5 := Blk.gr hb5 hm81
            replace hb6 := Blk.gr hb6 hm81
            replace h26 := h26.gr hm81
            replace hm0 := hm0.trans hm81
            replace h51 := h51.gr hm81
            replace hS2 := hS2.trans hm81
            clear hm81
            refine L.nil (hX _ _ ⟨.inr hS2, ?_⟩)
            refine D.take 5 rfl (by decide +kernel) (fun w_ hS => (R1.move rfl)) hS2 rfl ?_
            refine D.one 6 rfl (by decide +kernel) (fun hX => ?_)
            refine L.callOn rfl rfl rfl rfl (c_known) rfl ?_
            rintro _ w82 ⟨rfl, hm82⟩
            replace hb2 := Blk.gr hb2 hm82
            replace hb5 := Blk.gr hb5 hm82
            replace hb6 := Blk.gr hb6 hm82
            replace h26 := h26.gr hm82
            replace hm0 := hm0.trans hm82
            replace h51 := h51.gr hm82
            replace hS2 := hS2.trans hm82
            clear hm82
            refine L.nil (hX _ _ ⟨.inr hS2, ?_⟩)
            refine D.take 7 rfl (by decide +kernel) (fun w_ hS => (R1.pickT rfl rfl)) hS2 rfl ?_
            refine D.take 8 rfl (by decide +kernel) (fun w_ hS => (R1.assign rfl)) hS2 rfl ?_
            refine D.done (by decide +kernel) ?_ _
            refine X.seq ?_
            refine W.ret ?_
            refine X.result1 rfl (.tmp rfl .nil) ?_
            exact ⟨rfl, hm0⟩
  ·
    try simp only [decide_eq_true_eq, decide_eq_false_iff_not, Bool.not_eq_true', Bool.not_eq_false', Int.not_lt, Int.not_le, ne_eq, Decidable.not_not] at hgd10
    refine L.off rfl rfl rfl rfl rfl ?_
    refine L.off rfl rfl rfl rfl rfl ?_
    refine L.off rfl rfl rfl rfl rfl ?_
    refine L.v (R1.pickT rfl rfl) rfl ?_
    refine L.nil ?_
    refine X.seq ?_
    refine W.condT rfl ?_
    refine W.seq ?_
    refine W.region ?_
    refine L.v (R1.assign rfl) rfl ?_
    refine L.nil ?_
    refine X.seq ?_
    refine W.ret ?_
    refine X.thenRet ?_
    refine X.result1 rfl (.tmp rfl .nil) ?_
    exact ⟨rfl, hm0⟩

end Go.Proofs.Ytbomlakekdamhaa
