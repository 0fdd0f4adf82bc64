/- Walks: what the functions compute. -/
import Derived.Test.YtbomlakekdamhaaHist2
namespace Go.Proofs.Ytbomlakekdamhaa
open Go.RowKit
set_option linter.unusedVariables false
set_option linter.unusedSimpArgs false
set_option maxRecDepth 10000

theorem c_IsT {M : List Nat} {w : World} {vp vf : Value} {ps fs : List ByteArray} (hp : Strs M w vp ps) (hf : Strs M w vf fs) (hl1 : ps.length + fs.length ≤ 32) :
    Ret Try.prog 8 #[.agg #[vp, vf]] w (fun r w' => r = .bool true ∧ Mod [] w w') :=
  (c_Is hp hf (by omega) (by omega)).mono fun r w' ⟨h1, h2⟩ => ⟨by rw [h1, decide_eq_true hl1], h2⟩
theorem lastN_len (n : Nat) (l : List ByteArray) : (lastN n l).length = min n l.length := by unfold lastN; simp; omega
theorem lastN_push (l : List ByteArray) (k : Nat) (hk : k < l.length) : lastN 32 (lastN 32 (l.take k) ++ [l[k]]) = lastN 32 (l.take (k + 1)) := by
  have e : l.take (k + 1) = l.take k ++ [l[k]] := by rw [List.take_add_one, List.getElem?_eq_getElem hk]; rfl
  rw [e]
  unfold lastN
  rw [← List.drop_append_of_le_length (by omega), List.drop_drop]
  congr 1
  simp; omega
theorem lastN_split (l : List ByteArray) (t : Nat) (h1 : t < l.length) (h2 : t < 32) :
    (lastN 32 l).take ((lastN 32 l).length - t) = (lastN 32 l).take ((lastN 32 l).length - (t + 1)) ++ [l[l.length - 1 - t]] := by
  have hl := lastN_len 32 l
  have e : (lastN 32 l).length - t = ((lastN 32 l).length - (t + 1)) + 1 := by omega
  rw [e, List.take_add_one, List.getElem?_eq_getElem (by omega)]
  congr 1
  simp only [Option.toList_some, List.cons.injEq, and_true]
  unfold lastN
  rw [List.getElem_drop]
  congr 1
  simp; omega

theorem c_HistLast {M : List Nat} {w : World} {v : Value} {l : List ByteArray} (h : Strs M w v l) (hbd : Bd M w) :
    Ret Try.prog 3 #[v] w (fun r w' => r = .bool true ∧ Mod [] w w') := by
  refine Ret.of (vs := [v]) (n := 83) Try.func3 rfl rfl rfl rfl ?_
  have hm0 : Mod [] w w := Mod.refl _ _
  refine W.seq ?_
  refine W.region ?_
  refine L.v (R1.assign rfl) rfl ?_
  refine L.nil ?_
  refine X.seq ?_
  refine W.seq ?_
  refine W.seq ?_
  refine W.region ?_
  refine L.v (R1.move rfl) rfl ?_
  refine L.v (R1.lenStrs rfl (by assumption) tyS22) rfl ?_
  refine L.v (R1.gt rfl rfl) rfl ?_
  refine L.nil ?_
  refine X.seq ?_
  refine W.cond rfl ?_ ?_
  ·
    intro hc15
    try simp only [decide_eq_true_eq, decide_eq_false_iff_not, Bool.not_eq_true', Bool.not_eq_false', Int.not_lt, Int.not_le, ne_eq, Decidable.not_not] at hc15
    refine W.seq ?_
    refine W.region ?_
    refine L.v (R1.assign rfl) rfl ?_
    refine L.nil ?_
    refine X.seq ?_
    refine W.ret ?_
    refine X.thenRet ?_
    refine X.result1 rfl (.tmp rfl .nil) ?_
    exact ⟨rfl, hm0⟩
  ·
    intro hc15
    try simp only [decide_eq_true_eq, decide_eq_false_iff_not, Bool.not_eq_true', Bool.not_eq_false', Int.not_lt, Int.not_le, ne_eq, Decidable.not_not] at hc15
    refine W.skip ?_
    refine X.seq ?_
    refine W.seq ?_
    refine W.region ?_
    refine L.v (R1.build rfl (built_H0)) rfl ?_
    refine L.alloc tyZ24 rfl ?_
    intro g3 w1 hN3
    replace h := h.new hN3
    replace hbd := hbd.new hN3
    have hge_g3 := New.ge hN3 hm0.size
    replace hm0 := hm0.trans (hN3.mod.mono (by simp))
    have hb3 := hN3.blk
    clear hN3
    refine L.storeBox rfl rfl hb3 rfl rfl tyG24 ?_
    intro w2 hb3' hm2
    replace h := h.mod hm2 (by simp)
    replace hbd := hbd.gr hm2
    replace hm0 := hm0.old1 hm2 hge_g3
    clear hm2
    replace hb3 := hb3'; clear hb3'
    refine L.nil ?_
    refine X.seq ?_
    refine W.seq ?_
    refine W.seq ?_
    refine W.region ?_
    refine L.v (R1.assign rfl) rfl ?_
    refine L.nil ?_
    refine X.seq ?_
    refine W.block ?_
    refine W.loop (ι := Nat × Value) (fun (k, u) => [(0, v), (3, .pointer (some ⟨g3, 0, none⟩)), (4, .int .i64 (k : Int))]) (fun (k, u) w_ => k ≤ l.length ∧ Blk w_ g3 24 #[u, .slice none 0 0] ∧ Strs (g3 :: M) w_ u (lastN 32 (l.take k)) ∧ Strs (g3 :: M) w_ v l ∧ Bd (g3 :: M) w_ ∧ Mod [] w w_) (fun (k, u) => l.length - k) (0, .slice none 0 0) ?_ ?_ ?_
    · exact ⟨rfl, rfl, rfl, trivial⟩
    ·
      exact ⟨Nat.zero_le _, hb3, Strs.nil, h, hbd, hm0⟩
    ·
      rintro ⟨k, u⟩ w3 ⟨hk, hb3, hu, h, hbd, hm0⟩
      have hlk := lastN_len 32 (l.take k)
      have hn : Strs (g3 :: M) w3 (.slice none 0 0) [] := Strs.nil
      refine W.seq ?_
      refine W.seq ?_
      refine W.region ?_
      refine L.v (R1.move rfl) rfl ?_
      refine L.v (R1.move rfl) rfl ?_
      refine L.v (R1.lenStrs rfl (by assumption) tyS22) rfl ?_
      refine L.v (R1.lt rfl rfl) rfl ?_
      refine L.nil ?_
      refine X.seq ?_
      refine W.cond rfl ?_ ?_
      ·
        intro hc20
        try simp only [decide_eq_true_eq, decide_eq_false_iff_not, Bool.not_eq_true', Bool.not_eq_false', Int.not_lt, Int.not_le, ne_eq, Decidable.not_not] at hc20
        have hk1 : k < l.length := by omega
        refine W.skip ?_
        refine X.seq ?_
        refine W.seq ?_
        refine W.block ?_
        refine W.seq ?_
        refine W.seq ?_
        refine W.region ?_
        refine L.v (R1.move rfl) rfl ?_
        refine L.v (R1.move rfl) rfl ?_
        refine L.v (R1.atStrs (j := k) rfl rfl (by assumption) tyS22 rfl (by omega)) rfl ?_
        refine L.v (R1.ldStrs rfl (by assumption) tyP9 (by omega) rfl) rfl ?_
        refine L.v (R1.lenS rfl tyStr9) rfl ?_
        refine L.v (R1.gt rfl rfl) rfl ?_
        refine L.nil ?_
        refine X.seq ?_
        refine W.cond rfl ?_ ?_
        ·
          intro hc28
          try simp only [decide_eq_true_eq, decide_eq_false_iff_not, Bool.not_eq_true', Bool.not_eq_false', Int.not_lt, Int.not_le, ne_eq, Decidable.not_not] at hc28
          refine W.seq ?_
          refine W.region ?_
          refine L.v (R1.assign rfl) rfl ?_
          refine L.nil ?_
          refine X.seq ?_
          refine W.ret ?_
          refine X.thenRet ?_
          refine X.blockRet ?_
          refine X.thenRet ?_
          refine X.nextRet ?_
          refine X.blockRet ?_
          refine X.thenRet ?_
          refine X.result1 rfl (.tmp rfl .nil) ?_
          exact ⟨rfl, hm0⟩
        ·
          intro hc28
          try simp only [decide_eq_true_eq, decide_eq_false_iff_not, Bool.not_eq_true', Bool.not_eq_false', Int.not_lt, Int.not_le, ne_eq, Decidable.not_not] at hc28
          refine W.skip ?_
          refine X.seq ?_
          refine W.drawW (T := [6]) rfl (by decide +kernel) (NoHang.block (NoHang.then (NoHang.next (NoHang.block (NoHang.then NoHang.post))))) (fun w4 hm4 => ?_)
          replace hb3 := Blk.gr hb3 hm4
          replace hu := hu.gr hm4
          replace h := h.gr hm4
          replace hbd := hbd.gr hm4
          replace hm0 := hm0.trans hm4
          have hS1 : Mod [] w4 w4 := Mod.refl _ _
          clear hm4
          refine D.take 0 rfl (by decide +kernel) (fun w_ hS => (R1.loadBox rfl (Blk.gr hb3 hS) tyG24)) hS1 rfl ?_
          refine D.take 1 rfl (by decide +kernel) (fun w_ hS => (R1.move rfl)) hS1 rfl ?_
          refine D.take 2 rfl (by decide +kernel) (fun w_ hS => (R1.move rfl)) hS1 rfl ?_
          refine D.take 3 rfl (by decide +kernel) (fun w_ hS => (R1.atStrs (j := k) rfl rfl (Strs.gr (by assumption) hS) tyS22 rfl (by omega))) hS1 rfl ?_
          refine D.take 4 rfl (by decide +kernel) (fun w_ hS => (R1.ldStrs rfl (Strs.gr (by assumption) hS) tyP9 (by omega) rfl)) hS1 rfl ?_
          refine D.one 5 rfl (by decide +kernel) (fun hX => ?_)
          refine L.call rfl (c_PushQ (lastN_push l k hk1) hu hbd (by omega)) rfl ?_
          rintro _ w5 ⟨A34, c34, rfl, h34, hm5⟩
          replace hb3 := Blk.gr hb3 hm5
          replace hu := hu.gr hm5
          replace h := h.gr hm5
          replace hbd := hbd.gr hm5
          replace hm0 := hm0.trans hm5
          replace hS1 := hS1.trans hm5
          clear hm5
          refine L.nil (hX _ _ ⟨.inr hS1, ?_⟩)
          refine D.one 6 rfl (by decide +kernel) (fun hX => ?_)
          refine L.storeBox rfl rfl hb3 rfl rfl tyG24 ?_
          intro w6 hb3' hm6
          replace hu := hu.mod hm6 (by simp)
          replace h := h.mod hm6 (by simp)
          replace hbd := hbd.gr hm6
          replace hm0 := hm0.old1 hm6 hge_g3
          replace h34 := h34.mod hm6 (by simp)
          clear hm6
          replace hb3 := hb3'; clear hb3'
          refine L.nil (hX _ _ ⟨.inl rfl, ?_⟩)
          refine D.done (by decide +kernel) ?_ _
          refine X.blockEnd ?_
          refine X.seq ?_
          refine W.region ?_
          refine L.v (R1.move rfl) rfl ?_
          refine L.v (R1.addI (b := 1) rfl rfl (by omega)) rfl ?_
          refine L.v (R1.assign rfl) rfl ?_
          refine L.nil ?_
          refine X.next (k + 1, .slice A34 (lastN 32 (l.take (k + 1))).length c34) ?_ ?_ ?_
          · exact ⟨rfl, rfl, rfl, trivial⟩
          ·
            exact ⟨by omega, hb3, h34, h, hbd, hm0⟩
          · first | omega | (dsimp only; omega)
      ·
        intro hc20
        try simp only [decide_eq_true_eq, decide_eq_false_iff_not, Bool.not_eq_true', Bool.not_eq_false', Int.not_lt, Int.not_le, ne_eq, Decidable.not_not] at hc20
        obtain rfl : k = l.length := by omega
        rw [List.take_length] at hu
        have hln := lastN_len 32 l
        have hn0 : Strs (g3 :: M) w3 (.slice none 0 0) [] := Strs.nil
        refine W.exit ?_
        refine X.thenExit ?_
        refine X.nextExit ?_
        refine X.here ?_
        refine X.seq ?_
        refine W.seq ?_
        refine W.seq ?_
        refine W.region ?_
        refine L.v (R1.loadBox rfl hb3 tyG24) rfl ?_
        refine L.call rfl (c_IsT hu hn (by simp; omega)) rfl ?_
        rintro _ w7 ⟨rfl, hm7⟩
        replace hb3 := Blk.gr hb3 hm7
        replace hu := hu.gr hm7
        replace h := h.gr hm7
        replace hbd := hbd.gr hm7
        replace hm0 := hm0.trans hm7
        clear hm7
        refine L.v ((R1.not rfl).asB (c := false) rfl) rfl ?_
        refine L.nil ?_
        refine X.seq ?_
        refine W.condF rfl ?_
        refine W.skip ?_
        refine X.seq ?_
        refine W.seq ?_
        refine W.region ?_
        refine L.v (R1.assign rfl) rfl ?_
        refine L.nil ?_
        refine X.seq ?_
        refine W.seq ?_
        refine W.seq ?_
        refine W.region ?_
        refine L.v (R1.move rfl) rfl ?_
        refine L.v (R1.lenStrs rfl (by assumption) tyS22) rfl ?_
        refine L.v ((R1.sub rfl rfl).as (wrap_i64 (by omega) (by omega))) rfl ?_
        refine L.v (R1.assign rfl) rfl ?_
        refine L.nil ?_
        refine X.seq ?_
        refine W.block ?_
        refine W.loop (ι := Nat × Value × Value × List ByteArray × ByteArray) (fun (t, u, f, fs, cur) => [(0, v), (3, .pointer (some ⟨g3, 0, none⟩)), (5, .string cur), (6, .int .i64 ((l.length : Int) - 1 - (t : Int)))]) (fun (t, u, f, fs, cur) w_ => t ≤ (lastN 32 l).length ∧ fs.length ≤ t ∧ Blk w_ g3 24 #[u, f] ∧ Strs (g3 :: M) w_ u ((lastN 32 l).take ((lastN 32 l).length - t)) ∧ Strs (g3 :: M) w_ f fs ∧ Strs (g3 :: M) w_ v l ∧ Bd (g3 :: M) w_ ∧ Mod [] w w_) (fun (t, u, f, fs, cur) => 100 - t) (0, u, .slice none 0 0, [], ⟨#[110, 111, 119]⟩) ?_ ?_ ?_
        · exact ⟨rfl, rfl, rfl, congrArg (fun i => some (Value.int .i64 i)) (show (l.length : Int) - 1 = (l.length : Int) - 1 - ((0 : Nat) : Int) by omega), trivial⟩
        ·
          exact ⟨Nat.zero_le _, Nat.le_refl _, hb3, by rw [Nat.sub_zero, List.take_length]; exact hu, Strs.nil, h, hbd, hm0⟩
        ·
          rintro ⟨t, u, f, fs, cur⟩ w8 ⟨ht, hfs, hb3, hu, hf, h, hbd, hm0⟩
          refine W.seq ?_
          refine W.seq ?_
          refine W.region ?_
          refine L.v (R1.move rfl) rfl ?_
          refine L.v ((R1.ge rfl rfl).asB (c := decide (t < l.length)) (by congr 1; apply propext; omega)) rfl ?_
          refine L.v (R1.move rfl) rfl ?_
          cases hgd43 : decide (t < l.length)
          ·
            try simp only [decide_eq_true_eq, decide_eq_false_iff_not, Bool.not_eq_true', Bool.not_eq_false', Int.not_lt, Int.not_le, ne_eq, Decidable.not_not] at hgd43
            have hu0 : (lastN 32 l).take ((lastN 32 l).length - t) = [] := by
                have : (lastN 32 l).length - t = 0 := by omega
                rw [this]; rfl
            refine L.off rfl rfl rfl rfl rfl ?_
            refine L.off rfl rfl rfl rfl rfl ?_
            refine L.off rfl rfl rfl rfl rfl ?_
            refine L.off rfl rfl rfl rfl rfl ?_
            refine L.off rfl rfl rfl rfl rfl ?_
            refine L.v (R1.pickF rfl rfl) rfl ?_
            refine L.nil ?_
            refine X.seq ?_
            refine W.condF rfl ?_
            refine W.exit ?_
            refine X.thenExit ?_
            refine X.nextExit ?_
            refine X.here ?_
            refine X.seq ?_
            refine W.seq ?_
            refine W.region ?_
            refine L.v (R1.loadBox rfl hb3 tyG24) rfl ?_
            refine L.v (R1.move rfl) rfl ?_
            refine L.call rfl (c_Undo0 hu hf hu0 hbd (by rw [hu0]; simp) (by omega)) rfl ?_
            rintro _ w9 ⟨A74, c74, B74, d74, rfl, h74, k74, hm9⟩
            replace hb3 := Blk.gr hb3 hm9
            replace hu := hu.gr hm9
            replace hf := hf.gr hm9
            replace h := h.gr hm9
            replace hbd := hbd.gr hm9
            replace hm0 := hm0.trans hm9
            clear hm9
            refine L.v (R1.move rfl) rfl ?_
            refine L.v (R1.extract rfl rfl) rfl ?_
            refine L.v (R1.extract rfl rfl) rfl ?_
            refine L.v (R1.extract rfl rfl) rfl ?_
            refine L.alloc tyZ24 rfl ?_
            intro g10 w10 hN10
            have hne_g3_g10 := hb3.ne_ hN10
            replace hb3 := Blk.gr hb3 hN10.mod
            replace hu := hu.new hN10
            replace hf := hf.new hN10
            replace h := h.new hN10
            replace hbd := hbd.new hN10
            have hge_g10 := New.ge hN10 hm0.size
            replace hm0 := hm0.trans (hN10.mod.mono (by simp))
            replace h74 := h74.new hN10
            replace k74 := k74.new hN10
            have hb10 := hN10.blk
            clear hN10
            refine L.storeBox rfl rfl hb10 rfl rfl tyG24 ?_
            intro w11 hb10' hm11
            replace hb3 := Blk.far hb3 hm11 (by first | exact hne_g3_g10 | exact (hne_g10_g3).symm)
            replace hu := hu.mod hm11 (by simp)
            replace hf := hf.mod hm11 (by simp)
            replace h := h.mod hm11 (by simp)
            replace hbd := hbd.gr hm11
            replace hm0 := hm0.old1 hm11 hge_g10
            replace h74 := h74.mod hm11 (by simp)
            replace k74 := k74.mod hm11 (by simp)
            clear hm11
            replace hb10 := hb10'; clear hb10'
            refine L.v (R1.assign rfl) rfl ?_
            refine L.v (R1.assign rfl) rfl ?_
            refine L.nil ?_
            refine X.seq ?_
            refine W.seq ?_
            refine W.region ?_
            refine L.v (R1.move rfl) rfl ?_
            refine L.v ((R1.not rfl).asB (c := true) rfl) rfl ?_
            refine L.v (R1.move rfl) rfl ?_
            refine L.callOn rfl rfl rfl rfl (c_known) rfl ?_
            rintro _ w12 ⟨rfl, hm12⟩
            replace hb3 := Blk.gr hb3 hm12
            replace hu := hu.gr hm12
            replace hf := hf.gr hm12
            replace h := h.gr hm12
            replace hbd := hbd.gr hm12
            replace hm0 := hm0.trans hm12
            replace h74 := h74.gr hm12
            replace k74 := k74.gr hm12
            replace hb10 := Blk.gr hb10 hm12
            clear hm12
            refine L.v (R1.pickT rfl rfl) rfl ?_
            refine L.v (R1.assign rfl) rfl ?_
            refine L.nil ?_
            refine X.seq ?_
            refine W.ret ?_
            refine X.result1 rfl (.tmp rfl .nil) ?_
            exact ⟨rfl, hm0⟩
          ·
            try simp only [decide_eq_true_eq, decide_eq_false_iff_not, Bool.not_eq_true', Bool.not_eq_false', Int.not_lt, Int.not_le, ne_eq, Decidable.not_not] at hgd43
            refine L.on rfl rfl rfl (R1.move rfl) rfl ?_
            refine L.on rfl rfl rfl (R1.move rfl) rfl ?_
            refine L.on rfl rfl rfl (R1.lenStrs rfl (by assumption) tyS22) rfl ?_
            refine L.on rfl rfl rfl ((R1.sub rfl rfl).as (wrap_i64 (by omega) (by omega))) rfl ?_
            refine L.on rfl rfl rfl ((R1.ge rfl rfl).asB (c := decide (t < 32)) (by congr 1; apply propext; omega)) rfl ?_
            refine L.v (R1.pickT rfl rfl) rfl ?_
            refine L.nil ?_
            refine X.seq ?_
            refine W.cond rfl ?_ ?_
            ·
              intro hc49
              try simp only [decide_eq_true_eq, decide_eq_false_iff_not, Bool.not_eq_true', Bool.not_eq_false', Int.not_lt, Int.not_le, ne_eq, Decidable.not_not] at hc49
              refine W.skip ?_
              refine X.seq ?_
              refine W.seq ?_
              refine W.block ?_
              refine W.seq ?_
              have hu' := hu
              rw [lastN_split l t hgd43 hc49] at hu'
              refine W.region ?_
              refine L.v (R1.loadBox rfl hb3 tyG24) rfl ?_
              refine L.v (R1.move rfl) rfl ?_
              refine L.call rfl (c_Undo1 hu' hf hbd (by simp; omega) (by omega)) rfl ?_
              rintro _ w13 ⟨A55, c55, B55, d55, rfl, h55, k55, hm13⟩
              replace hb3 := Blk.gr hb3 hm13
              replace hu := hu.gr hm13
              replace hf := hf.gr hm13
              replace h := h.gr hm13
              replace hbd := hbd.gr hm13
              replace hm0 := hm0.trans hm13
              clear hm13
              refine L.v (R1.move rfl) rfl ?_
              refine L.v (R1.extract rfl rfl) rfl ?_
              refine L.v (R1.extract rfl rfl) rfl ?_
              refine L.v (R1.extract rfl rfl) rfl ?_
              refine L.alloc tyZ24 rfl ?_
              intro g7 w14 hN7
              have hne_g3_g7 := hb3.ne_ hN7
              replace hb3 := Blk.gr hb3 hN7.mod
              replace hu := hu.new hN7
              replace hf := hf.new hN7
              replace h := h.new hN7
              replace hbd := hbd.new hN7
              have hge_g7 := New.ge hN7 hm0.size
              replace hm0 := hm0.trans (hN7.mod.mono (by simp))
              replace h55 := h55.new hN7
              replace k55 := k55.new hN7
              have hb7 := hN7.blk
              clear hN7
              refine L.storeBox rfl rfl hb7 rfl rfl tyG24 ?_
              intro w15 hb7' hm15
              replace hb3 := Blk.far hb3 hm15 (by first | exact hne_g3_g7 | exact (hne_g7_g3).symm)
              replace hu := hu.mod hm15 (by simp)
              replace hf := hf.mod hm15 (by simp)
              replace h := h.mod hm15 (by simp)
              replace hbd := hbd.gr hm15
              replace hm0 := hm0.old1 hm15 hge_g7
              replace h55 := h55.mod hm15 (by simp)
              replace k55 := k55.mod hm15 (by simp)
              clear hm15
              replace hb7 := hb7'; clear hb7'
              refine L.v (R1.assign rfl) rfl ?_
              refine L.v (R1.assign rfl) rfl ?_
              refine L.nil ?_
              refine X.seq ?_
              refine W.seq ?_
              refine W.seq ?_
              refine W.region ?_
              refine L.v (R1.move rfl) rfl ?_
              refine L.v ((R1.not rfl).asB (c := false) rfl) rfl ?_
              refine L.v (R1.move rfl) rfl ?_
              refine L.on rfl rfl rfl (R1.move rfl) rfl ?_
              refine L.on rfl rfl rfl (R1.move rfl) rfl ?_
              refine L.on rfl rfl rfl (R1.move rfl) rfl ?_
              refine L.on rfl rfl rfl (R1.atStrs (j := (l.length - 1 - t)) rfl rfl (by assumption) tyS22 (by omega) (by omega)) rfl ?_
              refine L.on rfl rfl rfl (R1.ldStrs rfl (by assumption) tyP9 (by omega) rfl) rfl ?_
              refine L.on rfl rfl rfl ((R1.neS rfl rfl).asB (c := false) (by simp)) rfl ?_
              refine L.v (R1.pickF rfl rfl) rfl ?_
              refine L.nil ?_
              refine X.seq ?_
              refine W.condF rfl ?_
              refine W.skip ?_
              refine X.seq ?_
              refine W.region ?_
              refine L.v (R1.loadBox rfl hb7 tyG24) rfl ?_
              refine L.v (R1.move rfl) rfl ?_
              refine L.storeBox rfl rfl hb3 rfl rfl tyG24 ?_
              intro w16 hb3' hm16
              replace hu := hu.mod hm16 (by simp)
              replace hf := hf.mod hm16 (by simp)
              replace h := h.mod hm16 (by simp)
              replace hbd := hbd.gr hm16
              replace hm0 := hm0.old1 hm16 hge_g3
              replace h55 := h55.mod hm16 (by simp)
              replace k55 := k55.mod hm16 (by simp)
              replace hb7 := Blk.far hb7 hm16 (by first | exact hne_g7_g3 | exact (hne_g3_g7).symm)
              clear hm16
              replace hb3 := hb3'; clear hb3'
              refine L.v (R1.assign rfl) rfl ?_
              refine L.nil ?_
              refine X.blockEnd ?_
              refine X.seq ?_
              refine W.region ?_
              refine L.v (R1.move rfl) rfl ?_
              refine L.v ((R1.sub rfl rfl).as (wrap_i64 (by omega) (by omega))) rfl ?_
              refine L.v (R1.assign rfl) rfl ?_
              refine L.nil ?_
              refine X.next (t + 1, .slice A55 ((lastN 32 l).take ((lastN 32 l).length - (t + 1))).length c55, .slice B55 (fs.length + 1) d55, fs ++ [cur], l[l.length - 1 - t]) ?_ ?_ ?_
              · exact ⟨rfl, rfl, rfl, congrArg (fun i => some (Value.int .i64 i)) (show (l.length : Int) - 1 - (t : Int) - 1 = (l.length : Int) - 1 - ((t + 1 : Nat) : Int) by omega), trivial⟩
              ·
                exact ⟨by omega, by simp; omega, hb3, h55.sub (by intro g hg; simp at hg ⊢; rcases hg with h | h <;> simp [h]), k55.sub (by intro g hg; simp at hg ⊢; rcases hg with h | h <;> simp [h]), h.sub (by intro g hg; simp at hg ⊢; rcases hg with h | h <;> simp [h]), fun m hm => hbd m (by simp at hm ⊢; rcases hm with h | h <;> simp [h]), hm0⟩
              · (show 100 - (t + 1) < 100 - t; omega)
            ·
              intro hc49
              try simp only [decide_eq_true_eq, decide_eq_false_iff_not, Bool.not_eq_true', Bool.not_eq_false', Int.not_lt, Int.not_le, ne_eq, Decidable.not_not] at hc49
              have hu0 : (lastN 32 l).take ((lastN 32 l).length - t) = [] := by
                  have : (lastN 32 l).length - t = 0 := by omega
                  rw [this]; rfl
              refine W.exit ?_
              refine X.thenExit ?_
              refine X.nextExit ?_
              refine X.here ?_
              refine X.seq ?_
              refine W.seq ?_
              refine W.region ?_
              refine L.v (R1.loadBox rfl hb3 tyG24) rfl ?_
              refine L.v (R1.move rfl) rfl ?_
              refine L.call rfl (c_Undo0 hu hf hu0 hbd (by rw [hu0]; simp) (by omega)) rfl ?_
              rintro _ w17 ⟨A74, c74, B74, d74, rfl, h74, k74, hm17⟩
              replace hb3 := Blk.gr hb3 hm17
              replace hu := hu.gr hm17
              replace hf := hf.gr hm17
              replace h := h.gr hm17
              replace hbd := hbd.gr hm17
              replace hm0 := hm0.trans hm17
              clear hm17
              refine L.v (R1.move rfl) rfl ?_
              refine L.v (R1.extract rfl rfl) rfl ?_
              refine L.v (R1.extract rfl rfl) rfl ?_
              refine L.v (R1.extract rfl rfl) rfl ?_
              refine L.alloc tyZ24 rfl ?_
              intro g10 w18 hN10
              have hne_g3_g10 := hb3.ne_ hN10
              replace hb3 := Blk.gr hb3 hN10.mod
              replace hu := hu.new hN10
              replace hf := hf.new hN10
              replace h := h.new hN10
              replace hbd := hbd.new hN10
              have hge_g10 := New.ge hN10 hm0.size
              replace hm0 := hm0.trans (hN10.mod.mono (by simp))
              replace h74 := h74.new hN10
              replace k74 := k74.new hN10
              have hb10 := hN10.blk
              clear hN10
              refine L.storeBox rfl rfl hb10 rfl rfl tyG24 ?_
              intro w19 hb10' hm19
              replace hb3 := Blk.far hb3 hm19 (by first | exact hne_g3_g10 | exact (hne_g10_g3).symm)
              replace hu := hu.mod hm19 (by simp)
              replace hf := hf.mod hm19 (by simp)
              replace h := h.mod hm19 (by simp)
              replace hbd := hbd.gr hm19
              replace hm0 := hm0.old1 hm19 hge_g10
              replace h74 := h74.mod hm19 (by simp)
              replace k74 := k74.mod hm19 (by simp)
              clear hm19
              replace hb10 := hb10'; clear hb10'
              refine L.v (R1.assign rfl) rfl ?_
              refine L.v (R1.assign rfl) rfl ?_
              refine L.nil ?_
              refine X.seq ?_
              refine W.seq ?_
              refine W.region ?_
              refine L.v (R1.move rfl) rfl ?_
              refine L.v ((R1.not rfl).asB (c := true) rfl) rfl ?_
              refine L.v (R1.move rfl) rfl ?_
              refine L.callOn rfl rfl rfl rfl (c_known) rfl ?_
              rintro _ w20 ⟨rfl, hm20⟩
              replace hb3 := Blk.gr hb3 hm20
              replace hu := hu.gr hm20
              replace hf := hf.gr hm20
              replace h := h.gr hm20
              replace hbd := hbd.gr hm20
              replace hm0 := hm0.trans hm20
              replace h74 := h74.gr hm20
              replace k74 := k74.gr hm20
              replace hb10 := Blk.gr hb10 hm20
              clear hm20
              refine L.v (R1.pickT rfl rfl) rfl ?_
              refine L.v (R1.assign rfl) rfl ?_
              refine L.nil ?_
              refine X.seq ?_
              refine W.ret ?_
              refine X.result1 rfl (.tmp rfl .nil) ?_
              exact ⟨rfl, hm0⟩

end Go.Proofs.Ytbomlakekdamhaa
