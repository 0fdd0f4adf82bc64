/- Walks: what the functions compute. -/
import Derived.Test.YtjeodekhamdcmaaLawA
namespace Go.Proofs.Ytjeodekhamdcmaa
open Go.RowKit
set_option linter.unusedVariables false
set_option linter.unusedSimpArgs false
set_option maxRecDepth 10000
theorem c_known2 {w : World} :
    Ret Try.prog 31 #[] w (fun r w' => r = .bool true ∧ Mod [] w w') := by
  have hbd : Bd [] w := fun m h => by cases h
  refine Ret.of (vs := []) (n := 16) Try.func31 rfl rfl rfl rfl ?_
  have hm0 : Mod [] w w := Mod.refl _ _
  refine W.seq ?_
  refine W.region ?_
  refine L.v (R1.assign rfl) rfl ?_
  refine L.nil ?_
  refine X.seq ?_
  refine W.seq ?_
  refine W.region ?_
  refine L.build1 rfl rfl tyS25 tyZ51 rfl ?_
  intro g3 w1 hN3
  replace hbd := hbd.gr hN3.mod
  replace hm0 := hm0.trans hN3.mod
  have h3 : U32 [] w1 (.slice (some ⟨g3, 0, none⟩) 1 1) [1] := U32.of_blk (xs := [1]) hN3.blk (by simp) (by show (1 : Nat) ≤ maxLen; decide) (by simp)
  clear hN3
  refine L.build1 rfl rfl tyS25 tyZ51 rfl ?_
  intro g4 w2 hN4
  replace hbd := hbd.gr hN4.mod
  replace hm0 := hm0.trans hN4.mod
  replace h3 := h3.gr hN4.mod
  have h4 : U32 [] w2 (.slice (some ⟨g4, 0, none⟩) 1 1) [2] := U32.of_blk (xs := [2]) hN4.blk (by simp) (by show (1 : Nat) ≤ maxLen; decide) (by simp)
  clear hN4
  refine L.v (R1.build rfl (built_Q12 _ _ _ _ _ _)) rfl ?_
  refine L.build1 rfl rfl tyS25 tyZ51 rfl ?_
  intro g6 w3 hN6
  replace hbd := hbd.gr hN6.mod
  replace hm0 := hm0.trans hN6.mod
  replace h3 := h3.gr hN6.mod
  replace h4 := h4.gr hN6.mod
  have h6 : U32 [] w3 (.slice (some ⟨g6, 0, none⟩) 1 1) [1] := U32.of_blk (xs := [1]) hN6.blk (by simp) (by show (1 : Nat) ≤ maxLen; decide) (by simp)
  clear hN6
  refine L.build1 rfl rfl tyS25 tyZ51 rfl ?_
  intro g7 w4 hN7
  replace hbd := hbd.gr hN7.mod
  replace hm0 := hm0.trans hN7.mod
  replace h3 := h3.gr hN7.mod
  replace h4 := h4.gr hN7.mod
  replace h6 := h6.gr hN7.mod
  have h7 : U32 [] w4 (.slice (some ⟨g7, 0, none⟩) 1 1) [3] := U32.of_blk (xs := [3]) hN7.blk (by simp) (by show (1 : Nat) ≤ maxLen; decide) (by simp)
  clear hN7
  refine L.v (R1.build rfl (built_Q12 _ _ _ _ _ _)) rfl ?_
  refine L.alloc tyZ27 rfl ?_
  intro g1 w5 hN1
  replace hbd := hbd.new hN1
  have hge_g1 := New.ge hN1 hm0.size
  replace hm0 := hm0.trans (hN1.mod.mono (by simp))
  replace h3 := h3.new hN1
  replace h4 := h4.new hN1
  replace h6 := h6.new hN1
  replace h7 := h7.new hN1
  have hb1 := hN1.blk
  clear hN1
  refine L.alloc tyZ27 rfl ?_
  intro g2 w6 hN2
  replace hbd := hbd.new hN2
  have hge_g2 := New.ge hN2 hm0.size
  replace hm0 := hm0.trans (hN2.mod.mono (by simp))
  replace h3 := h3.new hN2
  replace h4 := h4.new hN2
  replace h6 := h6.new hN2
  replace h7 := h7.new hN2
  have hne_g1_g2 := hb1.ne_ hN2
  replace hb1 := Blk.gr hb1 hN2.mod
  have hb2 := hN2.blk
  clear hN2
  refine L.storeBox rfl rfl hb1 rfl rfl tyG27 ?_
  intro w7 hb1' hm7
  replace hbd := hbd.gr hm7
  replace hm0 := hm0.old1 hm7 hge_g1
  replace h3 := h3.mod hm7 (by simp)
  replace h4 := h4.mod hm7 (by simp)
  replace h6 := h6.mod hm7 (by simp)
  replace h7 := h7.mod hm7 (by simp)
  replace hb2 := Blk.far hb2 hm7 (by first | exact hne_g2_g1 | exact (hne_g1_g2).symm)
  clear hm7
  replace hb1 := hb1'; clear hb1'
  refine L.storeBox rfl rfl hb2 rfl rfl tyG27 ?_
  intro w8 hb2' hm8
  replace hbd := hbd.gr hm8
  replace hm0 := hm0.old1 hm8 hge_g2
  replace h3 := h3.mod hm8 (by simp)
  replace h4 := h4.mod hm8 (by simp)
  replace h6 := h6.mod hm8 (by simp)
  replace h7 := h7.mod hm8 (by simp)
  replace hb1 := Blk.far hb1 hm8 (by first | exact hne_g1_g2 | exact (hne_g2_g1).symm)
  clear hm8
  replace hb2 := hb2'; clear hb2'
  refine L.nil ?_
  refine X.seq ?_
  refine W.seq ?_
  refine W.region ?_
  refine L.v (R1.loadBox rfl hb1 tyG27) rfl ?_
  refine L.v (R1.loadBox rfl hb2 tyG27) rfl ?_
  refine L.call rfl (c_rat_Add (qa := rv false (val [1]) (val [2])) (qb := rv false (val [1]) (val [3])) rfl rfl h3 h4 h6 h7 hbd (by decide) (by decide) (by decide) (by decide)) rfl ?_
  rintro _ w9 ⟨⟨A11, c11, B11, e11, rfl, hn11, hd11⟩, hm9⟩
  replace hbd := hbd.gr hm9
  replace hm0 := hm0.trans hm9
  replace h3 := h3.gr hm9
  replace h4 := h4.gr hm9
  replace h6 := h6.gr hm9
  replace h7 := h7.gr hm9
  replace hb1 := Blk.gr hb1 hm9
  replace hb2 := Blk.gr hb2 hm9
  clear hm9
  refine L.build1 rfl rfl tyS25 tyZ51 rfl ?_
  intro g12 w10 hN12
  replace hbd := hbd.gr hN12.mod
  replace hm0 := hm0.trans hN12.mod
  replace h3 := h3.gr hN12.mod
  replace h4 := h4.gr hN12.mod
  replace h6 := h6.gr hN12.mod
  replace h7 := h7.gr hN12.mod
  replace hb1 := Blk.gr hb1 hN12.mod
  replace hb2 := Blk.gr hb2 hN12.mod
  replace hn11 := hn11.gr hN12.mod
  replace hd11 := hd11.gr hN12.mod
  have h12 : U32 [] w10 (.slice (some ⟨g12, 0, none⟩) 1 1) [5] := U32.of_blk (xs := [5]) hN12.blk (by simp) (by show (1 : Nat) ≤ maxLen; decide) (by simp)
  clear hN12
  refine L.build1 rfl rfl tyS25 tyZ51 rfl ?_
  intro g13 w11 hN13
  replace hbd := hbd.gr hN13.mod
  replace hm0 := hm0.trans hN13.mod
  replace h3 := h3.gr hN13.mod
  replace h4 := h4.gr hN13.mod
  replace h6 := h6.gr hN13.mod
  replace h7 := h7.gr hN13.mod
  replace hb1 := Blk.gr hb1 hN13.mod
  replace hb2 := Blk.gr hb2 hN13.mod
  replace hn11 := hn11.gr hN13.mod
  replace hd11 := hd11.gr hN13.mod
  replace h12 := h12.gr hN13.mod
  have h13 : U32 [] w11 (.slice (some ⟨g13, 0, none⟩) 1 1) [6] := U32.of_blk (xs := [6]) hN13.blk (by simp) (by show (1 : Nat) ≤ maxLen; decide) (by simp)
  clear hN13
  refine L.v (R1.build rfl (built_Q12 _ _ _ _ _ _)) rfl ?_
  refine L.call rfl (c_one hn11 hd11 h12 h13) rfl ?_
  rintro _ w12 ⟨rfl, hm12⟩
  replace hbd := hbd.gr hm12
  replace hm0 := hm0.trans hm12
  replace h3 := h3.gr hm12
  replace h4 := h4.gr hm12
  replace h6 := h6.gr hm12
  replace h7 := h7.gr hm12
  replace hb1 := Blk.gr hb1 hm12
  replace hb2 := Blk.gr hb2 hm12
  replace hn11 := hn11.gr hm12
  replace hd11 := hd11.gr hm12
  replace h12 := h12.gr hm12
  replace h13 := h13.gr hm12
  clear hm12
  refine L.v (R1.assign rfl) rfl ?_
  refine L.nil ?_
  refine X.seq ?_
  refine W.ret ?_
  refine X.result1 rfl (.tmp rfl .nil) ?_
  exact ⟨by rw [known_val], hm0⟩

theorem fillQ1 (sa : Bool) (Aa Ba : Option Addr) (xa ya ca da : Nat) : Instr.fill (fun i => some (i * 3, 3)) ((Array.range (1 * 3)).map ((Value.agg #[.bool false, .slice none 0 0, .slice none 0 0]).cells[· % (Value.agg #[.bool false, .slice none 0 0, .slice none 0 0]).cells.size]!)) [(0, .agg #[.bool sa, .slice Aa xa ca, .slice Ba ya da])] = some #[.bool sa, .slice Aa xa ca, .slice Ba ya da] := by kernel_rfl
theorem fillQ2 (sa : Bool) (Aa Ba : Option Addr) (xa ya ca da : Nat) (sb : Bool) (Ab Bb : Option Addr) (xb yb cb db : Nat) : Instr.fill (fun i => some (i * 3, 3)) ((Array.range (2 * 3)).map ((Value.agg #[.bool false, .slice none 0 0, .slice none 0 0]).cells[· % (Value.agg #[.bool false, .slice none 0 0, .slice none 0 0]).cells.size]!)) [(0, .agg #[.bool sa, .slice Aa xa ca, .slice Ba ya da]), (1, .agg #[.bool sb, .slice Ab xb cb, .slice Bb yb db])] = some #[.bool sa, .slice Aa xa ca, .slice Ba ya da, .bool sb, .slice Ab xb cb, .slice Bb yb db] := by kernel_rfl
theorem fillQ3 (sa : Bool) (Aa Ba : Option Addr) (xa ya ca da : Nat) (sb : Bool) (Ab Bb : Option Addr) (xb yb cb db : Nat) (sc : Bool) (Ac Bc : Option Addr) (xc yc cc dc : Nat) : Instr.fill (fun i => some (i * 3, 3)) ((Array.range (3 * 3)).map ((Value.agg #[.bool false, .slice none 0 0, .slice none 0 0]).cells[· % (Value.agg #[.bool false, .slice none 0 0, .slice none 0 0]).cells.size]!)) [(0, .agg #[.bool sa, .slice Aa xa ca, .slice Ba ya da]), (1, .agg #[.bool sb, .slice Ab xb cb, .slice Bb yb db]), (2, .agg #[.bool sc, .slice Ac xc cc, .slice Bc yc dc])] = some #[.bool sa, .slice Aa xa ca, .slice Ba ya da, .bool sb, .slice Ab xb cb, .slice Bb yb db, .bool sc, .slice Ac xc cc, .slice Bc yc dc] := by kernel_rfl
end Go.Proofs.Ytjeodekhamdcmaa
