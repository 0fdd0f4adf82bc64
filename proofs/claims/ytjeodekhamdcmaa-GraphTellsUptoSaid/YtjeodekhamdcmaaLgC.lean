/- Walks: what the functions compute. -/
import Derived.Test.YtjeodekhamdcmaaLgB
namespace Go.Proofs.Ytjeodekhamdcmaa
open Go.RowKit
set_option linter.unusedVariables false
set_option linter.unusedSimpArgs false
set_option maxRecDepth 10000
theorem c_GraphTells {w : World} {vl : Value} {cs : List CR} {z0 : Int} (hL : Lay rdC [] w vl cs) (hb : szCs cs ≤ 4194304) :
    Ret Try.prog 5 #[vl, .int .i64 z0] w (fun r w' => r = .bool true ∧ Mod [] w w') := by
  have hbd : Bd [] w := fun m hm => by cases hm
  refine Ret.of (vs := [vl, .int .i64 z0]) (n := 36) Try.func5 rfl rfl rfl rfl ?_
  have hm0 : Mod [] w w := Mod.refl _ _
  refine W.seq ?_
  refine W.region ?_
  refine L.v (R1.assign rfl) rfl ?_
  refine L.nil ?_
  refine X.seq ?_
  refine W.seq ?_
  refine W.seq ?_
  refine W.region ?_
  refine L.v (R1.move rfl) rfl ?_
  refine L.call rfl (c_heavy_pantographlaw11 hL hb) rfl ?_
  rintro _ w1 ⟨rfl, hm1⟩
  replace hL := hL.gr hm1
  replace hbd := hbd.gr hm1
  replace hm0 := hm0.trans hm1
  clear hm1
  refine L.nil ?_
  refine X.seq ?_
  refine W.cond rfl ?_ ?_
  ·
    intro hc6
    have hh := hc6
    refine W.seq ?_
    refine W.region ?_
    refine L.v (R1.assign rfl) rfl ?_
    refine L.nil ?_
    refine X.seq ?_
    refine W.ret ?_
    refine X.thenRet ?_
    refine X.result1 rfl (.tmp rfl .nil) ?_
    exact ⟨rfl, hm0⟩
  ·
    intro hc6
    have hh := hc6
    have hsm : ∀ c ∈ cs, SmC 1099511627776 c := fun c hc => (sm_of_all (L := 150) (by simpa using hh) c hc).mono (by decide)
    refine W.skip ?_
    refine X.seq ?_
    refine W.seq ?_
    refine W.region ?_
    refine L.v (R1.move rfl) rfl ?_
    refine L.v (R1.move rfl) rfl ?_
    refine L.call rfl (c_First hL hbd hsm) rfl ?_
    rintro _ w2 ⟨rfl, hm2⟩
    replace hL := hL.gr hm2
    replace hbd := hbd.gr hm2
    replace hm0 := hm0.trans hm2
    clear hm2
    refine L.v (R1.move rfl) rfl ?_
    refine L.v (R1.move rfl) rfl ?_
    refine L.call rfl (c_r11_First hL hbd hsm) rfl ?_
    rintro _ w3 ⟨rfl, hm3⟩
    replace hL := hL.gr hm3
    replace hbd := hbd.gr hm3
    replace hm0 := hm0.trans hm3
    clear hm3
    refine L.v ((R1.eq rfl rfl).asB (c := true) (by simp)) rfl ?_
    refine L.v (R1.move rfl) rfl ?_
    refine L.on rfl rfl rfl (R1.move rfl) rfl ?_
    refine L.on rfl rfl rfl (R1.move rfl) rfl ?_
    refine L.callOn rfl rfl rfl rfl (c_Forest hL hbd hsm) rfl ?_
    rintro _ w4 ⟨rfl, hm4⟩
    replace hL := hL.gr hm4
    replace hbd := hbd.gr hm4
    replace hm0 := hm0.trans hm4
    clear hm4
    refine L.on rfl rfl rfl (R1.move rfl) rfl ?_
    refine L.on rfl rfl rfl (R1.move rfl) rfl ?_
    refine L.callOn rfl rfl rfl rfl (c_r11_First hL hbd hsm) rfl ?_
    rintro _ w5 ⟨rfl, hm5⟩
    replace hL := hL.gr hm5
    replace hbd := hbd.gr hm5
    replace hm0 := hm0.trans hm5
    clear hm5
    refine L.on rfl rfl rfl ((R1.lt rfl rfl).asB (c := (decide ((firstW (List.range (held z0)) (wsOf (held z0) cs) 0) = none))) (fi_neg _)) rfl ?_
    refine L.on rfl rfl rfl ((R1.eqB rfl rfl tyB4).asB (c := true) (by simp)) rfl ?_
    refine L.v (R1.pickT rfl rfl) rfl ?_
    refine L.v (R1.move rfl) rfl ?_
    refine L.on rfl rfl rfl (R1.move rfl) rfl ?_
    refine L.on rfl rfl rfl (R1.move rfl) rfl ?_
    refine L.callOn rfl rfl rfl rfl (c_Apart hL hbd hsm) rfl ?_
    rintro v27 w6 ⟨ho27, hm6⟩
    replace hL := hL.ownd ho27 hm6
    replace hbd := hbd.ownd ho27 hm6
    replace ho27 := own_less ho27 hm0.size
    replace hm0 := hm0.trans hm6
    clear hm6
    refine L.on rfl rfl rfl (R1.move rfl) rfl ?_
    refine L.on rfl rfl rfl (R1.move rfl) rfl ?_
    refine L.callOn rfl rfl rfl rfl (c_r11_Apart hL hbd hsm) rfl ?_
    rintro v30 w7 ⟨ho30, hm7⟩
    replace hL := hL.ownd ho30 hm7
    replace hbd := hbd.ownd ho30 hm7
    replace ho30 := own_less ho30 hm0.size
    replace hm0 := hm0.trans hm7
    replace ho27 := own_gr ho27 hm7 (by simp)
    clear hm7
    refine L.callOn rfl rfl rfl rfl (c_numbersEq_pantographlaw11 (Lay.of_ints (M := []) ho27 (by simp)) (Lay.of_ints (M := []) ho30 (by simp)) (rfl)) rfl ?_
    rintro _ w8 ⟨rfl, hm8⟩
    replace hL := hL.gr hm8
    replace hbd := hbd.gr hm8
    replace hm0 := hm0.trans hm8
    replace ho27 := own_gr ho27 hm8 (by simp)
    replace ho30 := own_gr ho30 hm8 (by simp)
    clear hm8
    refine L.v (R1.pickT rfl rfl) rfl ?_
    refine L.v (R1.move rfl) rfl ?_
    refine L.callOn rfl rfl rfl rfl (c_known11) rfl ?_
    rintro _ w9 ⟨rfl, hm9⟩
    replace hL := hL.gr hm9
    replace hbd := hbd.gr hm9
    replace hm0 := hm0.trans hm9
    replace ho27 := own_gr ho27 hm9 (by simp)
    replace ho30 := own_gr ho30 hm9 (by simp)
    clear hm9
    refine L.v (R1.pickT rfl rfl) rfl ?_
    refine L.v (R1.assign rfl) rfl ?_
    refine L.nil ?_
    refine X.seq ?_
    refine W.ret ?_
    refine X.result1 rfl (.tmp rfl .nil) ?_
    exact ⟨rfl, hm0⟩

end Go.Proofs.Ytjeodekhamdcmaa
