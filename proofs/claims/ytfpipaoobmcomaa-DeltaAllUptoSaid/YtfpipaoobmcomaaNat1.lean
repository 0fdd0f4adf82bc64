/- Walks: what the functions compute. -/
import Derived.Test.YtfpipaoobmcomaaTy
import Derived.Test.YtfpipaoobmcomaaMath
import Derived.Test.YtfpipaoobmcomaaOwn
namespace Go.Proofs.Ytfpipaoobmcomaa
open Go.RowKit
set_option linter.unusedVariables false
set_option linter.unusedSimpArgs false
set_option maxRecDepth 10000

theorem trimmed_snoc {xs : List Nat} (h : xs.length ≠ 0) : trimmedB xs = decide (xs[xs.length - 1]'(by omega) ≠ 0) := by
  unfold trimmedB
  rw [List.getLast?_eq_getElem?, List.getElem?_eq_getElem (by omega)]
  rw [Bool.eq_iff_iff]; simp
theorem c_nat_Is {M : List Nat} {w : World} {v : Value} {xs : List Nat} (h : U32 M w v xs) :
    Ret Try.prog 65 #[v] w (fun r w' => r = .bool (trimmedB xs) ∧ Mod [] w w') := by
 have hmax := h.1.max; unfold maxLen at hmax
 refine Ret.of (vs := [v]) (n := 15) Try.func65 rfl rfl rfl rfl ?_
 have hm0 : Mod [] w w := Mod.refl _ _
 refine W.seq <| W.region <| L.v (R1.assign rfl) rfl <| L.nil <| X.seq <| W.seq <| W.region <| L.v (R1.move rfl) rfl <| L.v (R1.lenU rfl (by assumption) tyS33) rfl <| L.v ((R1.eq rfl rfl).asB (c := decide (xs.length = 0)) (by simp)) rfl <| L.v (R1.move rfl) rfl ?_
 cases hgd6 : decide (xs.length = 0)
 ·
  try simp only [bq, ne_eq] at hgd6
  refine L.on rfl rfl rfl (R1.move rfl) rfl <| L.on rfl rfl rfl (R1.move rfl) rfl <| L.on rfl rfl rfl (R1.lenU rfl (by assumption) tyS33) rfl <| L.on rfl rfl rfl (R1.subI (b := 1) rfl rfl (by omega) (by omega)) rfl <| L.on rfl rfl rfl (R1.atU (j := xs.length - 1) rfl rfl (by assumption) tyS33 rfl (by omega)) rfl <| L.on rfl rfl rfl (R1.ldU rfl (by assumption) tyP60 (by omega) rfl) rfl <| L.on rfl rfl rfl ((R1.ne rfl rfl).asB (c := trimmedB xs) (by rw [trimmed_snoc (by omega)]; simp)) rfl <| L.v (R1.pickF rfl rfl) rfl <| L.v (R1.assign rfl) rfl <| L.nil <| X.seq ?_
  refine W.ret <| X.result1 rfl (.tmp rfl .nil) ?_
  first
    | exact ⟨rfl, hm0⟩
    | exact ⟨by (obtain rfl : xs = [] := List.eq_nil_of_length_eq_zero hgd6); rfl, hm0⟩
 ·
  try simp only [bq, ne_eq] at hgd6
  refine L.off rfl rfl rfl rfl rfl <| L.off rfl rfl rfl rfl rfl <| L.off rfl rfl rfl rfl rfl <| L.off rfl rfl rfl rfl rfl <| L.off rfl rfl rfl rfl rfl <| L.off rfl rfl rfl rfl rfl <| L.off rfl rfl rfl rfl rfl <| L.v (R1.pickT rfl rfl) rfl <| L.v (R1.assign rfl) rfl <| L.nil <| X.seq ?_
  refine W.ret <| X.result1 rfl (.tmp rfl .nil) ?_
  first
    | exact ⟨rfl, hm0⟩
    | exact ⟨by (obtain rfl : xs = [] := List.eq_nil_of_length_eq_zero hgd6); rfl, hm0⟩

theorem c_nat_trim {M : List Nat} {w : World} {v : Value} {xs : List Nat} (h : U32 M w v xs) :
    Ret Try.prog 78 #[v] w (fun r w' => U32 M w' r (toL (val xs)) ∧ Mod [] w w') := by
 have hlt := h.2
 refine Ret.of (vs := [v]) (n := 12) Try.func78 rfl rfl rfl rfl ?_
 have hm0 : Mod [] w w := Mod.refl _ _
 refine W.seq <| W.region <| L.v (R1.assign rfl) rfl <| L.nil <| X.seq <| W.seq <| W.block <| W.loop (ι := Nat × Value) (fun (m, u) => [(0, u)]) (fun (m, u) w_ => m ≤ xs.length ∧ U32 M w_ u (xs.take m) ∧ val (xs.take m) = val xs ∧ Mod [] w w_) (fun (m, u) => m) (xs.length, v) ?_ ?_ ?_
 · exact ⟨rfl, trivial⟩
 ·
  exact ⟨Nat.le_refl _, by rw [List.take_length]; exact h, by rw [List.take_length], hm0⟩
 ·
  rintro ⟨m, u⟩ w1 ⟨hm, h, hv, hm0⟩
  have hlen : (xs.take m).length = m := by rw [List.length_take]; omega
  have hmax := h.1.max; unfold maxLen at hmax
  refine W.seq <| W.seq <| W.region <| L.v (R1.move rfl) rfl <| L.call rfl (c_nat_Is (by assumption)) rfl ?_
  rintro _ w2 ⟨rfl, hm2⟩
  replace h := h.gr hm2
  replace hm0 := hm0.trans hm2
  clear hm2
  refine L.v (R1.not rfl) rfl <| L.nil <| X.seq <| W.cond rfl ?_ ?_
  ·
   intro hc5
   simp only [Bool.not_eq_true', Bool.not_eq_false'] at hc5
   have hm1 : 0 < m := Nat.pos_of_ne_zero fun h0 => by subst h0; simp [trimmedB] at hc5
   have hlast : xs[m - 1]'(by omega) = 0 := by
       have h1 := trimmed_snoc (xs := xs.take m) (by omega)
       rw [hc5] at h1
       simpa [hlen] using h1
   have hval : val (xs.take (m - 1)) = val xs := val_take_zero (by omega) hlast (by rw [Nat.sub_add_cancel hm1]; exact hv)
   refine W.skip <| X.seq <| W.block ?_
   obtain ⟨A, cap, rfl⟩ := h.form
   have hcut : U32 M w2 (cutS A cap 0 (m - 1) 1) (xs.take (m - 1)) := by
       have h1 := h.1.cutH (k := m - 1) (by omega) rfl
       refine ⟨?_, fun x hx => hlt x (List.mem_of_mem_take hx)⟩
       have e1 : (xs.take (m - 1)).length = m - 1 := by rw [List.length_take]; omega
       rw [e1]
       have e2 : ((xs.take m).map fun (x : Nat) => Value.int .u32 (x : Int)).take ((m - 1) * 1) = (xs.take (m - 1)).map fun (x : Nat) => Value.int .u32 (x : Int) := by
         rw [← List.map_take, List.take_take]; congr 2; omega
       rw [← e2]; exact h1
   have hcap := h.1.capOf rfl
   rw [hlen] at hcap
   refine W.region <| L.v (R1.move rfl) rfl <| L.v (R1.move rfl) rfl <| L.v (R1.len rfl tyS33) rfl <| L.v ((R1.sub rfl rfl).as (j := ((m - 1 : Nat) : Int)) (by rw [wrap_i64 (by omega) (by omega)]; omega)) rfl <| L.v ((R1.sliceH rfl rfl tyS33 (by omega) (by omega)).asV (v := cutS A cap 0 (m - 1) 1) (by rw [Int.toNat_natCast])) rfl <| L.v (R1.assign rfl) rfl <| L.nil <| X.blockEnd <| X.next (m - 1, cutS A cap 0 (m - 1) 1) ?_ ?_ ?_
   · exact ⟨rfl, trivial⟩
   ·
    refine ⟨by omega, ?_, ?_, hm0⟩
    · exact hcut
    · exact hval
   · first | omega | (dsimp only; omega)
  ·
   intro hc5
   simp only [Bool.not_eq_true', Bool.not_eq_false'] at hc5
   have hres : xs.take m = toL (val xs) := by
       have h1 := toL_val (xs.take m) (fun x hx => hlt x (List.mem_of_mem_take hx)) hc5
       rw [hv] at h1; exact h1.symm
   refine W.exit <| X.thenExit <| X.nextExit <| X.here <| X.seq <| W.seq <| W.region <| L.v (R1.move rfl) rfl <| L.v (R1.assign rfl) rfl <| L.nil <| X.seq ?_
   refine W.ret <| X.result1 rfl (.tmp rfl .nil) ?_
   exact ⟨by rw [← hres]; exact h, hm0⟩

theorem c_CloneU {M N9 : List Nat} {w : World} {v : Value} {xs : List Nat} (h : U32 N9 w v xs) (hbd : Bd M w) (hl : xs.length ≤ 1099511627776) :
    Ret Try.prog 84 #[v] w (fun r w' => U32 M w' r xs ∧ Mod [] w w') := by
 obtain ⟨A, c, rfl⟩ := h.form
 have hx := h.2
 have hbd0 := hbd
 refine Ret.of (vs := [.slice A xs.length c]) (n := 8) Try.func84 rfl rfl rfl rfl ?_
 have hm0 : Mod [] w w := Mod.refl _ _
 refine W.seq <| W.region <| L.v (R1.assign rfl) rfl <| L.nil <| X.seq <| W.seq <| W.seq <| W.region <| L.v (R1.move rfl) rfl <| L.v (R1.nilSl rfl tyS33) rfl <| L.nil ?_
 refine X.seq <| W.cond rfl ?_ ?_
 ·
  intro hc4
  simp only [Option.isNone_iff_eq_none, Option.isNone_eq_false_iff] at hc4
  subst hc4
  have h0 : xs = [] := by
      obtain ⟨A, cap, e1, e2, _, _, e5, _⟩ := h.1
      injection e1 with e1 _ e3
      have := e5 e1.symm
      exact List.eq_nil_of_length_eq_zero (by omega)
  subst h0
  refine W.seq <| W.region <| L.v (R1.assign rfl) rfl <| L.nil <| X.seq <| W.ret <| X.thenRet <| X.result1 rfl (.tmp rfl .nil) ?_
  exact ⟨U32.nil, hm0⟩
 ·
  intro hc4
  simp only [Option.isNone_iff_eq_none, Option.isNone_eq_false_iff] at hc4
  refine W.skip <| X.seq <| W.seq <| W.region <| L.buildEmpty tyS33 rfl ?_
  intro g5 w1 hN5
  replace h := h.new hN5
  have hge_g5 := New.ge hN5 hm0.size
  replace hm0 := hm0.trans (hN5.mod.mono (by simp))
  have hb5 := hN5.blk
  clear hN5
  have hown : World.ownsRow w1 w.heap.size 60 1 (.slice (some ⟨g5, 0, none⟩) 0 0) 0 [] := ⟨rfl, .inr ⟨g5, 0, #[], rfl, hge_g5, hb5, Nat.le_refl _, by decide, rfl, rfl⟩⟩
  clear hb5
  refine L.v (R1.move rfl) rfl <| L.append rfl rfl hown h.1 (by simp [Value.oneCell']) tyS33 tyZ60 (by omega) (by unfold maxLen; omega) hm0.size rfl ?_
  intro v7 w2 ho7' hG7
  replace hm0 := hm0.grew hG7 (fun g hg => (own_ge hown g hg).1)
  clear hown
  have ho7 := ho7'; clear ho7'
  obtain ⟨A7, c7, rfl⟩ := own_form ho7
  refine L.v (R1.assign rfl) rfl <| L.nil <| X.seq <| W.ret <| X.result1 rfl (.tmp rfl .nil) <| ⟨⟨(Sl.of_own ho7 (fun g hg => hbd0.not (own_ge ho7 g hg).1)).congr (by simp) (by simp), hx⟩, hm0⟩

theorem c_nat_Trim {M N9 : List Nat} {w : World} {v : Value} {xs : List Nat} (h : U32 N9 w v xs) (hbd : Bd M w) (hl : xs.length ≤ 1099511627776) :
    Ret Try.prog 79 #[v] w (fun r w' => U32 M w' r (toL (val xs)) ∧ Mod [] w w') := by
 have hle := toL_length_val xs h.2
 refine Ret.of (vs := [v]) (n := 6) Try.func79 rfl rfl rfl rfl ?_
 have hm0 : Mod [] w w := Mod.refl _ _
 refine W.seq <| W.region <| L.v (R1.assign rfl) rfl <| L.nil <| X.seq <| W.seq <| W.region <| L.v (R1.move rfl) rfl <| L.call rfl (c_nat_trim (by assumption)) rfl ?_
 rintro v4 w1 ⟨h4, hm1⟩
 replace h := h.gr hm1
 replace hbd := hbd.gr hm1
 replace hm0 := hm0.trans hm1
 clear hm1
 refine L.call rfl (c_CloneU (by assumption) (by assumption) (by omega)) rfl ?_
 rintro v5 w2 ⟨h5, hm2⟩
 replace hm0 := hm0.trans hm2
 clear hm2
 refine L.v (R1.assign rfl) rfl <| L.nil <| X.seq <| W.ret <| X.result1 rfl (.tmp rfl .nil) ?_
 exact ⟨h5, hm0⟩

end Go.Proofs.Ytfpipaoobmcomaa
