/- Walks: what the functions compute. -/
import Derived.Test.YtpnhihljgkohcaaGaC
import Derived.Test.YtpnhihljgkohcaaAffC
namespace Go.Proofs.Ytpnhihljgkohcaa
open Go.RowKit
set_option linter.unusedVariables false
set_option linter.unusedSimpArgs false
set_option maxRecDepth 10000

theorem atG_fit {val : List QR} {L : Nat} (hv : ∀ v, Fit (valOf val v) L) : ∀ (l : List TR) {x : Rat} {b : Nat}, (∀ t ∈ l, Fit t.c.val L) → Fit x b → Fit (atG val l x) (b + l.length * (2 * L + 1))
  | [], x, b, _, hx => by simpa [atG] using hx
  | t :: l, x, b, h, hx => by
    have h1 := (hx.add ((h t (by simp)).mul (hv t.v)))
    have h2 := atG_fit hv l (fun s hs => h s (by simp [hs])) h1
    simp only [atG, List.length_cons]
    refine h2.mono ?_
    rw [Nat.add_mul]; omega
theorem fit_ts {N : List Nat} {w : World} {v : Value} {ts : List TR} {L : Nat} (h : Lay rdT N w v ts) (hs : ∀ t ∈ ts, SmQ L t.c) : ∀ t ∈ ts, Fit t.c.val (L + 1) := fun t ht => by
  obtain ⟨i, hi, rfl⟩ := List.mem_iff_getElem.1 ht
  obtain ⟨cs, _, ds, _, vn, vd, _, h1, h2⟩ := h.elem hi
  exact fit_sm h1 h2 (hs _ ht)
theorem at_fit {M N8 : List Nat} {w : World} {vt vn vd vv : Value} {c : CR} {val : List QR} (ht : Lay rdT M w vt c.ts) (h : U32 M w vn c.k.n) (k : U32 M w vd c.k.d) (hv : Lay rdQ N8 w vv val) (hsm : SmC 10000 c) (hsv : ∀ q ∈ val, SmQ 10000 q) : Fit (atG val c.ts (QR.val c.k)) 1000000000 :=
  (atG_fit (valOf_fit hv hsv) c.ts (fit_ts ht hsm.2.2) (fit_sm h k hsm.2.1)).mono (by
    have h1 : c.ts.length * (2 * (10000 + 1) + 1) ≤ 10000 * (2 * (10000 + 1) + 1) := Nat.mul_le_mul_right _ hsm.1
    omega)

theorem c_Holds {M : List Nat} {w : World} {c : CR} {vt vn vd : Value} (ht : Lay rdT M w vt c.ts) (h : U32 M w vn c.k.n) (k : U32 M w vd c.k.d) {N8 : List Nat} {vv : Value} {val : List QR} (hv : Lay rdQ N8 w vv val) (hbd : Bd M w) (hsm : SmC 10000 c) (hsv : ∀ q ∈ val, SmQ 10000 q) :
    Ret Try.prog 24 #[.agg #[.int .i64 c.st, vt, .bool c.k.s, vn, vd], vv] w (fun r w' => r = .bool (decide (atG val c.ts (QR.val c.k) = 0)) ∧ Mod [] w w') := by
 obtain ⟨T9, t9, rfl⟩ := ht.form
 obtain ⟨A9, c9, rfl⟩ := h.form
 obtain ⟨B9, e9, rfl⟩ := k.form
 refine Ret.of (vs := [.agg #[.int .i64 c.st, .slice T9 c.ts.length t9, .bool c.k.s, .slice A9 c.k.n.length c9, .slice B9 c.k.d.length e9], vv]) (n := 9) Try.func24 rfl rfl rfl rfl ?_
 have hm0 : Mod [] w w := Mod.refl _ _
 refine W.seq <| W.region <| L.box rfl rfl ?_
 intro g2 w1 hN2
 replace ht := ht.new hN2
 replace h := h.new hN2
 replace k := k.new hN2
 replace hv := hv.new hN2
 replace hbd := hbd.new hN2
 replace hm0 := hm0.trans (hN2.mod.mono (by simp))
 have hb2 := hN2.blk
 clear hN2
 refine L.v (R1.assign rfl) rfl <| L.nil <| X.seq <| W.seq <| W.region <| L.v (R1.loadBox rfl hb2 tyG33) rfl <| L.v (R1.move rfl) rfl <| L.call rfl (c_aff_At ht h k hv hbd hsm hsv) rfl ?_
 rintro _ w2 ⟨⟨A7, c7, B7, e7, rfl, hn7, hd7⟩, hm2⟩
 replace ht := ht.gr hm2
 replace h := h.gr hm2
 replace k := k.gr hm2
 replace hv := hv.gr hm2
 replace hbd := hbd.gr hm2
 replace hm0 := hm0.trans hm2
 clear hm2
 have F7 := at_fit ht h k hv hsm hsv
 refine L.call rfl (c_rat_Zero (q := (atG val c.ts (QR.val c.k))) (rv_toL _) hn7 hd7 hbd (Nat.le_trans F7.1 (by decide)) (Nat.le_trans F7.2 (by decide))) rfl ?_
 rintro _ w3 ⟨rfl, hm3⟩
 replace hm0 := hm0.trans hm3
 clear hm3
 refine L.v (R1.assign rfl) rfl <| L.nil <| X.seq <| W.ret <| X.result1 rfl (.tmp rfl .nil) ?_
 exact ⟨rfl, hm0⟩

theorem c_Holds10 {M : List Nat} {w : World} {c : CR} {vt vn vd : Value} (ht : Lay rdT M w vt c.ts) (h : U32 M w vn c.k.n) (k : U32 M w vd c.k.d) {N8 : List Nat} {vv : Value} {val : List QR} (hv : Lay rdQ N8 w vv val) (hbd : Bd M w) (hsm : SmC 10000 c) (hsv : ∀ q ∈ val, SmQ 10000 q) :
    Ret Try.prog 14 #[.agg #[.int .i64 c.st, vt, .bool c.k.s, vn, vd], vv] w (fun r w' => r = .bool (decide (atG val c.ts (QR.val c.k) = 0)) ∧ Mod [] w w') := by
 obtain ⟨T9, t9, rfl⟩ := ht.form
 obtain ⟨A9, c9, rfl⟩ := h.form
 obtain ⟨B9, e9, rfl⟩ := k.form
 refine Ret.of (vs := [.agg #[.int .i64 c.st, .slice T9 c.ts.length t9, .bool c.k.s, .slice A9 c.k.n.length c9, .slice B9 c.k.d.length e9], vv]) (n := 9) Try.func14 rfl rfl rfl rfl ?_
 have hm0 : Mod [] w w := Mod.refl _ _
 refine W.seq <| W.region <| L.box rfl rfl ?_
 intro g2 w1 hN2
 replace ht := ht.new hN2
 replace h := h.new hN2
 replace k := k.new hN2
 replace hv := hv.new hN2
 replace hbd := hbd.new hN2
 replace hm0 := hm0.trans (hN2.mod.mono (by simp))
 have hb2 := hN2.blk
 clear hN2
 refine L.v (R1.assign rfl) rfl <| L.nil <| X.seq <| W.seq <| W.region <| L.v (R1.loadBox rfl hb2 tyG33) rfl <| L.v (R1.move rfl) rfl <| L.call rfl (c_ref8_At ht h k hv hbd hsm hsv) rfl ?_
 rintro _ w2 ⟨⟨A7, c7, B7, e7, rfl, hn7, hd7⟩, hm2⟩
 replace ht := ht.gr hm2
 replace h := h.gr hm2
 replace k := k.gr hm2
 replace hv := hv.gr hm2
 replace hbd := hbd.gr hm2
 replace hm0 := hm0.trans hm2
 clear hm2
 have F7 := at_fit ht h k hv hsm hsv
 refine L.call rfl (c_ref2_Zero (q := (atG val c.ts (QR.val c.k))) (rv_toL _) hn7 hd7 hbd (Nat.le_trans F7.1 (by decide)) (Nat.le_trans F7.2 (by decide))) rfl ?_
 rintro _ w3 ⟨rfl, hm3⟩
 replace hm0 := hm0.trans hm3
 clear hm3
 refine L.v (R1.assign rfl) rfl <| L.nil <| X.seq <| W.ret <| X.result1 rfl (.tmp rfl .nil) ?_
 exact ⟨rfl, hm0⟩

end Go.Proofs.Ytpnhihljgkohcaa
