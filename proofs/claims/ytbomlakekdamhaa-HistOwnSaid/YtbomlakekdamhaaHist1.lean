/- Walks: what the functions compute. -/
import Derived.Test.YtbomlakekdamhaaTy
import Derived.Test.YtbomlakekdamhaaOwn
namespace Go.Proofs.Ytbomlakekdamhaa
open Go.RowKit
set_option linter.unusedVariables false
set_option linter.unusedSimpArgs false
set_option maxRecDepth 10000

theorem built_H1 (A : Option Addr) (n c : Nat) : Try.prog.built 24 [(0, .slice A n c)] = some #[.slice A n c, .slice none 0 0] := by kernel_rfl
theorem built_H2 (A B : Option Addr) (n c m d : Nat) : Try.prog.built 24 [(0, .slice A n c), (1, .slice B m d)] = some #[.slice A n c, .slice B m d] := by kernel_rfl
theorem built_H0 : Try.prog.built 24 [] = some #[.slice none 0 0, .slice none 0 0] := by kernel_rfl
theorem built_R1 (A : Option Addr) (n c : Nat) : Try.prog.built 32 [(0, .slice A n c)] = some #[.slice A n c, .slice none 0 0] := by kernel_rfl
def lastN (n : Nat) (l : List ByteArray) : List ByteArray := l.drop (l.length - n)
theorem Strs.lit {M : List Nat} {w : World} {v : Value} {ss : List ByteArray} (h : Strs M w v ss) : ∃ A c, v = .slice A ss.length c := h.form

theorem c_CloneS {M : List Nat} {w : World} {v : Value} {ss : List ByteArray} (h : Strs M w v ss) (hl : ss.length ≤ 8796093022208) :
    Ret Try.prog 16 #[v] w (fun r w' => w'.ownsRow w.heap.size 9 1 r ss.length (ss.map Value.string) ∧ Mod [] w w') := by
  obtain ⟨A, c, rfl⟩ := h.form
  refine Ret.of (vs := [.slice A ss.length c]) (n := 8) Try.func16 rfl rfl rfl rfl ?_
  have hm0 : Mod [] w w := Mod.refl _ _
  refine W.seq ?_
  refine W.region ?_
  refine L.v (R1.assign rfl) rfl ?_
  refine L.nil ?_
  refine X.seq ?_
  refine W.seq ?_
  refine W.seq ?_
  refine W.region ?_
  refine L.v (R1.move rfl) rfl ?_
  refine L.v (R1.nilSl rfl tyS22) rfl ?_
  refine L.nil ?_
  refine X.seq ?_
  refine W.cond rfl ?_ ?_
  ·
    intro hc4
    simp only [Option.isNone_iff_eq_none, Option.isNone_eq_false_iff] at hc4
    subst hc4
    have h0 : ss = [] := by
        obtain ⟨A, cap, e1, e2, _, _, e5, _⟩ := h
        injection e1 with e1 _ e3
        have := e5 e1.symm
        exact List.eq_nil_of_length_eq_zero (by omega)
    subst h0
    refine W.seq ?_
    refine W.region ?_
    refine L.v (R1.assign rfl) rfl ?_
    refine L.nil ?_
    refine X.seq ?_
    refine W.ret ?_
    refine X.thenRet ?_
    refine X.result1 rfl (.tmp rfl .nil) ?_
    exact ⟨own_nil _ _ _ _, hm0⟩
  ·
    intro hc4
    simp only [Option.isNone_iff_eq_none, Option.isNone_eq_false_iff] at hc4
    refine W.skip ?_
    refine X.seq ?_
    refine W.seq ?_
    refine W.region ?_
    refine L.buildEmpty tyS22 rfl ?_
    intro g5 w1 hN5
    replace h := h.new hN5
    have hge_g5 := New.ge hN5 hm0.size
    replace hm0 := hm0.trans (hN5.mod.mono (by simp))
    have hb5 := hN5.blk
    clear hN5
    have hown : World.ownsRow w1 w.heap.size 9 1 (.slice (some ⟨g5, 0, none⟩) 0 0) 0 [] := ⟨rfl, .inr ⟨g5, 0, #[], rfl, hge_g5, hb5, Nat.le_refl _, by decide, rfl, rfl⟩⟩
    clear hb5
    refine L.v (R1.move rfl) rfl ?_
    refine L.append rfl rfl hown h Strs.one tyS22 tyZ9 (by omega) (by unfold maxLen; omega) hm0.size rfl ?_
    intro v7 w2 ho7' hG7
    replace h := h.grew hG7
    replace hm0 := hm0.grew hG7 (fun g hg => (own_ge hown g hg).1)
    clear hown
    have ho7 := ho7'; clear ho7'
    obtain ⟨A7, c7, rfl⟩ := own_form ho7
    refine L.v (R1.assign rfl) rfl ?_
    refine L.nil ?_
    refine X.seq ?_
    refine W.ret ?_
    refine X.result1 rfl (.tmp rfl .nil) ?_
    exact ⟨by simpa using ho7, hm0⟩


theorem c_CloneR {M : List Nat} {w : World} {v : Value} {ss : List ByteArray} (h : Strs M w v ss) (hbd : Bd M w) (hl : ss.length ≤ 8796093022208) :
    Ret Try.prog 16 #[v] w (fun r w' => Strs M w' r ss ∧ Mod [] w w') :=
  (c_CloneS h hl).mono fun r w' ⟨ho, hm⟩ => ⟨Strs.of_own ho (fun g hg => hbd.not (own_ge ho g hg).1), hm⟩
theorem c_Push {M M2 : List Nat} {w : World} {vp vf : Value} {ps : List ByteArray} {now : ByteArray} (hp : Strs M w vp ps) (hbd : Bd M2 w) (hl : ps.length ≤ 8796093022000) :
    Ret Try.prog 7 #[.agg #[vp, vf], .string now] w (fun r w' => ∃ A c, r = .agg #[.slice A (lastN 32 (ps ++ [now])).length c, .slice none 0 0] ∧ Strs M2 w' (.slice A (lastN 32 (ps ++ [now])).length c) (lastN 32 (ps ++ [now])) ∧ Mod [] w w') := by
  refine Ret.of (vs := [.agg #[vp, vf], .string now]) (n := 19) Try.func7 rfl rfl rfl rfl ?_
  have hm0 : Mod [] w w := Mod.refl _ _
  refine W.seq ?_
  refine W.region ?_
  refine L.box rfl rfl ?_
  intro g2 w1 hN2
  replace hp := hp.new hN2
  have hge_g2 := New.ge hN2 hm0.size
  replace hm0 := hm0.trans (hN2.mod.mono (by simp))
  have hb2 := hN2.blk
  clear hN2
  refine L.alloc tyZ24 rfl ?_
  intro g4 w2 hN4
  replace hp := hp.new hN4
  have hge_g4 := New.ge hN4 hm0.size
  replace hm0 := hm0.trans (hN4.mod.mono (by simp))
  have hne_g2_g4 := hb2.ne_ hN4
  replace hb2 := Blk.gr hb2 hN4.mod
  have hb4 := hN4.blk
  clear hN4
  refine L.nil ?_
  refine X.seq ?_
  refine W.seq ?_
  refine W.region ?_
  refine L.v (R1.fieldAt rfl tyF24_0) rfl ?_
  refine L.v (R1.loadFld rfl hb2 rfl tyP22) rfl ?_
  refine L.call rfl (c_CloneS (by assumption) (by omega)) rfl ?_
  rintro v8 w3 ⟨ho8, hm3⟩
  replace hp := hp.ownd ho8 hm3
  have hno_ho8_g2 := own_ne_old ho8 hb2
  have hno_ho8_g4 := own_ne_old ho8 hb4
  replace ho8 := own_less ho8 hm0.size
  replace hm0 := hm0.trans hm3
  replace hb2 := Blk.gr hb2 hm3
  replace hb4 := Blk.gr hb4 hm3
  clear hm3
  obtain ⟨A8, c8, rfl⟩ := own_form ho8
  refine L.v (R1.move rfl) rfl ?_
  refine L.build1 rfl rfl tyS22 tyZ9 rfl ?_
  intro g10 w4 hN10
  replace hp := hp.gr hN10.mod
  replace hm0 := hm0.trans hN10.mod
  replace hb2 := Blk.gr hb2 hN10.mod
  replace hb4 := Blk.gr hb4 hN10.mod
  replace ho8 := own_gr ho8 hN10.mod (by simp)
  have hrow : Sl [] w4 1 (.slice (some ⟨g10, 0, none⟩) 1 1) 1 [.string now] := Sl.row1 hN10.blk (by simp)
  clear hN10
  refine L.append rfl rfl ho8 hrow (by simp [Value.oneCell']) tyS22 tyZ9 (by omega) (by unfold maxLen; omega) hm0.size rfl ?_
  intro v11 w5 ho11' hG11
  replace hp := hp.grew hG11
  replace hm0 := hm0.grew hG11 (fun g hg => (own_ge ho8 g hg).1)
  have hno_ho11_g2 := hG11.ne hno_ho8_g2 hb2
  replace hb2 := Blk.grew hb2 hG11 hno_ho8_g2
  have hno_ho11_g4 := hG11.ne hno_ho8_g4 hb4
  replace hb4 := Blk.grew hb4 hG11 hno_ho8_g4
  clear ho8
  have ho11 := ho11'; clear ho11'
  obtain ⟨A11, c11, rfl⟩ := own_form ho11
  refine L.v (R1.assign rfl) rfl ?_
  refine L.nil ?_
  refine X.seq ?_
  refine W.seq ?_
  refine W.region ?_
  refine L.v (R1.move rfl) rfl ?_
  refine L.v (R1.move rfl) rfl ?_
  refine L.v (R1.len rfl tyS22) rfl ?_
  refine L.v ((R1.sub rfl rfl).as (j := (ps.length : Int) + 1 - 32) (by rw [wrap_i64 (by omega) (by omega)]; omega)) rfl ?_
  refine L.v ((R1.maxI rfl rfl).as (j := ((ps.length + 1 - 32 : Nat) : Int)) (by omega)) rfl ?_
  refine L.v ((R1.sliceL rfl rfl tyS22 (by omega) (by omega)).asV (v := cutS A11 c11 (ps.length + 1 - 32) (ps.length + 1) 1) (by rw [Int.toNat_natCast])) rfl ?_
  refine L.v (R1.build rfl (built_H1 _ _ _)) rfl ?_
  refine L.storeBox rfl rfl hb4 rfl rfl tyG24 ?_
  intro w6 hb4' hm6
  replace hp := hp.mod hm6 (by simp)
  replace hm0 := hm0.old1 hm6 hge_g4
  replace hb2 := Blk.far hb2 hm6 (by first | exact hne_g2_g4 | exact (hne_g4_g2).symm)
  replace ho11 := own_far ho11 hm6 hno_ho11_g4
  clear hm6
  replace hb4 := hb4'; clear hb4'
  refine L.nil ?_
  refine X.seq ?_
  refine W.ret ?_
  have hs : Strs M2 w6 (cutS A11 c11 (ps.length + 1 - 32) (ps.length + 1) 1) (lastN 32 (ps ++ [now])) := by
      have h1 := (Sl.of_own (M := M2) ho11 (fun g hg => hbd.not (own_ge ho11 g hg).1)).cutL (l := ps.length + 1 - 32) (by omega) rfl
      refine h1.congr (by simp [lastN]) (by simp [lastN, List.map_drop])
  refine X.result1 rfl (.cell rfl (loadVar_blk hb4 tyG24) .nil) ?_
  have hlen : (lastN 32 (ps ++ [now])).length = ps.length + 1 - (ps.length + 1 - 32) := by simp [lastN]
  rw [hlen]
  exact ⟨_, _, rfl, hs, hm0⟩


theorem c_PushQ {M M2 : List Nat} {w : World} {vp vf : Value} {ps q : List ByteArray} {now : ByteArray} (hq : lastN 32 (ps ++ [now]) = q) (hp : Strs M w vp ps) (hbd : Bd M2 w) (hl : ps.length ≤ 8796093022000) :
    Ret Try.prog 7 #[.agg #[vp, vf], .string now] w (fun r w' => ∃ A c, r = .agg #[.slice A q.length c, .slice none 0 0] ∧ Strs M2 w' (.slice A q.length c) q ∧ Mod [] w w') := by
  subst hq; exact c_Push hp hbd hl
theorem c_step {M : List Nat} {w : World} {va vb : Value} {ps ts : List ByteArray} {p now : ByteArray} (ha : Strs M w va (ps ++ [p])) (hb : Strs M w vb ts) (hbd : Bd M w) (hl1 : ps.length ≤ 8796093022000) (hl2 : ts.length ≤ 8796093022000) :
    Ret Try.prog 17 #[va, vb, .string now] w (fun r w' => ∃ A c B d, r = .tuple #[.slice A ps.length c, .slice B (ts.length + 1) d, .string p] ∧ Strs M w' (.slice A ps.length c) ps ∧ Strs M w' (.slice B (ts.length + 1) d) (ts ++ [now]) ∧ Mod [] w w') := by
  obtain ⟨A, c, rfl⟩ := ha.form
  have hcap := Sl.capOf ha rfl
  simp only [List.length_append, List.length_cons, List.length_nil] at hcap
  have hbd0 := hbd
  refine Ret.of (vs := [.slice A (ps ++ [p]).length c, vb, .string now]) (n := 26) Try.func17 rfl rfl rfl rfl ?_
  have hm0 : Mod [] w w := Mod.refl _ _
  refine W.seq ?_
  refine W.region ?_
  refine L.v (R1.assign rfl) rfl ?_
  refine L.v (R1.assign rfl) rfl ?_
  refine L.v (R1.assign rfl) rfl ?_
  refine L.nil ?_
  refine X.seq ?_
  refine W.seq ?_
  refine W.region ?_
  refine L.v (R1.move rfl) rfl ?_
  refine L.v (R1.lenStrs rfl (by assumption) tyS22) rfl ?_
  refine L.v ((R1.subI (b := 1) rfl rfl (by simp) (by simp; omega)).as (j := ((ps.length : Nat) : Int)) (by simp)) rfl ?_
  refine L.v (R1.assign rfl) rfl ?_
  refine L.nil ?_
  refine X.seq ?_
  refine W.seq ?_
  refine W.drawW (T := []) rfl (by decide +kernel) (NoHang.then NoHang.post) (fun w1 hm1 => ?_)
  replace ha := ha.gr hm1
  replace hb := hb.gr hm1
  replace hbd := hbd.gr hm1
  replace hm0 := hm0.trans hm1
  have hS1 : Mod [] w1 w1 := Mod.refl _ _
  clear hm1
  refine D.take 0 rfl (by decide +kernel) (fun w_ hS => (R1.move rfl)) hS1 rfl ?_
  refine D.take 1 rfl (by decide +kernel) (fun w_ hS => (R1.move rfl)) hS1 rfl ?_
  refine D.take 2 rfl (by decide +kernel) (fun w_ hS => ((R1.sliceH rfl rfl tyS22 (by omega) (by omega)).asV (v := cutS A c 0 ps.length 1) (by rw [Int.toNat_natCast]))) hS1 rfl ?_
  have hcut : Strs M w1 (cutS A c 0 ps.length 1) ps := by
      have h1 := Sl.cutH ha (k := ps.length) (by simp) rfl
      exact h1.congr rfl (by simp)
  refine D.take 4 rfl (by decide +kernel) (fun w_ hS => (R1.move rfl)) hS1 rfl ?_
  refine D.take 6 rfl (by decide +kernel) (fun w_ hS => (R1.move rfl)) hS1 rfl ?_
  refine D.take 9 rfl (by decide +kernel) (fun w_ hS => (R1.move rfl)) hS1 rfl ?_
  refine D.take 10 rfl (by decide +kernel) (fun w_ hS => (R1.move rfl)) hS1 rfl ?_
  refine D.take 11 rfl (by decide +kernel) (fun w_ hS => (R1.atStrs (j := ps.length) rfl rfl (Strs.gr (by assumption) hS) tyS22 rfl (by simp))) hS1 rfl ?_
  refine D.take 12 rfl (by decide +kernel) (fun w_ hS => ((R1.ldStrs rfl (Strs.gr (by assumption) hS) tyP9 (by simp) rfl).asV (v := .string p) (by simp))) hS1 rfl ?_
  refine D.many (rs := [3, 7]) (by decide +kernel) rfl ?_
  intro i_ hi_
  simp only [List.mem_cons, List.not_mem_nil, or_false] at hi_
  rcases hi_ with rfl | rfl
  ·
    refine ⟨_, rfl, fun hX => ?_⟩
    refine L.call rfl (c_CloneR (by assumption) (by assumption) (by omega)) rfl ?_
    rintro v16 w2 ⟨h16, hm2⟩
    replace ha := ha.gr hm2
    replace hb := hb.gr hm2
    replace hbd := hbd.gr hm2
    replace hm0 := hm0.trans hm2
    replace hcut := hcut.gr hm2
    replace hS1 := hS1.trans hm2
    clear hm2
    obtain ⟨A16, c16, rfl⟩ := h16.form
    refine L.nil (hX _ _ ⟨.inr hS1, ?_⟩)
    refine D.many (rs := [5, 7]) (by decide +kernel) rfl ?_
    intro i_ hi_
    simp only [List.mem_cons, List.not_mem_nil, or_false] at hi_
    rcases hi_ with rfl | rfl
    ·
      refine ⟨_, rfl, fun hX => ?_⟩
      refine L.call rfl (c_CloneS (by assumption) (by omega)) rfl ?_
      rintro v18 w3 ⟨ho18, hm3⟩
      have hge_ho18 := fun g hg => Nat.le_trans hS1.size (own_ge ho18 g hg).1
      replace ha := ha.ownd ho18 hm3
      replace hb := hb.ownd ho18 hm3
      replace hbd := hbd.ownd ho18 hm3
      replace hcut := hcut.ownd ho18 hm3
      replace h16 := h16.ownd ho18 hm3
      replace ho18 := own_less ho18 hm0.size
      replace hm0 := hm0.trans hm3
      replace hS1 := hS1.trans hm3
      clear hm3
      obtain ⟨A18, c18, rfl⟩ := own_form ho18
      refine L.nil (hX _ _ ⟨.inr hS1, ?_⟩)
      refine D.one 7 rfl (by decide +kernel) (fun hX => ?_)
      refine L.build1 rfl rfl tyS22 tyZ9 rfl ?_
      intro g20 w4 hN20
      replace ha := ha.gr hN20.mod
      replace hb := hb.gr hN20.mod
      replace hbd := hbd.gr hN20.mod
      replace hm0 := hm0.trans hN20.mod
      replace hcut := hcut.gr hN20.mod
      replace h16 := h16.gr hN20.mod
      replace ho18 := own_gr ho18 hN20.mod (by simp)
      replace hS1 := hS1.trans hN20.mod
      have hrow : Sl [] w4 1 (.slice (some ⟨g20, 0, none⟩) 1 1) 1 [.string now] := Sl.row1 hN20.blk (by simp)
      clear hN20
      refine L.nil (hX _ _ ⟨.inr hS1, ?_⟩)
      refine D.one 8 rfl (by decide +kernel) (fun hX => ?_)
      refine L.append rfl rfl ho18 hrow (by simp [Value.oneCell']) tyS22 tyZ9 (by omega) (by unfold maxLen; omega) hm0.size rfl ?_
      intro v21 w5 ho21' hG21
      replace ha := ha.grew hG21
      replace hb := hb.grew hG21
      replace hbd := hbd.grew hG21
      replace hm0 := hm0.grew hG21 (fun g hg => (own_ge ho18 g hg).1)
      replace hcut := hcut.grew hG21
      replace h16 := h16.grew hG21
      clear ho18
      have ho21 := ho21'; clear ho21'
      obtain ⟨A21, c21, rfl⟩ := own_form ho21
      replace hS1 := hS1.grew hG21 (hge_ho18)
      refine L.nil (hX _ _ ⟨.inr hS1, ?_⟩)
      refine D.take 13 rfl (by decide +kernel) (fun w_ hS => (R1.assign rfl)) hS1 rfl ?_
      refine D.take 14 rfl (by decide +kernel) (fun w_ hS => (R1.assign rfl)) hS1 rfl ?_
      refine D.take 15 rfl (by decide +kernel) (fun w_ hS => (R1.assign rfl)) hS1 rfl ?_
      refine D.done (by decide +kernel) ?_ _
      refine X.seq ?_
      refine W.ret ?_
      have hB : Strs M w5 (.slice A21 (ts.length + 1) c21) (ts ++ [now]) := (Sl.of_own ho21 (fun g hg => hbd0.not (own_ge ho21 g hg).1)).congr (by simp) (by simp)
      refine X.result3 rfl (.tmp rfl (.tmp rfl (.tmp rfl .nil))) ?_
      exact ⟨_, _, _, _, rfl, h16.sub (by intro g hg; simp [hg]), hB, hm0⟩
    ·
      refine ⟨_, rfl, fun hX => ?_⟩
      refine L.build1 rfl rfl tyS22 tyZ9 rfl ?_
      intro g20 w6 hN20
      replace ha := ha.gr hN20.mod
      replace hb := hb.gr hN20.mod
      replace hbd := hbd.gr hN20.mod
      replace hm0 := hm0.trans hN20.mod
      replace hcut := hcut.gr hN20.mod
      replace h16 := h16.gr hN20.mod
      replace hS1 := hS1.trans hN20.mod
      have hrow : Sl [] w6 1 (.slice (some ⟨g20, 0, none⟩) 1 1) 1 [.string now] := Sl.row1 hN20.blk (by simp)
      clear hN20
      refine L.nil (hX _ _ ⟨.inr hS1, ?_⟩)
      refine D.one 5 rfl (by decide +kernel) (fun hX => ?_)
      refine L.call rfl (c_CloneS (by assumption) (by omega)) rfl ?_
      rintro v18 w7 ⟨ho18, hm7⟩
      have hge_ho18 := fun g hg => Nat.le_trans hS1.size (own_ge ho18 g hg).1
      replace ha := ha.ownd ho18 hm7
      replace hb := hb.ownd ho18 hm7
      replace hbd := hbd.ownd ho18 hm7
      replace hcut := hcut.ownd ho18 hm7
      replace h16 := h16.ownd ho18 hm7
      replace ho18 := own_less ho18 hm0.size
      replace hm0 := hm0.trans hm7
      replace hrow := hrow.gr (by decide) hm7
      replace hS1 := hS1.trans hm7
      clear hm7
      obtain ⟨A18, c18, rfl⟩ := own_form ho18
      refine L.nil (hX _ _ ⟨.inr hS1, ?_⟩)
      refine D.one 8 rfl (by decide +kernel) (fun hX => ?_)
      refine L.append rfl rfl ho18 hrow (by simp [Value.oneCell']) tyS22 tyZ9 (by omega) (by unfold maxLen; omega) hm0.size rfl ?_
      intro v21 w8 ho21' hG21
      replace ha := ha.grew hG21
      replace hb := hb.grew hG21
      replace hbd := hbd.grew hG21
      replace hm0 := hm0.grew hG21 (fun g hg => (own_ge ho18 g hg).1)
      replace hcut := hcut.grew hG21
      replace h16 := h16.grew hG21
      clear ho18
      have ho21 := ho21'; clear ho21'
      obtain ⟨A21, c21, rfl⟩ := own_form ho21
      replace hS1 := hS1.grew hG21 (hge_ho18)
      refine L.nil (hX _ _ ⟨.inr hS1, ?_⟩)
      refine D.take 13 rfl (by decide +kernel) (fun w_ hS => (R1.assign rfl)) hS1 rfl ?_
      refine D.take 14 rfl (by decide +kernel) (fun w_ hS => (R1.assign rfl)) hS1 rfl ?_
      refine D.take 15 rfl (by decide +kernel) (fun w_ hS => (R1.assign rfl)) hS1 rfl ?_
      refine D.done (by decide +kernel) ?_ _
      refine X.seq ?_
      refine W.ret ?_
      have hB : Strs M w8 (.slice A21 (ts.length + 1) c21) (ts ++ [now]) := (Sl.of_own ho21 (fun g hg => hbd0.not (own_ge ho21 g hg).1)).congr (by simp) (by simp)
      refine X.result3 rfl (.tmp rfl (.tmp rfl (.tmp rfl .nil))) ?_
      exact ⟨_, _, _, _, rfl, h16.sub (by intro g hg; simp [hg]), hB, hm0⟩
  ·
    refine ⟨_, rfl, fun hX => ?_⟩
    refine L.build1 rfl rfl tyS22 tyZ9 rfl ?_
    intro g20 w9 hN20
    replace ha := ha.gr hN20.mod
    replace hb := hb.gr hN20.mod
    replace hbd := hbd.gr hN20.mod
    replace hm0 := hm0.trans hN20.mod
    replace hcut := hcut.gr hN20.mod
    replace hS1 := hS1.trans hN20.mod
    have hrow : Sl [] w9 1 (.slice (some ⟨g20, 0, none⟩) 1 1) 1 [.string now] := Sl.row1 hN20.blk (by simp)
    clear hN20
    refine L.nil (hX _ _ ⟨.inr hS1, ?_⟩)
    refine D.one 3 rfl (by decide +kernel) (fun hX => ?_)
    refine L.call rfl (c_CloneR (by assumption) (by assumption) (by omega)) rfl ?_
    rintro v16 w10 ⟨h16, hm10⟩
    replace ha := ha.gr hm10
    replace hb := hb.gr hm10
    replace hbd := hbd.gr hm10
    replace hm0 := hm0.trans hm10
    replace hcut := hcut.gr hm10
    replace hrow := hrow.gr (by decide) hm10
    replace hS1 := hS1.trans hm10
    clear hm10
    obtain ⟨A16, c16, rfl⟩ := h16.form
    refine L.nil (hX _ _ ⟨.inr hS1, ?_⟩)
    refine D.one 5 rfl (by decide +kernel) (fun hX => ?_)
    refine L.call rfl (c_CloneS (by assumption) (by omega)) rfl ?_
    rintro v18 w11 ⟨ho18, hm11⟩
    have hge_ho18 := fun g hg => Nat.le_trans hS1.size (own_ge ho18 g hg).1
    replace ha := ha.ownd ho18 hm11
    replace hb := hb.ownd ho18 hm11
    replace hbd := hbd.ownd ho18 hm11
    replace hcut := hcut.ownd ho18 hm11
    replace h16 := h16.ownd ho18 hm11
    replace ho18 := own_less ho18 hm0.size
    replace hm0 := hm0.trans hm11
    replace hrow := hrow.gr (by decide) hm11
    replace hS1 := hS1.trans hm11
    clear hm11
    obtain ⟨A18, c18, rfl⟩ := own_form ho18
    refine L.nil (hX _ _ ⟨.inr hS1, ?_⟩)
    refine D.one 8 rfl (by decide +kernel) (fun hX => ?_)
    refine L.append rfl rfl ho18 hrow (by simp [Value.oneCell']) tyS22 tyZ9 (by omega) (by unfold maxLen; omega) hm0.size rfl ?_
    intro v21 w12 ho21' hG21
    replace ha := ha.grew hG21
    replace hb := hb.grew hG21
    replace hbd := hbd.grew hG21
    replace hm0 := hm0.grew hG21 (fun g hg => (own_ge ho18 g hg).1)
    replace hcut := hcut.grew hG21
    replace h16 := h16.grew hG21
    clear ho18
    have ho21 := ho21'; clear ho21'
    obtain ⟨A21, c21, rfl⟩ := own_form ho21
    replace hS1 := hS1.grew hG21 (hge_ho18)
    refine L.nil (hX _ _ ⟨.inr hS1, ?_⟩)
    refine D.take 13 rfl (by decide +kernel) (fun w_ hS => (R1.assign rfl)) hS1 rfl ?_
    refine D.take 14 rfl (by decide +kernel) (fun w_ hS => (R1.assign rfl)) hS1 rfl ?_
    refine D.take 15 rfl (by decide +kernel) (fun w_ hS => (R1.assign rfl)) hS1 rfl ?_
    refine D.done (by decide +kernel) ?_ _
    refine X.seq ?_
    refine W.ret ?_
    have hB : Strs M w12 (.slice A21 (ts.length + 1) c21) (ts ++ [now]) := (Sl.of_own ho21 (fun g hg => hbd0.not (own_ge ho21 g hg).1)).congr (by simp) (by simp)
    refine X.result3 rfl (.tmp rfl (.tmp rfl (.tmp rfl .nil))) ?_
    exact ⟨_, _, _, _, rfl, h16.sub (by intro g hg; simp [hg]), hB, hm0⟩

theorem c_Undo0 {M : List Nat} {w : World} {vp vf : Value} {ps fs : List ByteArray} {now : ByteArray} (hp : Strs M w vp ps) (hf : Strs M w vf fs) (h0 : ps = []) (hbd : Bd M w) (hl1 : ps.length ≤ 8796093022000) (hl2 : fs.length ≤ 8796093022000) :
    Ret Try.prog 9 #[.agg #[vp, vf], .string now] w (fun r w' => ∃ A c B d, r = .tuple #[.agg #[.slice A ps.length c, .slice B fs.length d], .string ⟨#[]⟩, .bool false] ∧ Strs M w' (.slice A ps.length c) ps ∧ Strs M w' (.slice B fs.length d) fs ∧ Mod [] w w') := by
  refine Ret.of (vs := [.agg #[vp, vf], .string now]) (n := 35) Try.func9 rfl rfl rfl rfl ?_
  have hm0 : Mod [] w w := Mod.refl _ _
  refine W.seq ?_
  refine W.region ?_
  refine L.box rfl rfl ?_
  intro g2 w1 hN2
  replace hp := hp.new hN2
  replace hf := hf.new hN2
  replace hbd := hbd.new hN2
  have hge_g2 := New.ge hN2 hm0.size
  replace hm0 := hm0.trans (hN2.mod.mono (by simp))
  have hb2 := hN2.blk
  clear hN2
  refine L.alloc tyZ24 rfl ?_
  intro g4 w2 hN4
  replace hp := hp.new hN4
  replace hf := hf.new hN4
  replace hbd := hbd.new hN4
  have hge_g4 := New.ge hN4 hm0.size
  replace hm0 := hm0.trans (hN4.mod.mono (by simp))
  have hne_g2_g4 := hb2.ne_ hN4
  replace hb2 := Blk.gr hb2 hN4.mod
  have hb4 := hN4.blk
  clear hN4
  refine L.v (R1.assign rfl) rfl ?_
  refine L.v (R1.assign rfl) rfl ?_
  refine L.nil ?_
  refine X.seq ?_
  refine W.seq ?_
  refine W.seq ?_
  refine W.region ?_
  refine L.v (R1.fieldAt rfl tyF24_0) rfl ?_
  refine L.v (R1.loadFld rfl hb2 rfl tyP22) rfl ?_
  refine L.v (R1.lenStrs rfl (by assumption) tyS22) rfl ?_
  refine L.v ((R1.eq rfl rfl).asB (c := true) (by simp [h0])) rfl ?_
  refine L.nil ?_
  refine X.seq ?_
  refine W.condT rfl ?_
  refine W.seq ?_
  refine W.drawW (T := [7, 8, 9]) rfl (by decide +kernel) (NoHang.then (NoHang.then NoHang.post)) (fun w3 hm3 => ?_)
  replace hp := hp.gr hm3
  replace hf := hf.gr hm3
  replace hbd := hbd.gr hm3
  replace hm0 := hm0.trans hm3
  replace hb2 := Blk.gr hb2 hm3
  replace hb4 := Blk.gr hb4 hm3
  have hS1 : Mod [] w3 w3 := Mod.refl _ _
  clear hm3
  refine D.take 0 rfl (by decide +kernel) (fun w_ hS => (R1.fieldAt rfl tyF24_0)) hS1 rfl ?_
  refine D.take 1 rfl (by decide +kernel) (fun w_ hS => (R1.loadFld rfl (Blk.gr hb2 hS) rfl tyP22)) hS1 rfl ?_
  refine D.take 3 rfl (by decide +kernel) (fun w_ hS => (R1.fieldAt rfl tyF24_1)) hS1 rfl ?_
  refine D.take 4 rfl (by decide +kernel) (fun w_ hS => (R1.loadFld rfl (Blk.gr hb2 hS) rfl tyP22)) hS1 rfl ?_
  refine D.one 2 rfl (by decide +kernel) (fun hX => ?_)
  refine L.call rfl (c_CloneR (by assumption) (by assumption) (by omega)) rfl ?_
  rintro v16 w4 ⟨h16, hm4⟩
  replace hp := hp.gr hm4
  replace hf := hf.gr hm4
  replace hbd := hbd.gr hm4
  replace hm0 := hm0.trans hm4
  replace hb2 := Blk.gr hb2 hm4
  replace hb4 := Blk.gr hb4 hm4
  replace hS1 := hS1.trans hm4
  clear hm4
  obtain ⟨A16, c16, rfl⟩ := h16.form
  refine L.nil (hX _ _ ⟨.inr hS1, ?_⟩)
  refine D.one 5 rfl (by decide +kernel) (fun hX => ?_)
  refine L.call rfl (c_CloneR (by assumption) (by assumption) (by omega)) rfl ?_
  rintro v19 w5 ⟨h19, hm5⟩
  replace hp := hp.gr hm5
  replace hf := hf.gr hm5
  replace hbd := hbd.gr hm5
  replace hm0 := hm0.trans hm5
  replace hb2 := Blk.gr hb2 hm5
  replace hb4 := Blk.gr hb4 hm5
  replace h16 := h16.gr hm5
  replace hS1 := hS1.trans hm5
  clear hm5
  obtain ⟨A19, c19, rfl⟩ := h19.form
  refine L.nil (hX _ _ ⟨.inr hS1, ?_⟩)
  refine D.take 6 rfl (by decide +kernel) (fun w_ hS => (R1.build rfl (built_H2 _ _ _ _ _ _))) hS1 rfl ?_
  refine D.one 7 rfl (by decide +kernel) (fun hX => ?_)
  refine L.storeBox rfl rfl hb4 rfl rfl tyG24 ?_
  intro w6 hb4' hm6
  replace hp := hp.mod hm6 (by simp)
  replace hf := hf.mod hm6 (by simp)
  replace hbd := hbd.gr hm6
  replace hm0 := hm0.old1 hm6 hge_g4
  replace hb2 := Blk.far hb2 hm6 (by first | exact hne_g2_g4 | exact (hne_g4_g2).symm)
  replace h16 := h16.mod hm6 (by simp)
  replace h19 := h19.mod hm6 (by simp)
  clear hm6
  replace hb4 := hb4'; clear hb4'
  refine L.nil (hX _ _ ⟨.inl rfl, ?_⟩)
  refine D.one 8 rfl (by decide +kernel) (fun hX => ?_)
  refine L.v (R1.assign rfl) rfl (L.nil (hX _ _ ⟨.inl rfl, ?_⟩))
  refine D.one 9 rfl (by decide +kernel) (fun hX => ?_)
  refine L.v (R1.assign rfl) rfl (L.nil (hX _ _ ⟨.inl rfl, ?_⟩))
  refine D.done (by decide +kernel) ?_ _
  refine X.seq ?_
  refine W.ret ?_
  refine X.thenRet ?_
  refine X.result3 rfl (.cell rfl (loadVar_blk hb4 tyG24) (.tmp rfl (.tmp rfl .nil))) ?_
  exact ⟨_, _, _, _, rfl, h16.sub (by intro g hg; simp [hg]), h19.sub (by intro g hg; simp [hg]), hm0⟩

theorem c_Undo1 {M : List Nat} {w : World} {vp vf : Value} {ps fs : List ByteArray} {p now : ByteArray} (hp : Strs M w vp (ps ++ [p])) (hf : Strs M w vf fs) (hbd : Bd M w) (hl1 : ps.length ≤ 8796093022000) (hl2 : fs.length ≤ 8796093022000) :
    Ret Try.prog 9 #[.agg #[vp, vf], .string now] w (fun r w' => ∃ A c B d, r = .tuple #[.agg #[.slice A ps.length c, .slice B (fs.length + 1) d], .string p, .bool true] ∧ Strs M w' (.slice A ps.length c) ps ∧ Strs M w' (.slice B (fs.length + 1) d) (fs ++ [now]) ∧ Mod [] w w') := by
  refine Ret.of (vs := [.agg #[vp, vf], .string now]) (n := 35) Try.func9 rfl rfl rfl rfl ?_
  have hm0 : Mod [] w w := Mod.refl _ _
  refine W.seq ?_
  refine W.region ?_
  refine L.box rfl rfl ?_
  intro g2 w1 hN2
  replace hp := hp.new hN2
  replace hf := hf.new hN2
  replace hbd := hbd.new hN2
  have hge_g2 := New.ge hN2 hm0.size
  replace hm0 := hm0.trans (hN2.mod.mono (by simp))
  have hb2 := hN2.blk
  clear hN2
  refine L.alloc tyZ24 rfl ?_
  intro g4 w2 hN4
  replace hp := hp.new hN4
  replace hf := hf.new hN4
  replace hbd := hbd.new hN4
  have hge_g4 := New.ge hN4 hm0.size
  replace hm0 := hm0.trans (hN4.mod.mono (by simp))
  have hne_g2_g4 := hb2.ne_ hN4
  replace hb2 := Blk.gr hb2 hN4.mod
  have hb4 := hN4.blk
  clear hN4
  refine L.v (R1.assign rfl) rfl ?_
  refine L.v (R1.assign rfl) rfl ?_
  refine L.nil ?_
  refine X.seq ?_
  refine W.seq ?_
  refine W.seq ?_
  refine W.region ?_
  refine L.v (R1.fieldAt rfl tyF24_0) rfl ?_
  refine L.v (R1.loadFld rfl hb2 rfl tyP22) rfl ?_
  refine L.v (R1.lenStrs rfl (by assumption) tyS22) rfl ?_
  refine L.v ((R1.eq rfl rfl).asB (c := false) (by simp; omega)) rfl ?_
  refine L.nil ?_
  refine X.seq ?_
  refine W.condF rfl ?_
  refine W.skip ?_
  refine X.seq ?_
  refine W.seq ?_
  refine W.region ?_
  refine L.v (R1.fieldAt rfl tyF24_0) rfl ?_
  refine L.v (R1.loadFld rfl hb2 rfl tyP22) rfl ?_
  refine L.v (R1.fieldAt rfl tyF24_1) rfl ?_
  refine L.v (R1.loadFld rfl hb2 rfl tyP22) rfl ?_
  refine L.v (R1.move rfl) rfl ?_
  refine L.call rfl (c_step (by assumption) (by assumption) (by assumption) (by omega) (by omega)) rfl ?_
  rintro _ w3 ⟨A27, c27, B27, d27, rfl, h27, k27, hm3⟩
  replace hp := hp.gr hm3
  replace hf := hf.gr hm3
  replace hbd := hbd.gr hm3
  replace hm0 := hm0.trans hm3
  replace hb2 := Blk.gr hb2 hm3
  replace hb4 := Blk.gr hb4 hm3
  clear hm3
  refine L.v (R1.move rfl) rfl ?_
  refine L.v (R1.extract rfl rfl) rfl ?_
  refine L.v (R1.extract rfl rfl) rfl ?_
  refine L.v (R1.extract rfl rfl) rfl ?_
  refine L.v (R1.assign rfl) rfl ?_
  refine L.v (R1.assign rfl) rfl ?_
  refine L.v (R1.assign rfl) rfl ?_
  refine L.nil ?_
  refine X.seq ?_
  refine W.seq ?_
  refine W.region ?_
  refine L.v (R1.move rfl) rfl ?_
  refine L.v (R1.move rfl) rfl ?_
  refine L.v (R1.build rfl (built_H2 _ _ _ _ _ _)) rfl ?_
  refine L.v (R1.move rfl) rfl ?_
  refine L.storeBox rfl rfl hb4 rfl rfl tyG24 ?_
  intro w4 hb4' hm4
  replace hp := hp.mod hm4 (by simp)
  replace hf := hf.mod hm4 (by simp)
  replace hbd := hbd.gr hm4
  replace hm0 := hm0.old1 hm4 hge_g4
  replace hb2 := Blk.far hb2 hm4 (by first | exact hne_g2_g4 | exact (hne_g4_g2).symm)
  replace h27 := h27.mod hm4 (by simp)
  replace k27 := k27.mod hm4 (by simp)
  clear hm4
  replace hb4 := hb4'; clear hb4'
  refine L.v (R1.assign rfl) rfl ?_
  refine L.v (R1.assign rfl) rfl ?_
  refine L.nil ?_
  refine X.seq ?_
  refine W.ret ?_
  refine X.result3 rfl (.cell rfl (loadVar_blk hb4 tyG24) (.tmp rfl (.tmp rfl .nil))) ?_
  exact ⟨_, _, _, _, rfl, h27.sub (by intro g hg; simp [hg]), k27.sub (by intro g hg; simp [hg]), hm0⟩

theorem c_Redo0 {M : List Nat} {w : World} {vp vf : Value} {ps fs : List ByteArray} {now : ByteArray} (hp : Strs M w vp ps) (hf : Strs M w vf fs) (h0 : fs = []) (hbd : Bd M w) (hl1 : ps.length ≤ 8796093022000) (hl2 : fs.length ≤ 8796093022000) :
    Ret Try.prog 12 #[.agg #[vp, vf], .string now] w (fun r w' => ∃ A c B d, r = .tuple #[.agg #[.slice A ps.length c, .slice B fs.length d], .string ⟨#[]⟩, .bool false] ∧ Strs M w' (.slice A ps.length c) ps ∧ Strs M w' (.slice B fs.length d) fs ∧ Mod [] w w') := by
  refine Ret.of (vs := [.agg #[vp, vf], .string now]) (n := 35) Try.func12 rfl rfl rfl rfl ?_
  have hm0 : Mod [] w w := Mod.refl _ _
  refine W.seq ?_
  refine W.region ?_
  refine L.box rfl rfl ?_
  intro g2 w1 hN2
  replace hp := hp.new hN2
  replace hf := hf.new hN2
  replace hbd := hbd.new hN2
  have hge_g2 := New.ge hN2 hm0.size
  replace hm0 := hm0.trans (hN2.mod.mono (by simp))
  have hb2 := hN2.blk
  clear hN2
  refine L.alloc tyZ24 rfl ?_
  intro g4 w2 hN4
  replace hp := hp.new hN4
  replace hf := hf.new hN4
  replace hbd := hbd.new hN4
  have hge_g4 := New.ge hN4 hm0.size
  replace hm0 := hm0.trans (hN4.mod.mono (by simp))
  have hne_g2_g4 := hb2.ne_ hN4
  replace hb2 := Blk.gr hb2 hN4.mod
  have hb4 := hN4.blk
  clear hN4
  refine L.v (R1.assign rfl) rfl ?_
  refine L.v (R1.assign rfl) rfl ?_
  refine L.nil ?_
  refine X.seq ?_
  refine W.seq ?_
  refine W.seq ?_
  refine W.region ?_
  refine L.v (R1.fieldAt rfl tyF24_1) rfl ?_
  refine L.v (R1.loadFld rfl hb2 rfl tyP22) rfl ?_
  refine L.v (R1.lenStrs rfl (by assumption) tyS22) rfl ?_
  refine L.v ((R1.eq rfl rfl).asB (c := true) (by simp [h0])) rfl ?_
  refine L.nil ?_
  refine X.seq ?_
  refine W.condT rfl ?_
  refine W.seq ?_
  refine W.drawW (T := [7, 8, 9]) rfl (by decide +kernel) (NoHang.then (NoHang.then NoHang.post)) (fun w3 hm3 => ?_)
  replace hp := hp.gr hm3
  replace hf := hf.gr hm3
  replace hbd := hbd.gr hm3
  replace hm0 := hm0.trans hm3
  replace hb2 := Blk.gr hb2 hm3
  replace hb4 := Blk.gr hb4 hm3
  have hS1 : Mod [] w3 w3 := Mod.refl _ _
  clear hm3
  refine D.take 0 rfl (by decide +kernel) (fun w_ hS => (R1.fieldAt rfl tyF24_0)) hS1 rfl ?_
  refine D.take 1 rfl (by decide +kernel) (fun w_ hS => (R1.loadFld rfl (Blk.gr hb2 hS) rfl tyP22)) hS1 rfl ?_
  refine D.take 3 rfl (by decide +kernel) (fun w_ hS => (R1.fieldAt rfl tyF24_1)) hS1 rfl ?_
  refine D.take 4 rfl (by decide +kernel) (fun w_ hS => (R1.loadFld rfl (Blk.gr hb2 hS) rfl tyP22)) hS1 rfl ?_
  refine D.one 2 rfl (by decide +kernel) (fun hX => ?_)
  refine L.call rfl (c_CloneR (by assumption) (by assumption) (by omega)) rfl ?_
  rintro v16 w4 ⟨h16, hm4⟩
  replace hp := hp.gr hm4
  replace hf := hf.gr hm4
  replace hbd := hbd.gr hm4
  replace hm0 := hm0.trans hm4
  replace hb2 := Blk.gr hb2 hm4
  replace hb4 := Blk.gr hb4 hm4
  replace hS1 := hS1.trans hm4
  clear hm4
  obtain ⟨A16, c16, rfl⟩ := h16.form
  refine L.nil (hX _ _ ⟨.inr hS1, ?_⟩)
  refine D.one 5 rfl (by decide +kernel) (fun hX => ?_)
  refine L.call rfl (c_CloneR (by assumption) (by assumption) (by omega)) rfl ?_
  rintro v19 w5 ⟨h19, hm5⟩
  replace hp := hp.gr hm5
  replace hf := hf.gr hm5
  replace hbd := hbd.gr hm5
  replace hm0 := hm0.trans hm5
  replace hb2 := Blk.gr hb2 hm5
  replace hb4 := Blk.gr hb4 hm5
  replace h16 := h16.gr hm5
  replace hS1 := hS1.trans hm5
  clear hm5
  obtain ⟨A19, c19, rfl⟩ := h19.form
  refine L.nil (hX _ _ ⟨.inr hS1, ?_⟩)
  refine D.take 6 rfl (by decide +kernel) (fun w_ hS => (R1.build rfl (built_H2 _ _ _ _ _ _))) hS1 rfl ?_
  refine D.one 7 rfl (by decide +kernel) (fun hX => ?_)
  refine L.storeBox rfl rfl hb4 rfl rfl tyG24 ?_
  intro w6 hb4' hm6
  replace hp := hp.mod hm6 (by simp)
  replace hf := hf.mod hm6 (by simp)
  replace hbd := hbd.gr hm6
  replace hm0 := hm0.old1 hm6 hge_g4
  replace hb2 := Blk.far hb2 hm6 (by first | exact hne_g2_g4 | exact (hne_g4_g2).symm)
  replace h16 := h16.mod hm6 (by simp)
  replace h19 := h19.mod hm6 (by simp)
  clear hm6
  replace hb4 := hb4'; clear hb4'
  refine L.nil (hX _ _ ⟨.inl rfl, ?_⟩)
  refine D.one 8 rfl (by decide +kernel) (fun hX => ?_)
  refine L.v (R1.assign rfl) rfl (L.nil (hX _ _ ⟨.inl rfl, ?_⟩))
  refine D.one 9 rfl (by decide +kernel) (fun hX => ?_)
  refine L.v (R1.assign rfl) rfl (L.nil (hX _ _ ⟨.inl rfl, ?_⟩))
  refine D.done (by decide +kernel) ?_ _
  refine X.seq ?_
  refine W.ret ?_
  refine X.thenRet ?_
  refine X.result3 rfl (.cell rfl (loadVar_blk hb4 tyG24) (.tmp rfl (.tmp rfl .nil))) ?_
  exact ⟨_, _, _, _, rfl, h16.sub (by intro g hg; simp [hg]), h19.sub (by intro g hg; simp [hg]), hm0⟩

theorem c_Redo1 {M : List Nat} {w : World} {vp vf : Value} {ps fs : List ByteArray} {p now : ByteArray} (hp : Strs M w vp ps) (hf : Strs M w vf (fs ++ [p])) (hbd : Bd M w) (hl1 : ps.length ≤ 8796093022000) (hl2 : fs.length ≤ 8796093022000) :
    Ret Try.prog 12 #[.agg #[vp, vf], .string now] w (fun r w' => ∃ A c B d, r = .tuple #[.agg #[.slice A (ps.length + 1) c, .slice B fs.length d], .string p, .bool true] ∧ Strs M w' (.slice A (ps.length + 1) c) (ps ++ [now]) ∧ Strs M w' (.slice B fs.length d) fs ∧ Mod [] w w') := by
  refine Ret.of (vs := [.agg #[vp, vf], .string now]) (n := 35) Try.func12 rfl rfl rfl rfl ?_
  have hm0 : Mod [] w w := Mod.refl _ _
  refine W.seq ?_
  refine W.region ?_
  refine L.box rfl rfl ?_
  intro g2 w1 hN2
  replace hp := hp.new hN2
  replace hf := hf.new hN2
  replace hbd := hbd.new hN2
  have hge_g2 := New.ge hN2 hm0.size
  replace hm0 := hm0.trans (hN2.mod.mono (by simp))
  have hb2 := hN2.blk
  clear hN2
  refine L.alloc tyZ24 rfl ?_
  intro g4 w2 hN4
  replace hp := hp.new hN4
  replace hf := hf.new hN4
  replace hbd := hbd.new hN4
  have hge_g4 := New.ge hN4 hm0.size
  replace hm0 := hm0.trans (hN4.mod.mono (by simp))
  have hne_g2_g4 := hb2.ne_ hN4
  replace hb2 := Blk.gr hb2 hN4.mod
  have hb4 := hN4.blk
  clear hN4
  refine L.v (R1.assign rfl) rfl ?_
  refine L.v (R1.assign rfl) rfl ?_
  refine L.nil ?_
  refine X.seq ?_
  refine W.seq ?_
  refine W.seq ?_
  refine W.region ?_
  refine L.v (R1.fieldAt rfl tyF24_1) rfl ?_
  refine L.v (R1.loadFld rfl hb2 rfl tyP22) rfl ?_
  refine L.v (R1.lenStrs rfl (by assumption) tyS22) rfl ?_
  refine L.v ((R1.eq rfl rfl).asB (c := false) (by simp; omega)) rfl ?_
  refine L.nil ?_
  refine X.seq ?_
  refine W.condF rfl ?_
  refine W.skip ?_
  refine X.seq ?_
  refine W.seq ?_
  refine W.region ?_
  refine L.v (R1.fieldAt rfl tyF24_1) rfl ?_
  refine L.v (R1.loadFld rfl hb2 rfl tyP22) rfl ?_
  refine L.v (R1.fieldAt rfl tyF24_0) rfl ?_
  refine L.v (R1.loadFld rfl hb2 rfl tyP22) rfl ?_
  refine L.v (R1.move rfl) rfl ?_
  refine L.call rfl (c_step (by assumption) (by assumption) (by assumption) (by omega) (by omega)) rfl ?_
  rintro _ w3 ⟨A27, c27, B27, d27, rfl, h27, k27, hm3⟩
  replace hp := hp.gr hm3
  replace hf := hf.gr hm3
  replace hbd := hbd.gr hm3
  replace hm0 := hm0.trans hm3
  replace hb2 := Blk.gr hb2 hm3
  replace hb4 := Blk.gr hb4 hm3
  clear hm3
  refine L.v (R1.move rfl) rfl ?_
  refine L.v (R1.extract rfl rfl) rfl ?_
  refine L.v (R1.extract rfl rfl) rfl ?_
  refine L.v (R1.extract rfl rfl) rfl ?_
  refine L.v (R1.assign rfl) rfl ?_
  refine L.v (R1.assign rfl) rfl ?_
  refine L.v (R1.assign rfl) rfl ?_
  refine L.nil ?_
  refine X.seq ?_
  refine W.seq ?_
  refine W.region ?_
  refine L.v (R1.move rfl) rfl ?_
  refine L.v (R1.move rfl) rfl ?_
  refine L.v (R1.build rfl (built_H2 _ _ _ _ _ _)) rfl ?_
  refine L.v (R1.move rfl) rfl ?_
  refine L.storeBox rfl rfl hb4 rfl rfl tyG24 ?_
  intro w4 hb4' hm4
  replace hp := hp.mod hm4 (by simp)
  replace hf := hf.mod hm4 (by simp)
  replace hbd := hbd.gr hm4
  replace hm0 := hm0.old1 hm4 hge_g4
  replace hb2 := Blk.far hb2 hm4 (by first | exact hne_g2_g4 | exact (hne_g4_g2).symm)
  replace h27 := h27.mod hm4 (by simp)
  replace k27 := k27.mod hm4 (by simp)
  clear hm4
  replace hb4 := hb4'; clear hb4'
  refine L.v (R1.assign rfl) rfl ?_
  refine L.v (R1.assign rfl) rfl ?_
  refine L.nil ?_
  refine X.seq ?_
  refine W.ret ?_
  refine X.result3 rfl (.cell rfl (loadVar_blk hb4 tyG24) (.tmp rfl (.tmp rfl .nil))) ?_
  exact ⟨_, _, _, _, rfl, k27.sub (by intro g hg; simp [hg]), h27.sub (by intro g hg; simp [hg]), hm0⟩

theorem c_Is {M : List Nat} {w : World} {vp vf : Value} {ps fs : List ByteArray} (hp : Strs M w vp ps) (hf : Strs M w vf fs) (hl1 : ps.length ≤ 8796093022000) (hl2 : fs.length ≤ 8796093022000) :
    Ret Try.prog 8 #[.agg #[vp, vf]] w (fun r w' => r = .bool (decide (ps.length + fs.length ≤ 32)) ∧ Mod [] w w') := by
  refine Ret.of (vs := [.agg #[vp, vf]]) (n := 11) Try.func8 rfl rfl rfl rfl ?_
  have hm0 : Mod [] w w := Mod.refl _ _
  refine W.seq ?_
  refine W.region ?_
  refine L.box rfl rfl ?_
  intro g1 w1 hN1
  replace hp := hp.new hN1
  replace hf := hf.new hN1
  have hge_g1 := New.ge hN1 hm0.size
  replace hm0 := hm0.trans (hN1.mod.mono (by simp))
  have hb1 := hN1.blk
  clear hN1
  refine L.v (R1.assign rfl) rfl ?_
  refine L.nil ?_
  refine X.seq ?_
  refine W.seq ?_
  refine W.region ?_
  refine L.v (R1.fieldAt rfl tyF24_0) rfl ?_
  refine L.v (R1.loadFld rfl hb1 rfl tyP22) rfl ?_
  refine L.v (R1.lenStrs rfl (by assumption) tyS22) rfl ?_
  refine L.v (R1.fieldAt rfl tyF24_1) rfl ?_
  refine L.v (R1.loadFld rfl hb1 rfl tyP22) rfl ?_
  refine L.v (R1.lenStrs rfl (by assumption) tyS22) rfl ?_
  refine L.v (R1.addI rfl rfl (by omega)) rfl ?_
  refine L.v ((R1.le rfl rfl).asB (c := decide (ps.length + fs.length ≤ 32)) (by congr 1; apply propext; omega)) rfl ?_
  refine L.v (R1.assign rfl) rfl ?_
  refine L.nil ?_
  refine X.seq ?_
  refine W.ret ?_
  refine X.result1 rfl (.tmp rfl .nil) ?_
  exact ⟨rfl, hm0⟩

theorem c_long {M : List Nat} {w : World} {vp vf : Value} {ps fs : List ByteArray} (hp : Strs M w vp ps) (hf : Strs M w vf fs) (hl1 : ps.length ≤ 8796093022000) (hl2 : fs.length ≤ 8796093022000) :
    Ret Try.prog 11 #[.agg #[vp, vf]] w (fun r w' => (∃ b, r = .bool b) ∧ Mod [] w w') := by
  refine Ret.of (vs := [.agg #[vp, vf]]) (n := 40) Try.func11 rfl rfl rfl rfl ?_
  have hm0 : Mod [] w w := Mod.refl _ _
  refine W.seq ?_
  refine W.region ?_
  refine L.box rfl rfl ?_
  intro g1 w1 hN1
  replace hp := hp.new hN1
  replace hf := hf.new hN1
  have hge_g1 := New.ge hN1 hm0.size
  replace hm0 := hm0.trans (hN1.mod.mono (by simp))
  have hb1 := hN1.blk
  clear hN1
  refine L.v (R1.assign rfl) rfl ?_
  refine L.nil ?_
  refine X.seq ?_
  refine W.seq ?_
  refine W.region ?_
  refine L.v (R1.assign rfl) rfl ?_
  refine L.nil ?_
  refine X.seq ?_
  refine W.seq ?_
  refine W.seq ?_
  refine W.region ?_
  refine L.v (R1.assign rfl) rfl ?_
  refine L.nil ?_
  refine X.seq ?_
  refine W.block ?_
  refine W.loop (ι := Int × Nat) (fun (n, k) => [(1, .pointer (some ⟨g1, 0, none⟩)), (3, .int .i64 n), (4, .int .i64 (k : Int))]) (fun (n, k) w_ => k ≤ ps.length ∧ Blk w_ g1 24 #[vp, vf] ∧ Strs (g1 :: M) w_ vp ps ∧ Strs (g1 :: M) w_ vf fs ∧ Mod [] w w_) (fun (n, k) => ps.length - k) (0, 0) ?_ ?_ ?_
  · exact ⟨rfl, rfl, rfl, trivial⟩
  ·
    exact ⟨Nat.zero_le _, hb1, hp, hf, hm0⟩
  ·
    rintro ⟨n, k⟩ w2 ⟨hk, hb1, hp, hf, hm0⟩
    refine W.seq ?_
    refine W.seq ?_
    refine W.region ?_
    refine L.v (R1.move rfl) rfl ?_
    refine L.v (R1.fieldAt rfl tyF24_0) rfl ?_
    refine L.v (R1.loadFld rfl hb1 rfl tyP22) rfl ?_
    refine L.v (R1.lenStrs rfl (by assumption) tyS22) rfl ?_
    refine L.v (R1.lt rfl rfl) rfl ?_
    refine L.nil ?_
    refine X.seq ?_
    refine W.cond rfl ?_ ?_
    ·
      intro hc10
      try simp only [decide_eq_true_eq, decide_eq_false_iff_not, Bool.not_eq_true', Bool.not_eq_false', Int.not_lt, Int.not_le, ne_eq, Decidable.not_not] at hc10
      have hk1 : k < ps.length := by omega
      refine W.skip ?_
      refine X.seq ?_
      refine W.seq ?_
      refine W.block ?_
      refine W.region ?_
      refine L.v (R1.move rfl) rfl ?_
      refine L.v (R1.add rfl rfl) rfl ?_
      refine L.v (R1.fieldAt rfl tyF24_0) rfl ?_
      refine L.v (R1.loadFld rfl hb1 rfl tyP22) rfl ?_
      refine L.v (R1.move rfl) rfl ?_
      refine L.v (R1.atStrs (j := k) rfl rfl (by assumption) tyS22 rfl (by omega)) rfl ?_
      refine L.v (R1.ldStrs rfl (by assumption) tyP9 (by omega) rfl) rfl ?_
      refine L.v (R1.lenS rfl tyStr9) rfl ?_
      refine L.v (R1.add rfl rfl) rfl ?_
      refine L.v (R1.assign rfl) rfl ?_
      refine L.nil ?_
      refine X.blockEnd ?_
      refine X.seq ?_
      refine W.region ?_
      refine L.v (R1.move rfl) rfl ?_
      refine L.v (R1.addI (b := 1) rfl rfl (by omega)) rfl ?_
      refine L.v (R1.assign rfl) rfl ?_
      refine L.nil ?_
      refine X.next (IntKind.i64.wrap (IntKind.i64.wrap (n + 1) + ((ps[k].size : Nat) : Int)), k + 1) ?_ ?_ ?_
      · exact ⟨rfl, rfl, rfl, trivial⟩
      ·
        exact ⟨by omega, hb1, hp, hf, hm0⟩
      · first | omega | (dsimp only; omega)
    ·
      intro hc10
      try simp only [decide_eq_true_eq, decide_eq_false_iff_not, Bool.not_eq_true', Bool.not_eq_false', Int.not_lt, Int.not_le, ne_eq, Decidable.not_not] at hc10
      refine W.exit ?_
      refine X.thenExit ?_
      refine X.nextExit ?_
      refine X.here ?_
      refine X.seq ?_
      refine W.seq ?_
      refine W.seq ?_
      refine W.region ?_
      refine L.v (R1.assign rfl) rfl ?_
      refine L.nil ?_
      refine X.seq ?_
      refine W.block ?_
      refine W.loop (ι := Int × Nat) (fun (n, k) => [(1, .pointer (some ⟨g1, 0, none⟩)), (3, .int .i64 n), (5, .int .i64 (k : Int))]) (fun (n, k) w_ => k ≤ fs.length ∧ Blk w_ g1 24 #[vp, vf] ∧ Strs (g1 :: M) w_ vp ps ∧ Strs (g1 :: M) w_ vf fs ∧ Mod [] w w_) (fun (n, k) => fs.length - k) (n, 0) ?_ ?_ ?_
      · exact ⟨rfl, rfl, rfl, trivial⟩
      ·
        exact ⟨Nat.zero_le _, hb1, hp, hf, hm0⟩
      ·
        rintro ⟨n, k⟩ w3 ⟨hk, hb1, hp, hf, hm0⟩
        refine W.seq ?_
        refine W.seq ?_
        refine W.region ?_
        refine L.v (R1.move rfl) rfl ?_
        refine L.v (R1.fieldAt rfl tyF24_1) rfl ?_
        refine L.v (R1.loadFld rfl hb1 rfl tyP22) rfl ?_
        refine L.v (R1.lenStrs rfl (by assumption) tyS22) rfl ?_
        refine L.v (R1.lt rfl rfl) rfl ?_
        refine L.nil ?_
        refine X.seq ?_
        refine W.cond rfl ?_ ?_
        ·
          intro hc26
          try simp only [decide_eq_true_eq, decide_eq_false_iff_not, Bool.not_eq_true', Bool.not_eq_false', Int.not_lt, Int.not_le, ne_eq, Decidable.not_not] at hc26
          have hk1 : k < fs.length := by omega
          refine W.skip ?_
          refine X.seq ?_
          refine W.seq ?_
          refine W.block ?_
          refine W.region ?_
          refine L.v (R1.move rfl) rfl ?_
          refine L.v (R1.add rfl rfl) rfl ?_
          refine L.v (R1.fieldAt rfl tyF24_1) rfl ?_
          refine L.v (R1.loadFld rfl hb1 rfl tyP22) rfl ?_
          refine L.v (R1.move rfl) rfl ?_
          refine L.v (R1.atStrs (j := k) rfl rfl (by assumption) tyS22 rfl (by omega)) rfl ?_
          refine L.v (R1.ldStrs rfl (by assumption) tyP9 (by omega) rfl) rfl ?_
          refine L.v (R1.lenS rfl tyStr9) rfl ?_
          refine L.v (R1.add rfl rfl) rfl ?_
          refine L.v (R1.assign rfl) rfl ?_
          refine L.nil ?_
          refine X.blockEnd ?_
          refine X.seq ?_
          refine W.region ?_
          refine L.v (R1.move rfl) rfl ?_
          refine L.v (R1.addI (b := 1) rfl rfl (by omega)) rfl ?_
          refine L.v (R1.assign rfl) rfl ?_
          refine L.nil ?_
          refine X.next (IntKind.i64.wrap (IntKind.i64.wrap (n + 1) + ((fs[k].size : Nat) : Int)), k + 1) ?_ ?_ ?_
          · exact ⟨rfl, rfl, rfl, trivial⟩
          ·
            exact ⟨by omega, hb1, hp, hf, hm0⟩
          · first | omega | (dsimp only; omega)
        ·
          intro hc26
          try simp only [decide_eq_true_eq, decide_eq_false_iff_not, Bool.not_eq_true', Bool.not_eq_false', Int.not_lt, Int.not_le, ne_eq, Decidable.not_not] at hc26
          refine W.exit ?_
          refine X.thenExit ?_
          refine X.nextExit ?_
          refine X.here ?_
          refine X.seq ?_
          refine W.seq ?_
          refine W.region ?_
          refine L.v (R1.move rfl) rfl ?_
          refine L.v (R1.gt rfl rfl) rfl ?_
          refine L.v (R1.assign rfl) rfl ?_
          refine L.nil ?_
          refine X.seq ?_
          refine W.ret ?_
          refine X.result1 rfl (.tmp rfl .nil) ?_
          exact ⟨⟨_, rfl⟩, hm0⟩

theorem c_Equal {M : List Nat} {w : World} {va vb : Value} {ss : List ByteArray} (ha : Strs M w va ss) (hb : Strs M w vb ss) (hl : ss.length ≤ 8796093022208) :
    Ret Try.prog 19 #[va, vb] w (fun r w' => r = .bool true ∧ Mod [] w w') := by
  refine Ret.of (vs := [va, vb]) (n := 26) Try.func19 rfl rfl rfl rfl ?_
  have hm0 : Mod [] w w := Mod.refl _ _
  refine W.seq ?_
  refine W.region ?_
  refine L.v (R1.assign rfl) rfl ?_
  refine L.nil ?_
  refine X.seq ?_
  refine W.seq ?_
  refine W.seq ?_
  refine W.region ?_
  refine L.v (R1.move rfl) rfl ?_
  refine L.v (R1.lenStrs rfl (by assumption) tyS22) rfl ?_
  refine L.v (R1.move rfl) rfl ?_
  refine L.v (R1.lenStrs rfl (by assumption) tyS22) rfl ?_
  refine L.v ((R1.ne rfl rfl).asB (c := false) (by simp)) rfl ?_
  refine L.nil ?_
  refine X.seq ?_
  refine W.condF rfl ?_
  refine W.skip ?_
  refine X.seq ?_
  refine W.seq ?_
  refine W.seq ?_
  refine W.region ?_
  refine L.v (R1.move rfl) rfl ?_
  refine L.v (R1.lenStrs rfl (by assumption) tyS22) rfl ?_
  refine L.v (R1.move rfl) rfl ?_
  refine L.nil ?_
  refine X.seq ?_
  refine W.block ?_
  refine W.loop (ι := Nat) (fun k => [(0, va), (1, vb), (12, .int .i64 (ss.length : Int)), (13, .int .i64 (k : Int))]) (fun k w_ => k ≤ ss.length ∧ Strs M w_ va ss ∧ Strs M w_ vb ss ∧ Mod [] w w_) (fun k => ss.length - k) 0 ?_ ?_ ?_
  · exact ⟨rfl, rfl, rfl, rfl, trivial⟩
  ·
    exact ⟨Nat.zero_le _, ha, hb, hm0⟩
  ·
    rintro k w1 ⟨hk, ha, hb, hm0⟩
    refine W.seq ?_
    refine W.region ?_
    refine L.v (R1.lt rfl rfl) rfl ?_
    refine L.nil ?_
    refine X.seq ?_
    refine W.seq ?_
    refine W.cond rfl ?_ ?_
    ·
      intro hc14
      try simp only [decide_eq_true_eq, decide_eq_false_iff_not, Bool.not_eq_true', Bool.not_eq_false', Int.not_lt, Int.not_le, ne_eq, Decidable.not_not] at hc14
      have hk1 : k < ss.length := by omega
      refine W.skip ?_
      refine X.seq ?_
      refine W.seq ?_
      refine W.block ?_
      refine W.seq ?_
      refine W.region ?_
      refine L.v (R1.move rfl) rfl ?_
      refine L.v (R1.assign rfl) rfl ?_
      refine L.nil ?_
      refine X.seq ?_
      refine W.seq ?_
      refine W.drawW (T := []) rfl (by decide +kernel) (NoHang.then (NoHang.block (NoHang.then (NoHang.next (NoHang.block (NoHang.then NoHang.post)))))) (fun w2 hm2 => ?_)
      replace ha := ha.gr hm2
      replace hb := hb.gr hm2
      replace hm0 := hm0.trans hm2
      have hS1 : Mod [] w2 w2 := Mod.refl _ _
      clear hm2
      refine D.take 0 rfl (by decide +kernel) (fun w_ hS => (R1.move rfl)) hS1 rfl ?_
      refine D.take 1 rfl (by decide +kernel) (fun w_ hS => (R1.move rfl)) hS1 rfl ?_
      refine D.take 2 rfl (by decide +kernel) (fun w_ hS => (R1.atStrs (j := k) rfl rfl (Strs.gr (by assumption) hS) tyS22 rfl (by omega))) hS1 rfl ?_
      refine D.take 3 rfl (by decide +kernel) (fun w_ hS => (R1.ldStrs rfl (Strs.gr (by assumption) hS) tyP9 (by omega) rfl)) hS1 rfl ?_
      refine D.take 4 rfl (by decide +kernel) (fun w_ hS => (R1.move rfl)) hS1 rfl ?_
      refine D.take 5 rfl (by decide +kernel) (fun w_ hS => (R1.move rfl)) hS1 rfl ?_
      refine D.take 6 rfl (by decide +kernel) (fun w_ hS => (R1.atStrs (j := k) rfl rfl (Strs.gr (by assumption) hS) tyS22 rfl (by omega))) hS1 rfl ?_
      refine D.take 7 rfl (by decide +kernel) (fun w_ hS => (R1.ldStrs rfl (Strs.gr (by assumption) hS) tyP9 (by omega) rfl)) hS1 rfl ?_
      refine D.take 8 rfl (by decide +kernel) (fun w_ hS => ((R1.neS rfl rfl).asB (c := false) (by simp))) hS1 rfl ?_
      refine D.done (by decide +kernel) ?_ _
      refine X.seq ?_
      refine W.condF rfl ?_
      refine W.skip ?_
      refine X.blockEnd ?_
      refine X.seq ?_
      refine W.region ?_
      refine L.v (R1.addI (b := 1) rfl rfl (by omega)) rfl ?_
      refine L.v (R1.move rfl) rfl ?_
      refine L.nil ?_
      refine X.next (k + 1) ?_ ?_ ?_
      · exact ⟨rfl, rfl, rfl, rfl, trivial⟩
      ·
        exact ⟨by omega, ha, hb, hm0⟩
      · first | omega | (dsimp only; omega)
    ·
      intro hc14
      try simp only [decide_eq_true_eq, decide_eq_false_iff_not, Bool.not_eq_true', Bool.not_eq_false', Int.not_lt, Int.not_le, ne_eq, Decidable.not_not] at hc14
      refine W.exit ?_
      refine X.thenExit ?_
      refine X.nextExit ?_
      refine X.here ?_
      refine X.seq ?_
      refine W.seq ?_
      refine W.region ?_
      refine L.v (R1.assign rfl) rfl ?_
      refine L.nil ?_
      refine X.seq ?_
      refine W.ret ?_
      refine X.result1 rfl (.tmp rfl .nil) ?_
      exact ⟨rfl, hm0⟩

theorem c_texts {M : List Nat} {w : World} {va vb : Value} {ss : List ByteArray} (ha : Strs M w va ss) (hb : Strs M w vb ss) (hl : ss.length ≤ 8796093022208) :
    Ret Try.prog 21 #[va, vb] w (fun r w' => r = .bool true ∧ Mod [] w w') := by
  refine Ret.of (vs := [va, vb]) (n := 26) Try.func21 rfl rfl rfl rfl ?_
  have hm0 : Mod [] w w := Mod.refl _ _
  refine W.seq ?_
  refine W.region ?_
  refine L.v (R1.assign rfl) rfl ?_
  refine L.nil ?_
  refine X.seq ?_
  refine W.seq ?_
  refine W.seq ?_
  refine W.region ?_
  refine L.v (R1.move rfl) rfl ?_
  refine L.v (R1.lenStrs rfl (by assumption) tyS22) rfl ?_
  refine L.v (R1.move rfl) rfl ?_
  refine L.v (R1.lenStrs rfl (by assumption) tyS22) rfl ?_
  refine L.v ((R1.ne rfl rfl).asB (c := false) (by simp)) rfl ?_
  refine L.nil ?_
  refine X.seq ?_
  refine W.condF rfl ?_
  refine W.skip ?_
  refine X.seq ?_
  refine W.seq ?_
  refine W.seq ?_
  refine W.region ?_
  refine L.v (R1.assign rfl) rfl ?_
  refine L.nil ?_
  refine X.seq ?_
  refine W.block ?_
  refine W.loop (ι := Nat) (fun k => [(0, va), (1, vb), (5, .int .i64 (k : Int))]) (fun k w_ => k ≤ ss.length ∧ Strs M w_ va ss ∧ Strs M w_ vb ss ∧ Mod [] w w_) (fun k => ss.length - k) 0 ?_ ?_ ?_
  · exact ⟨rfl, rfl, rfl, trivial⟩
  ·
    exact ⟨Nat.zero_le _, ha, hb, hm0⟩
  ·
    rintro k w1 ⟨hk, ha, hb, hm0⟩
    refine W.seq ?_
    refine W.seq ?_
    refine W.region ?_
    refine L.v (R1.move rfl) rfl ?_
    refine L.v (R1.move rfl) rfl ?_
    refine L.v (R1.lenStrs rfl (by assumption) tyS22) rfl ?_
    refine L.v (R1.lt rfl rfl) rfl ?_
    refine L.nil ?_
    refine X.seq ?_
    refine W.cond rfl ?_ ?_
    ·
      intro hc14
      try simp only [decide_eq_true_eq, decide_eq_false_iff_not, Bool.not_eq_true', Bool.not_eq_false', Int.not_lt, Int.not_le, ne_eq, Decidable.not_not] at hc14
      have hk1 : k < ss.length := by omega
      refine W.skip ?_
      refine X.seq ?_
      refine W.seq ?_
      refine W.block ?_
      refine W.seq ?_
      refine W.drawW (T := []) rfl (by decide +kernel) (NoHang.then (NoHang.block (NoHang.then (NoHang.next (NoHang.block (NoHang.then NoHang.post)))))) (fun w2 hm2 => ?_)
      replace ha := ha.gr hm2
      replace hb := hb.gr hm2
      replace hm0 := hm0.trans hm2
      have hS1 : Mod [] w2 w2 := Mod.refl _ _
      clear hm2
      refine D.take 0 rfl (by decide +kernel) (fun w_ hS => (R1.move rfl)) hS1 rfl ?_
      refine D.take 1 rfl (by decide +kernel) (fun w_ hS => (R1.move rfl)) hS1 rfl ?_
      refine D.take 2 rfl (by decide +kernel) (fun w_ hS => (R1.atStrs (j := k) rfl rfl (Strs.gr (by assumption) hS) tyS22 rfl (by omega))) hS1 rfl ?_
      refine D.take 3 rfl (by decide +kernel) (fun w_ hS => (R1.ldStrs rfl (Strs.gr (by assumption) hS) tyP9 (by omega) rfl)) hS1 rfl ?_
      refine D.take 4 rfl (by decide +kernel) (fun w_ hS => (R1.move rfl)) hS1 rfl ?_
      refine D.take 5 rfl (by decide +kernel) (fun w_ hS => (R1.move rfl)) hS1 rfl ?_
      refine D.take 6 rfl (by decide +kernel) (fun w_ hS => (R1.atStrs (j := k) rfl rfl (Strs.gr (by assumption) hS) tyS22 rfl (by omega))) hS1 rfl ?_
      refine D.take 7 rfl (by decide +kernel) (fun w_ hS => (R1.ldStrs rfl (Strs.gr (by assumption) hS) tyP9 (by omega) rfl)) hS1 rfl ?_
      refine D.take 8 rfl (by decide +kernel) (fun w_ hS => ((R1.neS rfl rfl).asB (c := false) (by simp))) hS1 rfl ?_
      refine D.done (by decide +kernel) ?_ _
      refine X.seq ?_
      refine W.condF rfl ?_
      refine W.skip ?_
      refine X.blockEnd ?_
      refine X.seq ?_
      refine W.region ?_
      refine L.v (R1.move rfl) rfl ?_
      refine L.v (R1.addI (b := 1) rfl rfl (by omega)) rfl ?_
      refine L.v (R1.assign rfl) rfl ?_
      refine L.nil ?_
      refine X.next (k + 1) ?_ ?_ ?_
      · exact ⟨rfl, rfl, rfl, trivial⟩
      ·
        exact ⟨by omega, ha, hb, hm0⟩
      · first | omega | (dsimp only; omega)
    ·
      intro hc14
      try simp only [decide_eq_true_eq, decide_eq_false_iff_not, Bool.not_eq_true', Bool.not_eq_false', Int.not_lt, Int.not_le, ne_eq, Decidable.not_not] at hc14
      refine W.exit ?_
      refine X.thenExit ?_
      refine X.nextExit ?_
      refine X.here ?_
      refine X.seq ?_
      refine W.seq ?_
      refine W.region ?_
      refine L.v (R1.assign rfl) rfl ?_
      refine L.nil ?_
      refine X.seq ?_
      refine W.ret ?_
      refine X.result1 rfl (.tmp rfl .nil) ?_
      exact ⟨rfl, hm0⟩

theorem c_Same {M : List Nat} {w : World} {va vb vc vd : Value} {ps fs : List ByteArray} (ha : Strs M w va ps) (hb : Strs M w vb fs) (hc : Strs M w vc ps) (hd : Strs M w vd fs) (hl1 : ps.length ≤ 8796093022000) (hl2 : fs.length ≤ 8796093022000) :
    Ret Try.prog 14 #[.agg #[va, vb], .agg #[vc, vd]] w (fun r w' => r = .bool true ∧ Mod [] w w') := by
  refine Ret.of (vs := [.agg #[va, vb], .agg #[vc, vd]]) (n := 17) Try.func14 rfl rfl rfl rfl ?_
  have hm0 : Mod [] w w := Mod.refl _ _
  refine W.seq ?_
  refine W.region ?_
  refine L.box rfl rfl ?_
  intro g2 w1 hN2
  replace ha := ha.new hN2
  replace hb := hb.new hN2
  replace hc := hc.new hN2
  replace hd := hd.new hN2
  have hge_g2 := New.ge hN2 hm0.size
  replace hm0 := hm0.trans (hN2.mod.mono (by simp))
  have hb2 := hN2.blk
  clear hN2
  refine L.box rfl rfl ?_
  intro g3 w2 hN3
  replace ha := ha.new hN3
  replace hb := hb.new hN3
  replace hc := hc.new hN3
  replace hd := hd.new hN3
  have hge_g3 := New.ge hN3 hm0.size
  replace hm0 := hm0.trans (hN3.mod.mono (by simp))
  have hne_g2_g3 := hb2.ne_ hN3
  replace hb2 := Blk.gr hb2 hN3.mod
  have hb3 := hN3.blk
  clear hN3
  refine L.v (R1.assign rfl) rfl ?_
  refine L.nil ?_
  refine X.seq ?_
  refine W.seq ?_
  refine W.region ?_
  refine L.v (R1.fieldAt rfl tyF24_0) rfl ?_
  refine L.v (R1.loadFld rfl hb2 rfl tyP22) rfl ?_
  refine L.v (R1.fieldAt rfl tyF24_0) rfl ?_
  refine L.v (R1.loadFld rfl hb3 rfl tyP22) rfl ?_
  refine L.call rfl (c_Equal ha hc (by omega)) rfl ?_
  rintro _ w3 ⟨rfl, hm3⟩
  replace ha := ha.gr hm3
  replace hb := hb.gr hm3
  replace hc := hc.gr hm3
  replace hd := hd.gr hm3
  replace hm0 := hm0.trans hm3
  replace hb2 := Blk.gr hb2 hm3
  replace hb3 := Blk.gr hb3 hm3
  clear hm3
  refine L.v (R1.move rfl) rfl ?_
  refine L.on rfl rfl rfl (R1.fieldAt rfl tyF24_1) rfl ?_
  refine L.on rfl rfl rfl (R1.loadFld rfl hb2 rfl tyP22) rfl ?_
  refine L.on rfl rfl rfl (R1.fieldAt rfl tyF24_1) rfl ?_
  refine L.on rfl rfl rfl (R1.loadFld rfl hb3 rfl tyP22) rfl ?_
  refine L.callOn rfl rfl rfl rfl (c_Equal hb hd (by omega)) rfl ?_
  rintro _ w4 ⟨rfl, hm4⟩
  replace ha := ha.gr hm4
  replace hb := hb.gr hm4
  replace hc := hc.gr hm4
  replace hd := hd.gr hm4
  replace hm0 := hm0.trans hm4
  replace hb2 := Blk.gr hb2 hm4
  replace hb3 := Blk.gr hb3 hm4
  clear hm4
  refine L.v (R1.pickT rfl rfl) rfl ?_
  refine L.v (R1.assign rfl) rfl ?_
  refine L.nil ?_
  refine X.seq ?_
  refine W.ret ?_
  refine X.result1 rfl (.tmp rfl .nil) ?_
  exact ⟨rfl, hm0⟩

theorem c_refSame {M : List Nat} {w : World} {va vb vc vd : Value} {ps fs : List ByteArray} (ha : Strs M w va ps) (hb : Strs M w vb fs) (hc : Strs M w vc ps) (hd : Strs M w vd fs) (hl1 : ps.length ≤ 8796093022000) (hl2 : fs.length ≤ 8796093022000) :
    Ret Try.prog 18 #[.agg #[va, vb], .agg #[vc, vd]] w (fun r w' => r = .bool true ∧ Mod [] w w') := by
  refine Ret.of (vs := [.agg #[va, vb], .agg #[vc, vd]]) (n := 17) Try.func18 rfl rfl rfl rfl ?_
  have hm0 : Mod [] w w := Mod.refl _ _
  refine W.seq ?_
  refine W.region ?_
  refine L.box rfl rfl ?_
  intro g2 w1 hN2
  replace ha := ha.new hN2
  replace hb := hb.new hN2
  replace hc := hc.new hN2
  replace hd := hd.new hN2
  have hge_g2 := New.ge hN2 hm0.size
  replace hm0 := hm0.trans (hN2.mod.mono (by simp))
  have hb2 := hN2.blk
  clear hN2
  refine L.box rfl rfl ?_
  intro g3 w2 hN3
  replace ha := ha.new hN3
  replace hb := hb.new hN3
  replace hc := hc.new hN3
  replace hd := hd.new hN3
  have hge_g3 := New.ge hN3 hm0.size
  replace hm0 := hm0.trans (hN3.mod.mono (by simp))
  have hne_g2_g3 := hb2.ne_ hN3
  replace hb2 := Blk.gr hb2 hN3.mod
  have hb3 := hN3.blk
  clear hN3
  refine L.v (R1.assign rfl) rfl ?_
  refine L.nil ?_
  refine X.seq ?_
  refine W.seq ?_
  refine W.region ?_
  refine L.v (R1.fieldAt rfl tyF32_0) rfl ?_
  refine L.v (R1.loadFld rfl hb2 rfl tyP22) rfl ?_
  refine L.v (R1.fieldAt rfl tyF32_0) rfl ?_
  refine L.v (R1.loadFld rfl hb3 rfl tyP22) rfl ?_
  refine L.call rfl (c_texts ha hc (by omega)) rfl ?_
  rintro _ w3 ⟨rfl, hm3⟩
  replace ha := ha.gr hm3
  replace hb := hb.gr hm3
  replace hc := hc.gr hm3
  replace hd := hd.gr hm3
  replace hm0 := hm0.trans hm3
  replace hb2 := Blk.gr hb2 hm3
  replace hb3 := Blk.gr hb3 hm3
  clear hm3
  refine L.v (R1.move rfl) rfl ?_
  refine L.on rfl rfl rfl (R1.fieldAt rfl tyF32_1) rfl ?_
  refine L.on rfl rfl rfl (R1.loadFld rfl hb2 rfl tyP22) rfl ?_
  refine L.on rfl rfl rfl (R1.fieldAt rfl tyF32_1) rfl ?_
  refine L.on rfl rfl rfl (R1.loadFld rfl hb3 rfl tyP22) rfl ?_
  refine L.callOn rfl rfl rfl rfl (c_texts hb hd (by omega)) rfl ?_
  rintro _ w4 ⟨rfl, hm4⟩
  replace ha := ha.gr hm4
  replace hb := hb.gr hm4
  replace hc := hc.gr hm4
  replace hd := hd.gr hm4
  replace hm0 := hm0.trans hm4
  replace hb2 := Blk.gr hb2 hm4
  replace hb3 := Blk.gr hb3 hm4
  clear hm4
  refine L.v (R1.pickT rfl rfl) rfl ?_
  refine L.v (R1.assign rfl) rfl ?_
  refine L.nil ?_
  refine X.seq ?_
  refine W.ret ?_
  refine X.result1 rfl (.tmp rfl .nil) ?_
  exact ⟨rfl, hm0⟩

theorem c_same {M : List Nat} {w : World} {va vb vc vd : Value} {ps fs : List ByteArray} (ha : Strs M w va ps) (hb : Strs M w vb fs) (hc : Strs M w vc ps) (hd : Strs M w vd fs) (hl1 : ps.length ≤ 8796093022000) (hl2 : fs.length ≤ 8796093022000) :
    Ret Try.prog 13 #[.agg #[va, vb], .agg #[vc, vd]] w (fun r w' => r = .bool true ∧ Mod [] w w') := by
  refine Ret.of (vs := [.agg #[va, vb], .agg #[vc, vd]]) (n := 8) Try.func13 rfl rfl rfl rfl ?_
  have hm0 : Mod [] w w := Mod.refl _ _
  refine W.seq ?_
  refine W.region ?_
  refine L.box rfl rfl ?_
  intro g2 w1 hN2
  replace ha := ha.new hN2
  replace hb := hb.new hN2
  replace hc := hc.new hN2
  replace hd := hd.new hN2
  have hge_g2 := New.ge hN2 hm0.size
  replace hm0 := hm0.trans (hN2.mod.mono (by simp))
  have hb2 := hN2.blk
  clear hN2
  refine L.box rfl rfl ?_
  intro g3 w2 hN3
  replace ha := ha.new hN3
  replace hb := hb.new hN3
  replace hc := hc.new hN3
  replace hd := hd.new hN3
  have hge_g3 := New.ge hN3 hm0.size
  replace hm0 := hm0.trans (hN3.mod.mono (by simp))
  have hne_g2_g3 := hb2.ne_ hN3
  replace hb2 := Blk.gr hb2 hN3.mod
  have hb3 := hN3.blk
  clear hN3
  refine L.v (R1.assign rfl) rfl ?_
  refine L.nil ?_
  refine X.seq ?_
  refine W.seq ?_
  refine W.region ?_
  refine L.v (R1.loadBox rfl hb2 tyG24) rfl ?_
  refine L.v (R1.loadBox rfl hb3 tyG32) rfl ?_
  refine L.call rfl (c_refSame ha hb hc hd (by omega) (by omega)) rfl ?_
  rintro _ w3 ⟨rfl, hm3⟩
  replace ha := ha.gr hm3
  replace hb := hb.gr hm3
  replace hc := hc.gr hm3
  replace hd := hd.gr hm3
  replace hm0 := hm0.trans hm3
  replace hb2 := Blk.gr hb2 hm3
  replace hb3 := Blk.gr hb3 hm3
  clear hm3
  refine L.v (R1.assign rfl) rfl ?_
  refine L.nil ?_
  refine X.seq ?_
  refine W.ret ?_
  refine X.result1 rfl (.tmp rfl .nil) ?_
  exact ⟨rfl, hm0⟩

theorem c_with {M : List Nat} {w : World} {v : Value} {ss : List ByteArray} {now : ByteArray} (h : Strs M w v ss) (hl : ss.length ≤ 8796093022000) :
    Ret Try.prog 20 #[v, .string now] w (fun r w' => w'.ownsRow w.heap.size 9 1 r (ss.length + 1) ((ss ++ [now]).map Value.string) ∧ Mod [] w w') := by
  refine Ret.of (vs := [v, .string now]) (n := 11) Try.func20 rfl rfl rfl rfl ?_
  have hm0 : Mod [] w w := Mod.refl _ _
  refine W.seq ?_
  refine W.region ?_
  refine L.v (R1.assign rfl) rfl ?_
  refine L.nil ?_
  refine X.seq ?_
  refine W.seq ?_
  refine W.region ?_
  refine L.buildEmpty tyS22 rfl ?_
  intro g5 w1 hN5
  replace h := h.new hN5
  have hge_g5 := New.ge hN5 hm0.size
  replace hm0 := hm0.trans (hN5.mod.mono (by simp))
  have hb5 := hN5.blk
  clear hN5
  have hown : World.ownsRow w1 w.heap.size 9 1 (.slice (some ⟨g5, 0, none⟩) 0 0) 0 [] := ⟨rfl, .inr ⟨g5, 0, #[], rfl, hge_g5, hb5, Nat.le_refl _, by decide, rfl, rfl⟩⟩
  clear hb5
  refine L.v (R1.move rfl) rfl ?_
  refine L.append rfl rfl hown h Strs.one tyS22 tyZ9 (by omega) (by unfold maxLen; omega) hm0.size rfl ?_
  intro v7 w2 ho7' hG7
  replace h := h.grew hG7
  replace hm0 := hm0.grew hG7 (fun g hg => (own_ge hown g hg).1)
  clear hown
  have ho7 := ho7'; clear ho7'
  obtain ⟨A7, c7, rfl⟩ := own_form ho7
  refine L.v (R1.move rfl) rfl ?_
  refine L.build1 rfl rfl tyS22 tyZ9 rfl ?_
  intro g9 w3 hN9
  replace h := h.gr hN9.mod
  replace hm0 := hm0.trans hN9.mod
  replace ho7 := own_gr ho7 hN9.mod (by simp)
  have hrow : Sl [] w3 1 (.slice (some ⟨g9, 0, none⟩) 1 1) 1 [.string now] := Sl.row1 hN9.blk (by simp)
  clear hN9
  refine L.append rfl rfl ho7 hrow (by simp [Value.oneCell']) tyS22 tyZ9 (by omega) (by unfold maxLen; omega) hm0.size rfl ?_
  intro v10 w4 ho10' hG10
  replace h := h.grew hG10
  replace hm0 := hm0.grew hG10 (fun g hg => (own_ge ho7 g hg).1)
  clear ho7
  have ho10 := ho10'; clear ho10'
  obtain ⟨A10, c10, rfl⟩ := own_form ho10
  refine L.v (R1.assign rfl) rfl ?_
  refine L.nil ?_
  refine X.seq ?_
  refine W.ret ?_
  refine X.result1 rfl (.tmp rfl .nil) ?_
  exact ⟨by simpa using ho10, hm0⟩

theorem c_refPush {M : List Nat} {w : World} {vp vf : Value} {ps : List ByteArray} {now : ByteArray} (hp : Strs M w vp ps) (hbd : Bd M w) (hl : ps.length ≤ 8796093022000) :
    Ret Try.prog 15 #[.agg #[vp, vf], .string now] w (fun r w' => ∃ A c, r = .agg #[.slice A (lastN 32 (ps ++ [now])).length c, .slice none 0 0] ∧ Strs M w' (.slice A (lastN 32 (ps ++ [now])).length c) (lastN 32 (ps ++ [now])) ∧ Mod [] w w') := by
  have hlen : (lastN 32 (ps ++ [now])).length = ps.length + 1 - (ps.length + 1 - 32) := by simp [lastN]
  refine Ret.of (vs := [.agg #[vp, vf], .string now]) (n := 17) Try.func15 rfl rfl rfl rfl ?_
  have hm0 : Mod [] w w := Mod.refl _ _
  refine W.seq ?_
  refine W.region ?_
  refine L.box rfl rfl ?_
  intro g2 w1 hN2
  replace hp := hp.new hN2
  have hge_g2 := New.ge hN2 hm0.size
  replace hm0 := hm0.trans (hN2.mod.mono (by simp))
  have hb2 := hN2.blk
  clear hN2
  refine L.alloc tyZ32 rfl ?_
  intro g4 w2 hN4
  replace hp := hp.new hN4
  have hge_g4 := New.ge hN4 hm0.size
  replace hm0 := hm0.trans (hN4.mod.mono (by simp))
  have hne_g2_g4 := hb2.ne_ hN4
  replace hb2 := Blk.gr hb2 hN4.mod
  have hb4 := hN4.blk
  clear hN4
  refine L.nil ?_
  refine X.seq ?_
  refine W.seq ?_
  refine W.region ?_
  refine L.v (R1.fieldAt rfl tyF32_0) rfl ?_
  refine L.v (R1.loadFld rfl hb2 rfl tyP22) rfl ?_
  refine L.v (R1.move rfl) rfl ?_
  refine L.call rfl (c_with (by assumption) (by omega)) rfl ?_
  rintro v9 w3 ⟨ho9, hm3⟩
  replace hp := hp.ownd ho9 hm3
  have hno_ho9_g2 := own_ne_old ho9 hb2
  have hno_ho9_g4 := own_ne_old ho9 hb4
  replace ho9 := own_less ho9 hm0.size
  replace hm0 := hm0.trans hm3
  replace hb2 := Blk.gr hb2 hm3
  replace hb4 := Blk.gr hb4 hm3
  clear hm3
  obtain ⟨A9, c9, rfl⟩ := own_form ho9
  refine L.v (R1.assign rfl) rfl ?_
  refine L.nil ?_
  refine X.seq ?_
  refine W.seq ?_
  refine W.block ?_
  refine W.loop (ι := Nat × Value) (fun (k, u) => [(4, .pointer (some ⟨g4, 0, none⟩)), (5, u)]) (fun (k, u) w_ => (k = 0 ∨ k + 32 ≤ ps.length + 1) ∧ Blk w_ g4 32 #[.slice none 0 0, .slice none 0 0] ∧ Strs (g4 :: M) w_ u ((ps ++ [now]).drop k) ∧ Mod [] w w_) (fun (k, u) => ps.length + 1 - k) (0, .slice A9 (ps.length + 1) c9) ?_ ?_ ?_
  · exact ⟨rfl, rfl, trivial⟩
  ·
    refine ⟨.inl rfl, hb4, ?_, hm0⟩
    have h1 : Sl (g4 :: M) w3 1 (.slice A9 (ps.length + 1) c9) (ps.length + 1) ((ps ++ [now]).map Value.string) := Sl.of_own ho9 (fun g hg hh => by
        rcases List.mem_cons.1 hh with rfl | h2
        · exact hno_ho9_g4 hg
        · exact hbd.not (own_ge ho9 g hg).1 h2)
    exact h1.congr (by simp) (by simp)
  ·
    rintro ⟨k, u⟩ w4 ⟨hk, hb4, hu, hm0⟩
    obtain ⟨A, c, rfl⟩ := hu.form
    have hcap := Sl.capOf hu rfl
    simp only [List.length_drop, List.length_append, List.length_cons, List.length_nil] at hcap
    refine W.seq ?_
    refine W.seq ?_
    refine W.region ?_
    refine L.v (R1.move rfl) rfl ?_
    refine L.v (R1.len rfl tyS22) rfl ?_
    refine L.v (R1.gt rfl rfl) rfl ?_
    refine L.nil ?_
    refine X.seq ?_
    refine W.cond rfl ?_ ?_
    ·
      intro hc12
      simp only [decide_eq_true_eq, decide_eq_false_iff_not, List.length_drop, List.length_append, List.length_cons, List.length_nil] at hc12
      have hcut : Strs (g4 :: M) w4 (cutS A c 1 ((ps ++ [now]).drop k).length 1) ((ps ++ [now]).drop (k + 1)) := by
          have h1 := Sl.cutL hu (l := 1) (by simp; omega) rfl
          exact h1.congr (by simp; omega) (by simp [List.map_drop])
      refine W.skip ?_
      refine X.seq ?_
      refine W.block ?_
      refine W.region ?_
      refine L.v (R1.move rfl) rfl ?_
      refine L.v ((R1.sliceL rfl rfl tyS22 (by omega) (by simp; omega)).asV (v := cutS A c 1 ((ps ++ [now]).drop k).length 1) rfl) rfl ?_
      refine L.v (R1.assign rfl) rfl ?_
      refine L.nil ?_
      refine X.blockEnd ?_
      refine X.next (k + 1, cutS A c 1 ((ps ++ [now]).drop k).length 1) ?_ ?_ ?_
      · exact ⟨rfl, rfl, trivial⟩
      ·
        exact ⟨by omega, hb4, hcut, hm0⟩
      · first | omega | (dsimp only; omega)
    ·
      intro hc12
      simp only [decide_eq_true_eq, decide_eq_false_iff_not, List.length_drop, List.length_append, List.length_cons, List.length_nil] at hc12
      have he : (ps ++ [now]).drop k = lastN 32 (ps ++ [now]) := by
          unfold lastN
          congr 1
          simp; omega
      refine W.exit ?_
      refine X.thenExit ?_
      refine X.nextExit ?_
      refine X.here ?_
      refine X.seq ?_
      refine W.seq ?_
      refine W.region ?_
      refine L.v (R1.move rfl) rfl ?_
      refine L.v (R1.build rfl (built_R1 _ _ _)) rfl ?_
      refine L.storeBox rfl rfl hb4 rfl rfl tyG32 ?_
      intro w5 hb4' hm5
      replace hu := hu.mod hm5 (by simp)
      replace hm0 := hm0.old1 hm5 hge_g4
      clear hm5
      replace hb4 := hb4'; clear hb4'
      refine L.nil ?_
      refine X.seq ?_
      refine W.ret ?_
      refine X.result1 rfl (.cell rfl (loadVar_blk hb4 tyG32) .nil) ?_
      rw [← he]
      exact ⟨_, _, rfl, hu.sub (by intro g hg; simp [hg]), hm0⟩

end Go.Proofs.Ytbomlakekdamhaa
