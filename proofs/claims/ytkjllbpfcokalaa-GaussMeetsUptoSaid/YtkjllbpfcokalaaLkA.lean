/- Walks: what the functions compute. -/
import Derived.Test.YtkjllbpfcokalaaLhA
import Derived.Test.YtkjllbpfcokalaaRefE
namespace Go.Proofs.Ytkjllbpfcokalaa
open Go.RowKit
set_option linter.unusedVariables false
set_option linter.unusedSimpArgs false
set_option maxRecDepth 10000

def knA : CR := ⟨0, [⟨0, QR.nf ((1 : Int) : Rat)⟩, ⟨1, QR.nf ((1 : Int) : Rat)⟩], QR.nf ((-3 : Int) : Rat)⟩
def knB : CR := ⟨0, [⟨0, QR.nf ((1 : Int) : Rat)⟩, ⟨1, QR.nf ((-1 : Int) : Rat)⟩], QR.nf ((-1 : Int) : Rat)⟩
theorem nf_is (q : Rat) : (QR.nf q).is = true := by
  unfold QR.is isN QR.nf
  simp only [rv_toL]
  simp
theorem nf_sm2 {z : Int} (h : z.natAbs < 4294967296) : SmQ 2 (QR.nf ((z : Int) : Rat)) := by
  constructor
  · show (toL ((z : Int) : Rat).num.natAbs).length ≤ 2
    rw [Rat.num_intCast]
    by_cases h0 : z.natAbs = 0
    · rw [h0, toL_zero]; decide
    · rw [toL_small h0 h]; simp
  · show (toL ((z : Int) : Rat).den).length ≤ 2
    rw [Rat.den_intCast, toL_1]; decide
theorem nf_len {z : Int} (h0 : z.natAbs ≠ 0) (h : z.natAbs < 4294967296) : (QR.nf ((z : Int) : Rat)).n.length = 1 := by
  show (toL ((z : Int) : Rat).num.natAbs).length = 1
  rw [Rat.num_intCast, toL_small h0 h]; rfl
theorem kn_sm : ∀ c ∈ [knA, knB, knA], SmC 150 c := fun c hc => by
  have h1 : ∀ z : Int, z.natAbs < 4294967296 → SmQ 150 (QR.nf ((z : Int) : Rat)) := fun z hz => ⟨Nat.le_trans (nf_sm2 hz).1 (by decide), Nat.le_trans (nf_sm2 hz).2 (by decide)⟩
  have h2 : SmC 150 knA := ⟨by show 2 ≤ 150; decide, h1 _ (by decide), fun t ht => by
    rcases List.mem_cons.1 ht with rfl | ht
    · exact h1 _ (by decide)
    · rcases List.mem_cons.1 ht with rfl | ht
      · exact h1 _ (by decide)
      · cases ht⟩
  have h3 : SmC 150 knB := ⟨by show 2 ≤ 150; decide, h1 _ (by decide), fun t ht => by
    rcases List.mem_cons.1 ht with rfl | ht
    · exact h1 _ (by decide)
    · rcases List.mem_cons.1 ht with rfl | ht
      · exact h1 _ (by decide)
      · cases ht⟩
  rcases List.mem_cons.1 hc with rfl | hc
  · exact h2
  · rcases List.mem_cons.1 hc with rfl | hc
    · exact h3
    · rcases List.mem_cons.1 hc with rfl | hc
      · exact h2
      · cases hc
theorem kn_isA : isC knA (heldG 2 : Int) = true := by
  show (decide ((0 : Int) ≤ 0) && (decide ((0 : Int) ≤ 4) && ((QR.nf ((-3 : Int) : Rat)).is && (decide ((0 : Int) ≤ 0) && (decide ((0 : Int) < (heldG 2 : Int)) && ((QR.nf ((1 : Int) : Rat)).is && (decide ((QR.nf ((1 : Int) : Rat)).n.length ≠ 0) && (decide ((0 : Int) + 1 ≤ 1) && (decide ((1 : Int) < (heldG 2 : Int)) && ((QR.nf ((1 : Int) : Rat)).is && (decide ((QR.nf ((1 : Int) : Rat)).n.length ≠ 0) && true))))))))))) = true
  rw [nf_is, nf_is, nf_len (by decide) (by decide)]; decide
theorem kn_isB : isC knB (heldG 2 : Int) = true := by
  show (decide ((0 : Int) ≤ 0) && (decide ((0 : Int) ≤ 4) && ((QR.nf ((-1 : Int) : Rat)).is && (decide ((0 : Int) ≤ 0) && (decide ((0 : Int) < (heldG 2 : Int)) && ((QR.nf ((1 : Int) : Rat)).is && (decide ((QR.nf ((1 : Int) : Rat)).n.length ≠ 0) && (decide ((0 : Int) + 1 ≤ 1) && (decide ((1 : Int) < (heldG 2 : Int)) && ((QR.nf ((-1 : Int) : Rat)).is && (decide ((QR.nf ((-1 : Int) : Rat)).n.length ≠ 0) && true))))))))))) = true
  rw [nf_is, nf_is, nf_len (by decide) (by decide), nf_len (by decide) (by decide)]; decide
def vkA : Vec := cv 2 [(0, ((1 : Int) : Rat)), (1, ((1 : Int) : Rat))] ((-3 : Int) : Rat)
def vkB : Vec := cv 2 [(0, ((1 : Int) : Rat)), (1, ((-1 : Int) : Rat))] ((-1 : Int) : Rat)
theorem kn_conA : conT knA = ([(0, ((1 : Int) : Rat)), (1, ((1 : Int) : Rat))], ((-3 : Int) : Rat)) := by
  show ([(_, (QR.nf _).val), (_, (QR.nf _).val)], (QR.nf _).val) = _
  rw [QR.nf_val, QR.nf_val]; rfl
theorem kn_conB : conT knB = ([(0, ((1 : Int) : Rat)), (1, ((-1 : Int) : Rat))], ((-1 : Int) : Rat)) := by
  show ([(_, (QR.nf _).val), (_, (QR.nf _).val)], (QR.nf _).val) = _
  rw [QR.nf_val, QR.nf_val]; rfl
theorem kn_vecs2 : vecs (heldG 2) [knA, knB] = [vkA, vkB] := by
  unfold vecs
  rw [List.filter_cons_of_pos (by exact kn_isA), List.filter_cons_of_pos (by exact kn_isB)]
  simp only [List.filter_nil, List.map_cons, List.map_nil]
  rw [kn_conA, kn_conB]; rfl
theorem kn_vecs3 : vecs (heldG 2) [knA, knB, knA] = [vkA, vkB, vkA] := by
  unfold vecs
  rw [List.filter_cons_of_pos (by exact kn_isA), List.filter_cons_of_pos (by exact kn_isB), List.filter_cons_of_pos (by exact kn_isA)]
  simp only [List.filter_nil, List.map_cons, List.map_nil]
  rw [kn_conA, kn_conB]; rfl
theorem vkA_at (i : Nat) : vkA i = if i = 0 then 1 else if i = 1 then 1 else if i = 2 then -3 else 0 := by
  match i with
  | 0 => rfl
  | 1 => rfl
  | 2 => rfl
  | i + 3 => simp [vkA, cv, coef]
theorem vkB_at (i : Nat) : vkB i = if i = 0 then 1 else if i = 1 then -1 else if i = 2 then -1 else 0 := by
  match i with
  | 0 => rfl
  | 1 => rfl
  | 2 => rfl
  | i + 3 => simp [vkB, cv, coef]
theorem kn_sp {L : List Vec} (hA : vkA ∈ L) (hB : vkB ∈ L) : Sp L (fun i => ev1 0 i + -1 * kv 2 2 i) := by
  have h := Sp.add (1 / 2) (Sp.add (1 / 2) Sp.zero hA) hB
  have e : (fun i => ev1 0 i + -1 * kv 2 2 i) = fun i => (fun i => (0 : Rat) + 1 / 2 * vkA i) i + 1 / 2 * vkB i := by
    funext i
    simp only [vkA_at, vkB_at, ev1, kv]
    match i with
    | 0 => simp; grind
    | 1 => simp; grind
    | 2 => simp; grind
    | i + 3 => simp; grind
  rw [e]; exact h
theorem kn_ok {L : List Vec} (hL : ∀ v ∈ L, v = vkA ∨ v = vkB) (k : Rat) (h : Sp L (kv 2 k)) : k = 0 := by
  have h1 := Sp.at_ (n := 2) (L := L) (val := fun i => if i = 0 then 2 else 1) (fun v hv => by
    rcases hL v hv with rfl | rfl
    · simp only [atv, sumN, vkA_at]; simp; grind
    · simp only [atv, sumN, vkB_at]; simp; grind) h
  rwa [atv_kv] at h1
theorem kn_fix {t : Nat} {rs : List (Ts × Rat)} {ok : Bool} (h : PInv (heldG 2) t (vecs (heldG 2) [knA, knB]) rs ok) : ok = true ∧ fixT 2 0 rs ok = some 2 := by
  rw [kn_vecs2] at h
  have hok : ok = true := (P_ok h).2 (kn_ok (fun v hv => by simpa using hv))
  exact ⟨hok, (P_fix h 2).2 ⟨hok, by decide, by decide, kn_sp (by simp) (by simp)⟩⟩
theorem kn_rank {t : Nat} {rs : List (Ts × Rat)} {ok : Bool} (h : PInv (heldG 2) t (vecs (heldG 2) [knA, knB, knA]) rs ok) : rs.length = 2 := by
  rw [kn_vecs3] at h
  obtain ⟨R, h1, h2⟩ := h.rank
  have h3 : R.length ≤ 2 := h1.rank_n
  have hl0 : ∃ r ∈ R, r.p = 0 := (h1.lead_iff 0).2 ⟨by decide, vkA, .mem (by simp), by rw [vkA_at]; simp, fun j hj => by omega⟩
  have hl1 : ∃ r ∈ R, r.p = 1 := (h1.lead_iff 1).2 ⟨by decide, vsub vkA vkB 1, Sp.sub 1 (.mem (by simp)) (.mem (by simp)), by simp only [vsub, vkA_at, vkB_at]; simp; grind, fun j hj => by
    have : j = 0 := by omega
    subst this; simp only [vsub, vkA_at, vkB_at]; simp; grind⟩
  have h4 := nodup_le (xs := [0, 1]) (ys := R.map (·.p)) (by decide) (fun x hx => by
    rcases List.mem_cons.1 hx with rfl | hx
    · obtain ⟨r, h5, h6⟩ := hl0; exact List.mem_map.2 ⟨r, h5, h6⟩
    · rcases List.mem_cons.1 hx with rfl | hx
      · obtain ⟨r, h5, h6⟩ := hl1; exact List.mem_map.2 ⟨r, h5, h6⟩
      · cases hx)
  simp at h4
  omega
theorem kn_oks : OkS 2 22651 [knA, knB] := oks12 (fun c hc => kn_sm c (by simp at hc; rcases hc with rfl | rfl <;> simp)) (by decide)
theorem kn_oks3 : OkS 2 22651 [knA, knB, knA] := oks12 kn_sm (by decide)

theorem fillT2 (v1 : Int) (s1 : Bool) (A1 : Option Addr) (n1 c1 : Nat) (B1 : Option Addr) (m1 d1 : Nat) (v2 : Int) (s2 : Bool) (A2 : Option Addr) (n2 c2 : Nat) (B2 : Option Addr) (m2 d2 : Nat) : Instr.fill (fun i => some (i * 4, 4)) ((Array.range (2 * 4)).map ((Value.agg #[.int .i64 0, .bool false, .slice none 0 0, .slice none 0 0]).cells[· % (Value.agg #[.int .i64 0, .bool false, .slice none 0 0, .slice none 0 0]).cells.size]!)) [(0, .agg #[.int .i64 v1, .bool s1, .slice A1 n1 c1, .slice B1 m1 d1]), (1, .agg #[.int .i64 v2, .bool s2, .slice A2 n2 c2, .slice B2 m2 d2])] = some #[.int .i64 v1, .bool s1, .slice A1 n1 c1, .slice B1 m1 d1, .int .i64 v2, .bool s2, .slice A2 n2 c2, .slice B2 m2 d2] := by kernel_rfl
theorem fillC2 (v1 : Int) (T1 : Option Addr) (l1 t1 : Nat) (s1 : Bool) (A1 : Option Addr) (n1 c1 : Nat) (B1 : Option Addr) (m1 d1 : Nat) (v2 : Int) (T2 : Option Addr) (l2 t2 : Nat) (s2 : Bool) (A2 : Option Addr) (n2 c2 : Nat) (B2 : Option Addr) (m2 d2 : Nat) : Instr.fill (fun i => some (i * 5, 5)) ((Array.range (2 * 5)).map ((Value.agg #[.int .i64 0, .slice none 0 0, .bool false, .slice none 0 0, .slice none 0 0]).cells[· % (Value.agg #[.int .i64 0, .slice none 0 0, .bool false, .slice none 0 0, .slice none 0 0]).cells.size]!)) [(0, .agg #[.int .i64 v1, .slice T1 l1 t1, .bool s1, .slice A1 n1 c1, .slice B1 m1 d1]), (1, .agg #[.int .i64 v2, .slice T2 l2 t2, .bool s2, .slice A2 n2 c2, .slice B2 m2 d2])] = some #[.int .i64 v1, .slice T1 l1 t1, .bool s1, .slice A1 n1 c1, .slice B1 m1 d1, .int .i64 v2, .slice T2 l2 t2, .bool s2, .slice A2 n2 c2, .slice B2 m2 d2] := by kernel_rfl
theorem fillC3 (v1 : Int) (T1 : Option Addr) (l1 t1 : Nat) (s1 : Bool) (A1 : Option Addr) (n1 c1 : Nat) (B1 : Option Addr) (m1 d1 : Nat) (v2 : Int) (T2 : Option Addr) (l2 t2 : Nat) (s2 : Bool) (A2 : Option Addr) (n2 c2 : Nat) (B2 : Option Addr) (m2 d2 : Nat) (v3 : Int) (T3 : Option Addr) (l3 t3 : Nat) (s3 : Bool) (A3 : Option Addr) (n3 c3 : Nat) (B3 : Option Addr) (m3 d3 : Nat) : Instr.fill (fun i => some (i * 5, 5)) ((Array.range (3 * 5)).map ((Value.agg #[.int .i64 0, .slice none 0 0, .bool false, .slice none 0 0, .slice none 0 0]).cells[· % (Value.agg #[.int .i64 0, .slice none 0 0, .bool false, .slice none 0 0, .slice none 0 0]).cells.size]!)) [(0, .agg #[.int .i64 v1, .slice T1 l1 t1, .bool s1, .slice A1 n1 c1, .slice B1 m1 d1]), (1, .agg #[.int .i64 v2, .slice T2 l2 t2, .bool s2, .slice A2 n2 c2, .slice B2 m2 d2]), (2, .agg #[.int .i64 v3, .slice T3 l3 t3, .bool s3, .slice A3 n3 c3, .slice B3 m3 d3])] = some #[.int .i64 v1, .slice T1 l1 t1, .bool s1, .slice A1 n1 c1, .slice B1 m1 d1, .int .i64 v2, .slice T2 l2 t2, .bool s2, .slice A2 n2 c2, .slice B2 m2 d2, .int .i64 v3, .slice T3 l3 t3, .bool s3, .slice A3 n3 c3, .slice B3 m3 d3] := by kernel_rfl
set_option maxHeartbeats 2000000 in
theorem c_known10 {w : World} :
    Ret Try.prog 14 #[] w (fun r w' => r = .bool true ∧ Mod [] w w') := by
 have hbd : Bd [] w := fun m h9 => by cases h9
 refine Ret.of (vs := []) (n := 42) Try.func14 rfl rfl rfl rfl ?_
 have hm0 : Mod [] w w := Mod.refl _ _
 refine W.seq <| W.region <| L.v (R1.assign rfl) rfl <| L.nil <| X.seq <| W.seq <| W.region <| L.call rfl (c_ref2_Int (n := 1) (by decide) (by decide) hbd) rfl ?_
 rintro _ w1 ⟨⟨A6, c6, B6, e6, rfl, hn6, hd6⟩, hm1⟩
 replace hbd := hbd.gr hm1
 replace hm0 := hm0.trans hm1
 clear hm1
 have F6 := Fit.int (n := 1) (by decide) (by decide)
 refine L.alloc tyZ27 rfl ?_
 intro g1 w2 hN1
 replace hbd := hbd.new hN1
 have hge_g1 := New.ge hN1 hm0.size
 replace hm0 := hm0.trans (hN1.mod.mono (by simp))
 replace hn6 := hn6.new hN1
 replace hd6 := hd6.new hN1
 have hb1 := hN1.blk
 clear hN1
 refine L.storeBox rfl rfl hb1 rfl rfl tyG27 ?_
 intro w3 hb1' hm3
 replace hbd := hbd.gr hm3
 replace hm0 := hm0.old1 hm3 hge_g1
 replace hn6 := hn6.mod hm3 (by simp)
 replace hd6 := hd6.mod hm3 (by simp)
 clear hm3
 replace hb1 := hb1'; clear hb1'
 refine L.nil <| X.seq <| W.seq <| W.cut (ι := Nat × Option Addr × Nat × Option Addr × Nat × Nat) (fun (g11, A12, c12, B12, e12, g2) => [(1, .pointer (some ⟨g1, 0, none⟩)), (2, .pointer (some ⟨g2, 0, none⟩))]) (fun (g11, A12, c12, B12, e12, g2) w_ => U32 [] w_ (.slice A6 (toL (((1 : Int)) : Rat).num.natAbs).length c6) (toL (((1 : Int)) : Rat).num.natAbs) ∧ U32 [] w_ (.slice B6 (toL (((1 : Int)) : Rat).den).length e6) (toL (((1 : Int)) : Rat).den) ∧ Blk w_ g1 27 #[.bool (decide ((((1 : Int)) : Rat).num < 0)), .slice A6 (toL (((1 : Int)) : Rat).num.natAbs).length c6, .slice B6 (toL (((1 : Int)) : Rat).den).length e6] ∧ Lay rdT [] w_ (.slice (some ⟨g11, 0, none⟩) 2 2) knA.ts ∧ U32 [] w_ (.slice A12 (toL (((-3 : Int)) : Rat).num.natAbs).length c12) (toL (((-3 : Int)) : Rat).num.natAbs) ∧ U32 [] w_ (.slice B12 (toL (((-3 : Int)) : Rat).den).length e12) (toL (((-3 : Int)) : Rat).den) ∧ Blk w_ g2 29 #[.int .i64 0, .slice (some ⟨g11, 0, none⟩) 2 2, .bool (decide ((((-3 : Int)) : Rat).num < 0)), .slice A12 (toL (((-3 : Int)) : Rat).num.natAbs).length c12, .slice B12 (toL (((-3 : Int)) : Rat).den).length e12] ∧ g1 ≠ g2 ∧ Bd [] w_ ∧ Mod [] w w_) ?_ ?_
 ·
  refine W.drawW (T := [8]) rfl (by decide +kernel) (NoHang.join (NoHang.then NoHang.post)) (fun w4 hm4 => ?_)
  replace hbd := hbd.gr hm4
  replace hm0 := hm0.trans hm4
  replace hn6 := hn6.gr hm4
  replace hd6 := hd6.gr hm4
  replace hb1 := Blk.gr hb1 hm4
  have hS1 : Mod [] w4 w4 := Mod.refl _ _
  clear hm4
  have hb1_s := hb1
  refine D.take 0 rfl (by decide +kernel) (fun w_ hS => (R1.loadBox rfl (Blk.gr hb1_s hS) tyG27)) hS1 rfl <| D.take 1 rfl (by decide +kernel) (fun w_ hS => (R1.build (vs := [.int .i64 0, .agg #[.bool (decide ((((1 : Int)) : Rat).num < 0)), .slice A6 (toL (((1 : Int)) : Rat).num.natAbs).length c6, .slice B6 (toL (((1 : Int)) : Rat).den).length e6]]) rfl (built_T01 _ _ _ _ _ _ _ _))) hS1 rfl <| D.take 2 rfl (by decide +kernel) (fun w_ hS => (R1.loadBox rfl (Blk.gr hb1_s hS) tyG27)) hS1 rfl <| D.take 3 rfl (by decide +kernel) (fun w_ hS => (R1.build (vs := [.int .i64 1, .agg #[.bool (decide ((((1 : Int)) : Rat).num < 0)), .slice A6 (toL (((1 : Int)) : Rat).num.natAbs).length c6, .slice B6 (toL (((1 : Int)) : Rat).den).length e6]]) rfl (built_T01 _ _ _ _ _ _ _ _))) hS1 rfl <| D.many (rs := [4, 5, 7]) (by decide +kernel) rfl ?_
  intro i_ hi_
  simp only [List.mem_cons, List.not_mem_nil, or_false] at hi_
  rcases hi_ with rfl | rfl | rfl
  ·
   refine ⟨_, rfl, fun hX => ?_⟩
   refine L.buildSlice (cells := [.int .i64 0, .bool (decide ((((1 : Int)) : Rat).num < 0)), .slice A6 (toL (((1 : Int)) : Rat).num.natAbs).length c6, .slice B6 (toL (((1 : Int)) : Rat).den).length e6, .int .i64 1, .bool (decide ((((1 : Int)) : Rat).num < 0)), .slice A6 (toL (((1 : Int)) : Rat).num.natAbs).length c6, .slice B6 (toL (((1 : Int)) : Rat).den).length e6]) rfl tyS24 tyZ50 (fillT2 _ _ _ _ _ _ _ _ _ _ _ _ _ _ _ _) (by decide) (by decide) rfl ?_
   intro g11 w5 hN11
   have hgs_g11 := New.ge hN11 hS1.size
   replace hS1 := hS1.trans hN11.mod
   replace hbd := hbd.new hN11
   have hge_g11 := New.ge hN11 hm0.size
   replace hm0 := hm0.trans (hN11.mod.mono (by simp))
   replace hn6 := hn6.new hN11
   replace hd6 := hd6.new hN11
   have hne_g1_g11 := hb1.ne_ hN11
   replace hb1 := Blk.gr hb1 hN11.mod
   have hb11 := hN11.blk
   clear hN11
   refine L.nil (hX _ _ ⟨.inr hS1, ?_⟩)
   refine D.many (rs := [5, 7]) (by decide +kernel) rfl ?_
   intro i_ hi_
   simp only [List.mem_cons, List.not_mem_nil, or_false] at hi_
   rcases hi_ with rfl | rfl
   ·
    refine ⟨_, rfl, fun hX => ?_⟩
    refine L.call rfl (c_ref2_Int (n := -3) (by decide) (by decide) hbd) rfl ?_
    rintro _ w6 ⟨⟨A12, c12, B12, e12, rfl, hn12, hd12⟩, hm6⟩
    replace hbd := hbd.gr hm6
    replace hm0 := hm0.trans hm6
    replace hn6 := hn6.gr hm6
    replace hd6 := hd6.gr hm6
    replace hb1 := Blk.gr hb1 hm6
    replace hb11 := Blk.gr hb11 hm6
    replace hS1 := hS1.trans hm6
    clear hm6
    have F12 := Fit.int (n := -3) (by decide) (by decide)
    refine L.nil (hX _ _ ⟨.inr hS1, ?_⟩)
    refine D.take 6 rfl (by decide +kernel) (fun w_ hS => (R1.build (vs := [.slice (some ⟨g11, 0, none⟩) 2 2, .agg #[.bool (decide ((((-3 : Int)) : Rat).num < 0)), .slice A12 (toL (((-3 : Int)) : Rat).num.natAbs).length c12, .slice B12 (toL (((-3 : Int)) : Rat).den).length e12]]) rfl (built_C12g _ _ _ _ _ _ _ _ _ _))) hS1 rfl <| D.one 7 rfl (by decide +kernel) (fun hX => ?_)
    refine L.alloc tyZ29 rfl ?_
    intro g2 w7 hN2
    replace hS1 := hS1.trans hN2.mod
    replace hbd := hbd.new hN2
    have hge_g2 := New.ge hN2 hm0.size
    replace hm0 := hm0.trans (hN2.mod.mono (by simp))
    replace hn6 := hn6.new hN2
    replace hd6 := hd6.new hN2
    have hne_g1_g2 := hb1.ne_ hN2
    replace hb1 := Blk.gr hb1 hN2.mod
    have hne_g11_g2 := hb11.ne_ hN2
    replace hb11 := Blk.gr hb11 hN2.mod
    replace hn12 := hn12.new hN2
    replace hd12 := hd12.new hN2
    have hb2 := hN2.blk
    clear hN2
    refine L.nil (hX _ _ ⟨.inr hS1, ?_⟩)
    refine D.one 8 rfl (by decide +kernel) (fun hX => ?_)
    refine L.storeBox rfl rfl hb2 rfl rfl tyG29 ?_
    intro w8 hb2' hm8
    replace hbd := hbd.gr hm8
    replace hm0 := hm0.old1 hm8 hge_g2
    replace hn6 := hn6.mod hm8 (by simp)
    replace hd6 := hd6.mod hm8 (by simp)
    replace hb1 := Blk.far hb1 hm8 (by first | exact hne_g1_g2 | exact (hne_g2_g1).symm)
    replace hb11 := Blk.far hb11 hm8 (by first | exact hne_g11_g2 | exact (hne_g2_g11).symm)
    replace hn12 := hn12.mod hm8 (by simp)
    replace hd12 := hd12.mod hm8 (by simp)
    clear hm8
    replace hb2 := hb2'; clear hb2'
    refine L.nil (hX _ _ ⟨.inl rfl, ?_⟩)
    refine D.done (by decide +kernel) ?_ _
    refine X.join (g11, A12, c12, B12, e12, g2) ?_ ?_
    · exact ⟨rfl, rfl, trivial⟩
    ·
     exact ⟨hn6.sub (M' := []) (by intro b hb; cases hb), hd6.sub (M' := []) (by intro b hb; cases hb), hb1, Lay.of_blk (M := []) (css := [[.int .i64 0, .bool (decide ((((1 : Int)) : Rat).num < 0)), .slice A6 (toL (((1 : Int)) : Rat).num.natAbs).length c6, .slice B6 (toL (((1 : Int)) : Rat).den).length e6], [.int .i64 1, .bool (decide ((((1 : Int)) : Rat).num < 0)), .slice A6 (toL (((1 : Int)) : Rat).num.natAbs).length c6, .slice B6 (toL (((1 : Int)) : Rat).den).length e6]]) hb11 ((LayL.one _ (⟨0, QR.nf (((1 : Int)) : Rat)⟩ : TR) (rdT_mk (t := ⟨0, QR.nf (((1 : Int)) : Rat)⟩) (hn6.sub (M' := []) (by intro b hb; cases hb)) (hd6.sub (M' := []) (by intro b hb; cases hb)))).append (LayL.one _ (⟨1, QR.nf (((1 : Int)) : Rat)⟩ : TR) (rdT_mk (t := ⟨1, QR.nf (((1 : Int)) : Rat)⟩) (hn6.sub (M' := []) (by intro b hb; cases hb)) (hd6.sub (M' := []) (by intro b hb; cases hb))))) rfl rfl (by decide) (by simp), hn12.sub (M' := []) (by intro b hb; cases hb), hd12.sub (M' := []) (by intro b hb; cases hb), hb2, hne_g1_g2, hbd.sub (M' := []) (by intro b hb; cases hb), hm0⟩
   ·
    refine ⟨_, rfl, fun hX => ?_⟩
    refine L.alloc tyZ29 rfl ?_
    intro g2 w9 hN2
    replace hS1 := hS1.trans hN2.mod
    replace hbd := hbd.new hN2
    have hge_g2 := New.ge hN2 hm0.size
    replace hm0 := hm0.trans (hN2.mod.mono (by simp))
    replace hn6 := hn6.new hN2
    replace hd6 := hd6.new hN2
    have hne_g1_g2 := hb1.ne_ hN2
    replace hb1 := Blk.gr hb1 hN2.mod
    have hne_g11_g2 := hb11.ne_ hN2
    replace hb11 := Blk.gr hb11 hN2.mod
    have hb2 := hN2.blk
    clear hN2
    refine L.nil (hX _ _ ⟨.inr hS1, ?_⟩)
    refine D.one 5 rfl (by decide +kernel) (fun hX => ?_)
    refine L.call rfl (c_ref2_Int (n := -3) (by decide) (by decide) hbd) rfl ?_
    rintro _ w10 ⟨⟨A12, c12, B12, e12, rfl, hn12, hd12⟩, hm10⟩
    replace hbd := hbd.gr hm10
    replace hm0 := hm0.trans hm10
    replace hn6 := hn6.gr hm10
    replace hd6 := hd6.gr hm10
    replace hb1 := Blk.gr hb1 hm10
    replace hb11 := Blk.gr hb11 hm10
    replace hb2 := Blk.gr hb2 hm10
    replace hS1 := hS1.trans hm10
    clear hm10
    have F12 := Fit.int (n := -3) (by decide) (by decide)
    refine L.nil (hX _ _ ⟨.inr hS1, ?_⟩)
    refine D.take 6 rfl (by decide +kernel) (fun w_ hS => (R1.build (vs := [.slice (some ⟨g11, 0, none⟩) 2 2, .agg #[.bool (decide ((((-3 : Int)) : Rat).num < 0)), .slice A12 (toL (((-3 : Int)) : Rat).num.natAbs).length c12, .slice B12 (toL (((-3 : Int)) : Rat).den).length e12]]) rfl (built_C12g _ _ _ _ _ _ _ _ _ _))) hS1 rfl <| D.one 8 rfl (by decide +kernel) (fun hX => ?_)
    refine L.storeBox rfl rfl hb2 rfl rfl tyG29 ?_
    intro w11 hb2' hm11
    replace hbd := hbd.gr hm11
    replace hm0 := hm0.old1 hm11 hge_g2
    replace hn6 := hn6.mod hm11 (by simp)
    replace hd6 := hd6.mod hm11 (by simp)
    replace hb1 := Blk.far hb1 hm11 (by first | exact hne_g1_g2 | exact (hne_g2_g1).symm)
    replace hb11 := Blk.far hb11 hm11 (by first | exact hne_g11_g2 | exact (hne_g2_g11).symm)
    replace hn12 := hn12.mod hm11 (by simp)
    replace hd12 := hd12.mod hm11 (by simp)
    clear hm11
    replace hb2 := hb2'; clear hb2'
    refine L.nil (hX _ _ ⟨.inl rfl, ?_⟩)
    refine D.done (by decide +kernel) ?_ _
    refine X.join (g11, A12, c12, B12, e12, g2) ?_ ?_
    · exact ⟨rfl, rfl, trivial⟩
    ·
     exact ⟨hn6.sub (M' := []) (by intro b hb; cases hb), hd6.sub (M' := []) (by intro b hb; cases hb), hb1, Lay.of_blk (M := []) (css := [[.int .i64 0, .bool (decide ((((1 : Int)) : Rat).num < 0)), .slice A6 (toL (((1 : Int)) : Rat).num.natAbs).length c6, .slice B6 (toL (((1 : Int)) : Rat).den).length e6], [.int .i64 1, .bool (decide ((((1 : Int)) : Rat).num < 0)), .slice A6 (toL (((1 : Int)) : Rat).num.natAbs).length c6, .slice B6 (toL (((1 : Int)) : Rat).den).length e6]]) hb11 ((LayL.one _ (⟨0, QR.nf (((1 : Int)) : Rat)⟩ : TR) (rdT_mk (t := ⟨0, QR.nf (((1 : Int)) : Rat)⟩) (hn6.sub (M' := []) (by intro b hb; cases hb)) (hd6.sub (M' := []) (by intro b hb; cases hb)))).append (LayL.one _ (⟨1, QR.nf (((1 : Int)) : Rat)⟩ : TR) (rdT_mk (t := ⟨1, QR.nf (((1 : Int)) : Rat)⟩) (hn6.sub (M' := []) (by intro b hb; cases hb)) (hd6.sub (M' := []) (by intro b hb; cases hb))))) rfl rfl (by decide) (by simp), hn12.sub (M' := []) (by intro b hb; cases hb), hd12.sub (M' := []) (by intro b hb; cases hb), hb2, hne_g1_g2, hbd.sub (M' := []) (by intro b hb; cases hb), hm0⟩
  ·
   refine ⟨_, rfl, fun hX => ?_⟩
   refine L.call rfl (c_ref2_Int (n := -3) (by decide) (by decide) hbd) rfl ?_
   rintro _ w12 ⟨⟨A12, c12, B12, e12, rfl, hn12, hd12⟩, hm12⟩
   replace hbd := hbd.gr hm12
   replace hm0 := hm0.trans hm12
   replace hn6 := hn6.gr hm12
   replace hd6 := hd6.gr hm12
   replace hb1 := Blk.gr hb1 hm12
   replace hS1 := hS1.trans hm12
   clear hm12
   have F12 := Fit.int (n := -3) (by decide) (by decide)
   refine L.nil (hX _ _ ⟨.inr hS1, ?_⟩)
   refine D.many (rs := [4, 7]) (by decide +kernel) rfl ?_
   intro i_ hi_
   simp only [List.mem_cons, List.not_mem_nil, or_false] at hi_
   rcases hi_ with rfl | rfl
   ·
    refine ⟨_, rfl, fun hX => ?_⟩
    refine L.buildSlice (cells := [.int .i64 0, .bool (decide ((((1 : Int)) : Rat).num < 0)), .slice A6 (toL (((1 : Int)) : Rat).num.natAbs).length c6, .slice B6 (toL (((1 : Int)) : Rat).den).length e6, .int .i64 1, .bool (decide ((((1 : Int)) : Rat).num < 0)), .slice A6 (toL (((1 : Int)) : Rat).num.natAbs).length c6, .slice B6 (toL (((1 : Int)) : Rat).den).length e6]) rfl tyS24 tyZ50 (fillT2 _ _ _ _ _ _ _ _ _ _ _ _ _ _ _ _) (by decide) (by decide) rfl ?_
    intro g11 w13 hN11
    have hgs_g11 := New.ge hN11 hS1.size
    replace hS1 := hS1.trans hN11.mod
    replace hbd := hbd.new hN11
    have hge_g11 := New.ge hN11 hm0.size
    replace hm0 := hm0.trans (hN11.mod.mono (by simp))
    replace hn6 := hn6.new hN11
    replace hd6 := hd6.new hN11
    have hne_g1_g11 := hb1.ne_ hN11
    replace hb1 := Blk.gr hb1 hN11.mod
    replace hn12 := hn12.new hN11
    replace hd12 := hd12.new hN11
    have hb11 := hN11.blk
    clear hN11
    refine L.nil (hX _ _ ⟨.inr hS1, ?_⟩)
    refine D.take 6 rfl (by decide +kernel) (fun w_ hS => (R1.build (vs := [.slice (some ⟨g11, 0, none⟩) 2 2, .agg #[.bool (decide ((((-3 : Int)) : Rat).num < 0)), .slice A12 (toL (((-3 : Int)) : Rat).num.natAbs).length c12, .slice B12 (toL (((-3 : Int)) : Rat).den).length e12]]) rfl (built_C12g _ _ _ _ _ _ _ _ _ _))) hS1 rfl <| D.one 7 rfl (by decide +kernel) (fun hX => ?_)
    refine L.alloc tyZ29 rfl ?_
    intro g2 w14 hN2
    replace hS1 := hS1.trans hN2.mod
    replace hbd := hbd.new hN2
    have hge_g2 := New.ge hN2 hm0.size
    replace hm0 := hm0.trans (hN2.mod.mono (by simp))
    replace hn6 := hn6.new hN2
    replace hd6 := hd6.new hN2
    have hne_g1_g2 := hb1.ne_ hN2
    replace hb1 := Blk.gr hb1 hN2.mod
    replace hn12 := hn12.new hN2
    replace hd12 := hd12.new hN2
    have hne_g11_g2 := hb11.ne_ hN2
    replace hb11 := Blk.gr hb11 hN2.mod
    have hb2 := hN2.blk
    clear hN2
    refine L.nil (hX _ _ ⟨.inr hS1, ?_⟩)
    refine D.one 8 rfl (by decide +kernel) (fun hX => ?_)
    refine L.storeBox rfl rfl hb2 rfl rfl tyG29 ?_
    intro w15 hb2' hm15
    replace hbd := hbd.gr hm15
    replace hm0 := hm0.old1 hm15 hge_g2
    replace hn6 := hn6.mod hm15 (by simp)
    replace hd6 := hd6.mod hm15 (by simp)
    replace hb1 := Blk.far hb1 hm15 (by first | exact hne_g1_g2 | exact (hne_g2_g1).symm)
    replace hn12 := hn12.mod hm15 (by simp)
    replace hd12 := hd12.mod hm15 (by simp)
    replace hb11 := Blk.far hb11 hm15 (by first | exact hne_g11_g2 | exact (hne_g2_g11).symm)
    clear hm15
    replace hb2 := hb2'; clear hb2'
    refine L.nil (hX _ _ ⟨.inl rfl, ?_⟩)
    refine D.done (by decide +kernel) ?_ _
    refine X.join (g11, A12, c12, B12, e12, g2) ?_ ?_
    · exact ⟨rfl, rfl, trivial⟩
    ·
     exact ⟨hn6.sub (M' := []) (by intro b hb; cases hb), hd6.sub (M' := []) (by intro b hb; cases hb), hb1, Lay.of_blk (M := []) (css := [[.int .i64 0, .bool (decide ((((1 : Int)) : Rat).num < 0)), .slice A6 (toL (((1 : Int)) : Rat).num.natAbs).length c6, .slice B6 (toL (((1 : Int)) : Rat).den).length e6], [.int .i64 1, .bool (decide ((((1 : Int)) : Rat).num < 0)), .slice A6 (toL (((1 : Int)) : Rat).num.natAbs).length c6, .slice B6 (toL (((1 : Int)) : Rat).den).length e6]]) hb11 ((LayL.one _ (⟨0, QR.nf (((1 : Int)) : Rat)⟩ : TR) (rdT_mk (t := ⟨0, QR.nf (((1 : Int)) : Rat)⟩) (hn6.sub (M' := []) (by intro b hb; cases hb)) (hd6.sub (M' := []) (by intro b hb; cases hb)))).append (LayL.one _ (⟨1, QR.nf (((1 : Int)) : Rat)⟩ : TR) (rdT_mk (t := ⟨1, QR.nf (((1 : Int)) : Rat)⟩) (hn6.sub (M' := []) (by intro b hb; cases hb)) (hd6.sub (M' := []) (by intro b hb; cases hb))))) rfl rfl (by decide) (by simp), hn12.sub (M' := []) (by intro b hb; cases hb), hd12.sub (M' := []) (by intro b hb; cases hb), hb2, hne_g1_g2, hbd.sub (M' := []) (by intro b hb; cases hb), hm0⟩
   ·
    refine ⟨_, rfl, fun hX => ?_⟩
    refine L.alloc tyZ29 rfl ?_
    intro g2 w16 hN2
    replace hS1 := hS1.trans hN2.mod
    replace hbd := hbd.new hN2
    have hge_g2 := New.ge hN2 hm0.size
    replace hm0 := hm0.trans (hN2.mod.mono (by simp))
    replace hn6 := hn6.new hN2
    replace hd6 := hd6.new hN2
    have hne_g1_g2 := hb1.ne_ hN2
    replace hb1 := Blk.gr hb1 hN2.mod
    replace hn12 := hn12.new hN2
    replace hd12 := hd12.new hN2
    have hb2 := hN2.blk
    clear hN2
    refine L.nil (hX _ _ ⟨.inr hS1, ?_⟩)
    refine D.one 4 rfl (by decide +kernel) (fun hX => ?_)
    refine L.buildSlice (cells := [.int .i64 0, .bool (decide ((((1 : Int)) : Rat).num < 0)), .slice A6 (toL (((1 : Int)) : Rat).num.natAbs).length c6, .slice B6 (toL (((1 : Int)) : Rat).den).length e6, .int .i64 1, .bool (decide ((((1 : Int)) : Rat).num < 0)), .slice A6 (toL (((1 : Int)) : Rat).num.natAbs).length c6, .slice B6 (toL (((1 : Int)) : Rat).den).length e6]) rfl tyS24 tyZ50 (fillT2 _ _ _ _ _ _ _ _ _ _ _ _ _ _ _ _) (by decide) (by decide) rfl ?_
    intro g11 w17 hN11
    have hgs_g11 := New.ge hN11 hS1.size
    replace hS1 := hS1.trans hN11.mod
    replace hbd := hbd.new hN11
    have hge_g11 := New.ge hN11 hm0.size
    replace hm0 := hm0.trans (hN11.mod.mono (by simp))
    replace hn6 := hn6.new hN11
    replace hd6 := hd6.new hN11
    have hne_g1_g11 := hb1.ne_ hN11
    replace hb1 := Blk.gr hb1 hN11.mod
    replace hn12 := hn12.new hN11
    replace hd12 := hd12.new hN11
    have hne_g2_g11 := hb2.ne_ hN11
    replace hb2 := Blk.gr hb2 hN11.mod
    have hb11 := hN11.blk
    clear hN11
    refine L.nil (hX _ _ ⟨.inr hS1, ?_⟩)
    refine D.take 6 rfl (by decide +kernel) (fun w_ hS => (R1.build (vs := [.slice (some ⟨g11, 0, none⟩) 2 2, .agg #[.bool (decide ((((-3 : Int)) : Rat).num < 0)), .slice A12 (toL (((-3 : Int)) : Rat).num.natAbs).length c12, .slice B12 (toL (((-3 : Int)) : Rat).den).length e12]]) rfl (built_C12g _ _ _ _ _ _ _ _ _ _))) hS1 rfl <| D.one 8 rfl (by decide +kernel) (fun hX => ?_)
    refine L.storeBox rfl rfl hb2 rfl rfl tyG29 ?_
    intro w18 hb2' hm18
    replace hbd := hbd.gr hm18
    replace hm0 := hm0.old1 hm18 hge_g2
    replace hn6 := hn6.mod hm18 (by simp)
    replace hd6 := hd6.mod hm18 (by simp)
    replace hb1 := Blk.far hb1 hm18 (by first | exact hne_g1_g2 | exact (hne_g2_g1).symm)
    replace hn12 := hn12.mod hm18 (by simp)
    replace hd12 := hd12.mod hm18 (by simp)
    replace hb11 := Blk.far hb11 hm18 (by first | exact hne_g11_g2 | exact (hne_g2_g11).symm)
    clear hm18
    replace hb2 := hb2'; clear hb2'
    refine L.nil (hX _ _ ⟨.inl rfl, ?_⟩)
    refine D.done (by decide +kernel) ?_ _
    refine X.join (g11, A12, c12, B12, e12, g2) ?_ ?_
    · exact ⟨rfl, rfl, trivial⟩
    ·
     exact ⟨hn6.sub (M' := []) (by intro b hb; cases hb), hd6.sub (M' := []) (by intro b hb; cases hb), hb1, Lay.of_blk (M := []) (css := [[.int .i64 0, .bool (decide ((((1 : Int)) : Rat).num < 0)), .slice A6 (toL (((1 : Int)) : Rat).num.natAbs).length c6, .slice B6 (toL (((1 : Int)) : Rat).den).length e6], [.int .i64 1, .bool (decide ((((1 : Int)) : Rat).num < 0)), .slice A6 (toL (((1 : Int)) : Rat).num.natAbs).length c6, .slice B6 (toL (((1 : Int)) : Rat).den).length e6]]) hb11 ((LayL.one _ (⟨0, QR.nf (((1 : Int)) : Rat)⟩ : TR) (rdT_mk (t := ⟨0, QR.nf (((1 : Int)) : Rat)⟩) (hn6.sub (M' := []) (by intro b hb; cases hb)) (hd6.sub (M' := []) (by intro b hb; cases hb)))).append (LayL.one _ (⟨1, QR.nf (((1 : Int)) : Rat)⟩ : TR) (rdT_mk (t := ⟨1, QR.nf (((1 : Int)) : Rat)⟩) (hn6.sub (M' := []) (by intro b hb; cases hb)) (hd6.sub (M' := []) (by intro b hb; cases hb))))) rfl rfl (by decide) (by simp), hn12.sub (M' := []) (by intro b hb; cases hb), hd12.sub (M' := []) (by intro b hb; cases hb), hb2, hne_g1_g2, hbd.sub (M' := []) (by intro b hb; cases hb), hm0⟩
  ·
   refine ⟨_, rfl, fun hX => ?_⟩
   refine L.alloc tyZ29 rfl ?_
   intro g2 w19 hN2
   replace hS1 := hS1.trans hN2.mod
   replace hbd := hbd.new hN2
   have hge_g2 := New.ge hN2 hm0.size
   replace hm0 := hm0.trans (hN2.mod.mono (by simp))
   replace hn6 := hn6.new hN2
   replace hd6 := hd6.new hN2
   have hne_g1_g2 := hb1.ne_ hN2
   replace hb1 := Blk.gr hb1 hN2.mod
   have hb2 := hN2.blk
   clear hN2
   refine L.nil (hX _ _ ⟨.inr hS1, ?_⟩)
   refine D.many (rs := [4, 5]) (by decide +kernel) rfl ?_
   intro i_ hi_
   simp only [List.mem_cons, List.not_mem_nil, or_false] at hi_
   rcases hi_ with rfl | rfl
   ·
    refine ⟨_, rfl, fun hX => ?_⟩
    refine L.buildSlice (cells := [.int .i64 0, .bool (decide ((((1 : Int)) : Rat).num < 0)), .slice A6 (toL (((1 : Int)) : Rat).num.natAbs).length c6, .slice B6 (toL (((1 : Int)) : Rat).den).length e6, .int .i64 1, .bool (decide ((((1 : Int)) : Rat).num < 0)), .slice A6 (toL (((1 : Int)) : Rat).num.natAbs).length c6, .slice B6 (toL (((1 : Int)) : Rat).den).length e6]) rfl tyS24 tyZ50 (fillT2 _ _ _ _ _ _ _ _ _ _ _ _ _ _ _ _) (by decide) (by decide) rfl ?_
    intro g11 w20 hN11
    have hgs_g11 := New.ge hN11 hS1.size
    replace hS1 := hS1.trans hN11.mod
    replace hbd := hbd.new hN11
    have hge_g11 := New.ge hN11 hm0.size
    replace hm0 := hm0.trans (hN11.mod.mono (by simp))
    replace hn6 := hn6.new hN11
    replace hd6 := hd6.new hN11
    have hne_g1_g11 := hb1.ne_ hN11
    replace hb1 := Blk.gr hb1 hN11.mod
    have hne_g2_g11 := hb2.ne_ hN11
    replace hb2 := Blk.gr hb2 hN11.mod
    have hb11 := hN11.blk
    clear hN11
    refine L.nil (hX _ _ ⟨.inr hS1, ?_⟩)
    refine D.one 5 rfl (by decide +kernel) (fun hX => ?_)
    refine L.call rfl (c_ref2_Int (n := -3) (by decide) (by decide) hbd) rfl ?_
    rintro _ w21 ⟨⟨A12, c12, B12, e12, rfl, hn12, hd12⟩, hm21⟩
    replace hbd := hbd.gr hm21
    replace hm0 := hm0.trans hm21
    replace hn6 := hn6.gr hm21
    replace hd6 := hd6.gr hm21
    replace hb1 := Blk.gr hb1 hm21
    replace hb2 := Blk.gr hb2 hm21
    replace hb11 := Blk.gr hb11 hm21
    replace hS1 := hS1.trans hm21
    clear hm21
    have F12 := Fit.int (n := -3) (by decide) (by decide)
    refine L.nil (hX _ _ ⟨.inr hS1, ?_⟩)
    refine D.take 6 rfl (by decide +kernel) (fun w_ hS => (R1.build (vs := [.slice (some ⟨g11, 0, none⟩) 2 2, .agg #[.bool (decide ((((-3 : Int)) : Rat).num < 0)), .slice A12 (toL (((-3 : Int)) : Rat).num.natAbs).length c12, .slice B12 (toL (((-3 : Int)) : Rat).den).length e12]]) rfl (built_C12g _ _ _ _ _ _ _ _ _ _))) hS1 rfl <| D.one 8 rfl (by decide +kernel) (fun hX => ?_)
    refine L.storeBox rfl rfl hb2 rfl rfl tyG29 ?_
    intro w22 hb2' hm22
    replace hbd := hbd.gr hm22
    replace hm0 := hm0.old1 hm22 hge_g2
    replace hn6 := hn6.mod hm22 (by simp)
    replace hd6 := hd6.mod hm22 (by simp)
    replace hb1 := Blk.far hb1 hm22 (by first | exact hne_g1_g2 | exact (hne_g2_g1).symm)
    replace hb11 := Blk.far hb11 hm22 (by first | exact hne_g11_g2 | exact (hne_g2_g11).symm)
    replace hn12 := hn12.mod hm22 (by simp)
    replace hd12 := hd12.mod hm22 (by simp)
    clear hm22
    replace hb2 := hb2'; clear hb2'
    refine L.nil (hX _ _ ⟨.inl rfl, ?_⟩)
    refine D.done (by decide +kernel) ?_ _
    refine X.join (g11, A12, c12, B12, e12, g2) ?_ ?_
    · exact ⟨rfl, rfl, trivial⟩
    ·
     exact ⟨hn6.sub (M' := []) (by intro b hb; cases hb), hd6.sub (M' := []) (by intro b hb; cases hb), hb1, Lay.of_blk (M := []) (css := [[.int .i64 0, .bool (decide ((((1 : Int)) : Rat).num < 0)), .slice A6 (toL (((1 : Int)) : Rat).num.natAbs).length c6, .slice B6 (toL (((1 : Int)) : Rat).den).length e6], [.int .i64 1, .bool (decide ((((1 : Int)) : Rat).num < 0)), .slice A6 (toL (((1 : Int)) : Rat).num.natAbs).length c6, .slice B6 (toL (((1 : Int)) : Rat).den).length e6]]) hb11 ((LayL.one _ (⟨0, QR.nf (((1 : Int)) : Rat)⟩ : TR) (rdT_mk (t := ⟨0, QR.nf (((1 : Int)) : Rat)⟩) (hn6.sub (M' := []) (by intro b hb; cases hb)) (hd6.sub (M' := []) (by intro b hb; cases hb)))).append (LayL.one _ (⟨1, QR.nf (((1 : Int)) : Rat)⟩ : TR) (rdT_mk (t := ⟨1, QR.nf (((1 : Int)) : Rat)⟩) (hn6.sub (M' := []) (by intro b hb; cases hb)) (hd6.sub (M' := []) (by intro b hb; cases hb))))) rfl rfl (by decide) (by simp), hn12.sub (M' := []) (by intro b hb; cases hb), hd12.sub (M' := []) (by intro b hb; cases hb), hb2, hne_g1_g2, hbd.sub (M' := []) (by intro b hb; cases hb), hm0⟩
   ·
    refine ⟨_, rfl, fun hX => ?_⟩
    refine L.call rfl (c_ref2_Int (n := -3) (by decide) (by decide) hbd) rfl ?_
    rintro _ w23 ⟨⟨A12, c12, B12, e12, rfl, hn12, hd12⟩, hm23⟩
    replace hbd := hbd.gr hm23
    replace hm0 := hm0.trans hm23
    replace hn6 := hn6.gr hm23
    replace hd6 := hd6.gr hm23
    replace hb1 := Blk.gr hb1 hm23
    replace hb2 := Blk.gr hb2 hm23
    replace hS1 := hS1.trans hm23
    clear hm23
    have F12 := Fit.int (n := -3) (by decide) (by decide)
    refine L.nil (hX _ _ ⟨.inr hS1, ?_⟩)
    refine D.one 4 rfl (by decide +kernel) (fun hX => ?_)
    refine L.buildSlice (cells := [.int .i64 0, .bool (decide ((((1 : Int)) : Rat).num < 0)), .slice A6 (toL (((1 : Int)) : Rat).num.natAbs).length c6, .slice B6 (toL (((1 : Int)) : Rat).den).length e6, .int .i64 1, .bool (decide ((((1 : Int)) : Rat).num < 0)), .slice A6 (toL (((1 : Int)) : Rat).num.natAbs).length c6, .slice B6 (toL (((1 : Int)) : Rat).den).length e6]) rfl tyS24 tyZ50 (fillT2 _ _ _ _ _ _ _ _ _ _ _ _ _ _ _ _) (by decide) (by decide) rfl ?_
    intro g11 w24 hN11
    have hgs_g11 := New.ge hN11 hS1.size
    replace hS1 := hS1.trans hN11.mod
    replace hbd := hbd.new hN11
    have hge_g11 := New.ge hN11 hm0.size
    replace hm0 := hm0.trans (hN11.mod.mono (by simp))
    replace hn6 := hn6.new hN11
    replace hd6 := hd6.new hN11
    have hne_g1_g11 := hb1.ne_ hN11
    replace hb1 := Blk.gr hb1 hN11.mod
    have hne_g2_g11 := hb2.ne_ hN11
    replace hb2 := Blk.gr hb2 hN11.mod
    replace hn12 := hn12.new hN11
    replace hd12 := hd12.new hN11
    have hb11 := hN11.blk
    clear hN11
    refine L.nil (hX _ _ ⟨.inr hS1, ?_⟩)
    refine D.take 6 rfl (by decide +kernel) (fun w_ hS => (R1.build (vs := [.slice (some ⟨g11, 0, none⟩) 2 2, .agg #[.bool (decide ((((-3 : Int)) : Rat).num < 0)), .slice A12 (toL (((-3 : Int)) : Rat).num.natAbs).length c12, .slice B12 (toL (((-3 : Int)) : Rat).den).length e12]]) rfl (built_C12g _ _ _ _ _ _ _ _ _ _))) hS1 rfl <| D.one 8 rfl (by decide +kernel) (fun hX => ?_)
    refine L.storeBox rfl rfl hb2 rfl rfl tyG29 ?_
    intro w25 hb2' hm25
    replace hbd := hbd.gr hm25
    replace hm0 := hm0.old1 hm25 hge_g2
    replace hn6 := hn6.mod hm25 (by simp)
    replace hd6 := hd6.mod hm25 (by simp)
    replace hb1 := Blk.far hb1 hm25 (by first | exact hne_g1_g2 | exact (hne_g2_g1).symm)
    replace hn12 := hn12.mod hm25 (by simp)
    replace hd12 := hd12.mod hm25 (by simp)
    replace hb11 := Blk.far hb11 hm25 (by first | exact hne_g11_g2 | exact (hne_g2_g11).symm)
    clear hm25
    replace hb2 := hb2'; clear hb2'
    refine L.nil (hX _ _ ⟨.inl rfl, ?_⟩)
    refine D.done (by decide +kernel) ?_ _
    refine X.join (g11, A12, c12, B12, e12, g2) ?_ ?_
    · exact ⟨rfl, rfl, trivial⟩
    ·
     exact ⟨hn6.sub (M' := []) (by intro b hb; cases hb), hd6.sub (M' := []) (by intro b hb; cases hb), hb1, Lay.of_blk (M := []) (css := [[.int .i64 0, .bool (decide ((((1 : Int)) : Rat).num < 0)), .slice A6 (toL (((1 : Int)) : Rat).num.natAbs).length c6, .slice B6 (toL (((1 : Int)) : Rat).den).length e6], [.int .i64 1, .bool (decide ((((1 : Int)) : Rat).num < 0)), .slice A6 (toL (((1 : Int)) : Rat).num.natAbs).length c6, .slice B6 (toL (((1 : Int)) : Rat).den).length e6]]) hb11 ((LayL.one _ (⟨0, QR.nf (((1 : Int)) : Rat)⟩ : TR) (rdT_mk (t := ⟨0, QR.nf (((1 : Int)) : Rat)⟩) (hn6.sub (M' := []) (by intro b hb; cases hb)) (hd6.sub (M' := []) (by intro b hb; cases hb)))).append (LayL.one _ (⟨1, QR.nf (((1 : Int)) : Rat)⟩ : TR) (rdT_mk (t := ⟨1, QR.nf (((1 : Int)) : Rat)⟩) (hn6.sub (M' := []) (by intro b hb; cases hb)) (hd6.sub (M' := []) (by intro b hb; cases hb))))) rfl rfl (by decide) (by simp), hn12.sub (M' := []) (by intro b hb; cases hb), hd12.sub (M' := []) (by intro b hb; cases hb), hb2, hne_g1_g2, hbd.sub (M' := []) (by intro b hb; cases hb), hm0⟩
 ·
  rintro ⟨g11, A12, c12, B12, e12, g2⟩ wj ⟨hn6, hd6, hb1, hT2, hn12, hd12, hb2, hne_g1_g2, hbd, hm0⟩
  refine X.seq <| W.seq <| W.cut (ι := Nat × Option Addr × Nat × Option Addr × Nat × Nat) (fun (g18, A19, c19, B19, e19, g3) => [(2, .pointer (some ⟨g2, 0, none⟩)), (3, .pointer (some ⟨g3, 0, none⟩))]) (fun (g18, A19, c19, B19, e19, g3) w_ => Lay rdT [] w_ (.slice (some ⟨g11, 0, none⟩) 2 2) knA.ts ∧ U32 [] w_ (.slice A12 (toL (((-3 : Int)) : Rat).num.natAbs).length c12) (toL (((-3 : Int)) : Rat).num.natAbs) ∧ U32 [] w_ (.slice B12 (toL (((-3 : Int)) : Rat).den).length e12) (toL (((-3 : Int)) : Rat).den) ∧ Blk w_ g2 29 #[.int .i64 0, .slice (some ⟨g11, 0, none⟩) 2 2, .bool (decide ((((-3 : Int)) : Rat).num < 0)), .slice A12 (toL (((-3 : Int)) : Rat).num.natAbs).length c12, .slice B12 (toL (((-3 : Int)) : Rat).den).length e12] ∧ Lay rdT [] w_ (.slice (some ⟨g18, 0, none⟩) 2 2) knB.ts ∧ U32 [] w_ (.slice A19 (toL (((-1 : Int)) : Rat).num.natAbs).length c19) (toL (((-1 : Int)) : Rat).num.natAbs) ∧ U32 [] w_ (.slice B19 (toL (((-1 : Int)) : Rat).den).length e19) (toL (((-1 : Int)) : Rat).den) ∧ Blk w_ g3 29 #[.int .i64 0, .slice (some ⟨g18, 0, none⟩) 2 2, .bool (decide ((((-1 : Int)) : Rat).num < 0)), .slice A19 (toL (((-1 : Int)) : Rat).num.natAbs).length c19, .slice B19 (toL (((-1 : Int)) : Rat).den).length e19] ∧ Bd [] w_ ∧ Mod [] w w_ ∧ g2 ≠ g3) ?_ ?_
  ·
   refine W.drawW (T := [8]) rfl (by decide +kernel) (NoHang.join (NoHang.then NoHang.post)) (fun w26 hm26 => ?_)
   replace hn6 := hn6.gr hm26
   replace hd6 := hd6.gr hm26
   replace hb1 := Blk.gr hb1 hm26
   replace hT2 := hT2.gr hm26
   replace hn12 := hn12.gr hm26
   replace hd12 := hd12.gr hm26
   replace hb2 := Blk.gr hb2 hm26
   replace hbd := hbd.gr hm26
   replace hm0 := hm0.trans hm26
   have hS2 : Mod [] w26 w26 := Mod.refl _ _
   clear hm26
   have hb1_s := hb1
   have hb2_s := hb2
   refine D.take 0 rfl (by decide +kernel) (fun w_ hS => (R1.loadBox rfl (Blk.gr hb1_s hS) tyG27)) hS2 rfl <| D.take 1 rfl (by decide +kernel) (fun w_ hS => (R1.build (vs := [.int .i64 0, .agg #[.bool (decide ((((1 : Int)) : Rat).num < 0)), .slice A6 (toL (((1 : Int)) : Rat).num.natAbs).length c6, .slice B6 (toL (((1 : Int)) : Rat).den).length e6]]) rfl (built_T01 _ _ _ _ _ _ _ _))) hS2 rfl <| D.many (rs := [2, 7]) (by decide +kernel) rfl ?_
   intro i_ hi_
   simp only [List.mem_cons, List.not_mem_nil, or_false] at hi_
   rcases hi_ with rfl | rfl
   ·
    refine ⟨_, rfl, fun hX => ?_⟩
    refine L.call rfl (c_ref2_Int (n := -1) (by decide) (by decide) hbd) rfl ?_
    rintro _ w27 ⟨⟨A16, c16, B16, e16, rfl, hn16, hd16⟩, hm27⟩
    replace hn6 := hn6.gr hm27
    replace hd6 := hd6.gr hm27
    replace hb1 := Blk.gr hb1 hm27
    replace hT2 := hT2.gr hm27
    replace hn12 := hn12.gr hm27
    replace hd12 := hd12.gr hm27
    replace hb2 := Blk.gr hb2 hm27
    replace hbd := hbd.gr hm27
    replace hm0 := hm0.trans hm27
    replace hS2 := hS2.trans hm27
    clear hm27
    have F16 := Fit.int (n := -1) (by decide) (by decide)
    refine L.nil (hX _ _ ⟨.inr hS2, ?_⟩)
    refine D.take 3 rfl (by decide +kernel) (fun w_ hS => (R1.build (vs := [.int .i64 1, .agg #[.bool (decide ((((-1 : Int)) : Rat).num < 0)), .slice A16 (toL (((-1 : Int)) : Rat).num.natAbs).length c16, .slice B16 (toL (((-1 : Int)) : Rat).den).length e16]]) rfl (built_T01 _ _ _ _ _ _ _ _))) hS2 rfl <| D.many (rs := [4, 5, 7]) (by decide +kernel) rfl ?_
    intro i_ hi_
    simp only [List.mem_cons, List.not_mem_nil, or_false] at hi_
    rcases hi_ with rfl | rfl | rfl
    ·
     refine ⟨_, rfl, fun hX => ?_⟩
     refine L.buildSlice (cells := [.int .i64 0, .bool (decide ((((1 : Int)) : Rat).num < 0)), .slice A6 (toL (((1 : Int)) : Rat).num.natAbs).length c6, .slice B6 (toL (((1 : Int)) : Rat).den).length e6, .int .i64 1, .bool (decide ((((-1 : Int)) : Rat).num < 0)), .slice A16 (toL (((-1 : Int)) : Rat).num.natAbs).length c16, .slice B16 (toL (((-1 : Int)) : Rat).den).length e16]) rfl tyS24 tyZ50 (fillT2 _ _ _ _ _ _ _ _ _ _ _ _ _ _ _ _) (by decide) (by decide) rfl ?_
     intro g18 w28 hN18
     have hgs_g18 := New.ge hN18 hS2.size
     replace hS2 := hS2.trans hN18.mod
     replace hn6 := hn6.new hN18
     replace hd6 := hd6.new hN18
     have hne_g1_g18 := hb1.ne_ hN18
     replace hb1 := Blk.gr hb1 hN18.mod
     replace hT2 := hT2.new hN18
     replace hn12 := hn12.new hN18
     replace hd12 := hd12.new hN18
     have hne_g2_g18 := hb2.ne_ hN18
     replace hb2 := Blk.gr hb2 hN18.mod
     replace hbd := hbd.new hN18
     have hge_g18 := New.ge hN18 hm0.size
     replace hm0 := hm0.trans (hN18.mod.mono (by simp))
     replace hn16 := hn16.new hN18
     replace hd16 := hd16.new hN18
     have hb18 := hN18.blk
     clear hN18
     refine L.nil (hX _ _ ⟨.inr hS2, ?_⟩)
     refine D.many (rs := [5, 7]) (by decide +kernel) rfl ?_
     intro i_ hi_
     simp only [List.mem_cons, List.not_mem_nil, or_false] at hi_
     rcases hi_ with rfl | rfl
     ·
      refine ⟨_, rfl, fun hX => ?_⟩
      refine L.call rfl (c_ref2_Int (n := -1) (by decide) (by decide) hbd) rfl ?_
      rintro _ w29 ⟨⟨A19, c19, B19, e19, rfl, hn19, hd19⟩, hm29⟩
      replace hn6 := hn6.gr hm29
      replace hd6 := hd6.gr hm29
      replace hb1 := Blk.gr hb1 hm29
      replace hT2 := hT2.gr hm29
      replace hn12 := hn12.gr hm29
      replace hd12 := hd12.gr hm29
      replace hb2 := Blk.gr hb2 hm29
      replace hbd := hbd.gr hm29
      replace hm0 := hm0.trans hm29
      replace hn16 := hn16.gr hm29
      replace hd16 := hd16.gr hm29
      replace hb18 := Blk.gr hb18 hm29
      replace hS2 := hS2.trans hm29
      clear hm29
      have F19 := Fit.int (n := -1) (by decide) (by decide)
      refine L.nil (hX _ _ ⟨.inr hS2, ?_⟩)
      refine D.take 6 rfl (by decide +kernel) (fun w_ hS => (R1.build (vs := [.slice (some ⟨g18, 0, none⟩) 2 2, .agg #[.bool (decide ((((-1 : Int)) : Rat).num < 0)), .slice A19 (toL (((-1 : Int)) : Rat).num.natAbs).length c19, .slice B19 (toL (((-1 : Int)) : Rat).den).length e19]]) rfl (built_C12g _ _ _ _ _ _ _ _ _ _))) hS2 rfl <| D.one 7 rfl (by decide +kernel) (fun hX => ?_)
      refine L.alloc tyZ29 rfl ?_
      intro g3 w30 hN3
      replace hS2 := hS2.trans hN3.mod
      replace hn6 := hn6.new hN3
      replace hd6 := hd6.new hN3
      have hne_g1_g3 := hb1.ne_ hN3
      replace hb1 := Blk.gr hb1 hN3.mod
      replace hT2 := hT2.new hN3
      replace hn12 := hn12.new hN3
      replace hd12 := hd12.new hN3
      have hne_g2_g3 := hb2.ne_ hN3
      replace hb2 := Blk.gr hb2 hN3.mod
      replace hbd := hbd.new hN3
      have hge_g3 := New.ge hN3 hm0.size
      replace hm0 := hm0.trans (hN3.mod.mono (by simp))
      replace hn16 := hn16.new hN3
      replace hd16 := hd16.new hN3
      have hne_g18_g3 := hb18.ne_ hN3
      replace hb18 := Blk.gr hb18 hN3.mod
      replace hn19 := hn19.new hN3
      replace hd19 := hd19.new hN3
      have hb3 := hN3.blk
      clear hN3
      refine L.nil (hX _ _ ⟨.inr hS2, ?_⟩)
      refine D.one 8 rfl (by decide +kernel) (fun hX => ?_)
      refine L.storeBox rfl rfl hb3 rfl rfl tyG29 ?_
      intro w31 hb3' hm31
      replace hn6 := hn6.mod hm31 (by simp)
      replace hd6 := hd6.mod hm31 (by simp)
      replace hb1 := Blk.far hb1 hm31 (by first | exact hne_g1_g3 | exact (hne_g3_g1).symm)
      replace hT2 := hT2.mod hm31 (by simp)
      replace hn12 := hn12.mod hm31 (by simp)
      replace hd12 := hd12.mod hm31 (by simp)
      replace hb2 := Blk.far hb2 hm31 (by first | exact hne_g2_g3 | exact (hne_g3_g2).symm)
      replace hbd := hbd.gr hm31
      replace hm0 := hm0.old1 hm31 hge_g3
      replace hn16 := hn16.mod hm31 (by simp)
      replace hd16 := hd16.mod hm31 (by simp)
      replace hb18 := Blk.far hb18 hm31 (by first | exact hne_g18_g3 | exact (hne_g3_g18).symm)
      replace hn19 := hn19.mod hm31 (by simp)
      replace hd19 := hd19.mod hm31 (by simp)
      clear hm31
      replace hb3 := hb3'; clear hb3'
      refine L.nil (hX _ _ ⟨.inl rfl, ?_⟩)
      refine D.done (by decide +kernel) ?_ _
      refine X.join (g18, A19, c19, B19, e19, g3) ?_ ?_
      · exact ⟨rfl, rfl, trivial⟩
      ·
       exact ⟨hT2.sub (M' := []) (by intro b hb; cases hb), hn12.sub (M' := []) (by intro b hb; cases hb), hd12.sub (M' := []) (by intro b hb; cases hb), hb2, Lay.of_blk (M := []) (css := [[.int .i64 0, .bool (decide ((((1 : Int)) : Rat).num < 0)), .slice A6 (toL (((1 : Int)) : Rat).num.natAbs).length c6, .slice B6 (toL (((1 : Int)) : Rat).den).length e6], [.int .i64 1, .bool (decide ((((-1 : Int)) : Rat).num < 0)), .slice A16 (toL (((-1 : Int)) : Rat).num.natAbs).length c16, .slice B16 (toL (((-1 : Int)) : Rat).den).length e16]]) hb18 ((LayL.one _ (⟨0, QR.nf (((1 : Int)) : Rat)⟩ : TR) (rdT_mk (t := ⟨0, QR.nf (((1 : Int)) : Rat)⟩) (hn6.sub (M' := []) (by intro b hb; cases hb)) (hd6.sub (M' := []) (by intro b hb; cases hb)))).append (LayL.one _ (⟨1, QR.nf (((-1 : Int)) : Rat)⟩ : TR) (rdT_mk (t := ⟨1, QR.nf (((-1 : Int)) : Rat)⟩) (hn16.sub (M' := []) (by intro b hb; cases hb)) (hd16.sub (M' := []) (by intro b hb; cases hb))))) rfl rfl (by decide) (by simp), hn19.sub (M' := []) (by intro b hb; cases hb), hd19.sub (M' := []) (by intro b hb; cases hb), hb3, hbd.sub (M' := []) (by intro b hb; cases hb), hm0, hne_g2_g3⟩
     ·
      refine ⟨_, rfl, fun hX => ?_⟩
      refine L.alloc tyZ29 rfl ?_
      intro g3 w32 hN3
      replace hS2 := hS2.trans hN3.mod
      replace hn6 := hn6.new hN3
      replace hd6 := hd6.new hN3
      have hne_g1_g3 := hb1.ne_ hN3
      replace hb1 := Blk.gr hb1 hN3.mod
      replace hT2 := hT2.new hN3
      replace hn12 := hn12.new hN3
      replace hd12 := hd12.new hN3
      have hne_g2_g3 := hb2.ne_ hN3
      replace hb2 := Blk.gr hb2 hN3.mod
      replace hbd := hbd.new hN3
      have hge_g3 := New.ge hN3 hm0.size
      replace hm0 := hm0.trans (hN3.mod.mono (by simp))
      replace hn16 := hn16.new hN3
      replace hd16 := hd16.new hN3
      have hne_g18_g3 := hb18.ne_ hN3
      replace hb18 := Blk.gr hb18 hN3.mod
      have hb3 := hN3.blk
      clear hN3
      refine L.nil (hX _ _ ⟨.inr hS2, ?_⟩)
      refine D.one 5 rfl (by decide +kernel) (fun hX => ?_)
      refine L.call rfl (c_ref2_Int (n := -1) (by decide) (by decide) hbd) rfl ?_
      rintro _ w33 ⟨⟨A19, c19, B19, e19, rfl, hn19, hd19⟩, hm33⟩
      replace hn6 := hn6.gr hm33
      replace hd6 := hd6.gr hm33
      replace hb1 := Blk.gr hb1 hm33
      replace hT2 := hT2.gr hm33
      replace hn12 := hn12.gr hm33
      replace hd12 := hd12.gr hm33
      replace hb2 := Blk.gr hb2 hm33
      replace hbd := hbd.gr hm33
      replace hm0 := hm0.trans hm33
      replace hn16 := hn16.gr hm33
      replace hd16 := hd16.gr hm33
      replace hb18 := Blk.gr hb18 hm33
      replace hb3 := Blk.gr hb3 hm33
      replace hS2 := hS2.trans hm33
      clear hm33
      have F19 := Fit.int (n := -1) (by decide) (by decide)
      refine L.nil (hX _ _ ⟨.inr hS2, ?_⟩)
      refine D.take 6 rfl (by decide +kernel) (fun w_ hS => (R1.build (vs := [.slice (some ⟨g18, 0, none⟩) 2 2, .agg #[.bool (decide ((((-1 : Int)) : Rat).num < 0)), .slice A19 (toL (((-1 : Int)) : Rat).num.natAbs).length c19, .slice B19 (toL (((-1 : Int)) : Rat).den).length e19]]) rfl (built_C12g _ _ _ _ _ _ _ _ _ _))) hS2 rfl <| D.one 8 rfl (by decide +kernel) (fun hX => ?_)
      refine L.storeBox rfl rfl hb3 rfl rfl tyG29 ?_
      intro w34 hb3' hm34
      replace hn6 := hn6.mod hm34 (by simp)
      replace hd6 := hd6.mod hm34 (by simp)
      replace hb1 := Blk.far hb1 hm34 (by first | exact hne_g1_g3 | exact (hne_g3_g1).symm)
      replace hT2 := hT2.mod hm34 (by simp)
      replace hn12 := hn12.mod hm34 (by simp)
      replace hd12 := hd12.mod hm34 (by simp)
      replace hb2 := Blk.far hb2 hm34 (by first | exact hne_g2_g3 | exact (hne_g3_g2).symm)
      replace hbd := hbd.gr hm34
      replace hm0 := hm0.old1 hm34 hge_g3
      replace hn16 := hn16.mod hm34 (by simp)
      replace hd16 := hd16.mod hm34 (by simp)
      replace hb18 := Blk.far hb18 hm34 (by first | exact hne_g18_g3 | exact (hne_g3_g18).symm)
      replace hn19 := hn19.mod hm34 (by simp)
      replace hd19 := hd19.mod hm34 (by simp)
      clear hm34
      replace hb3 := hb3'; clear hb3'
      refine L.nil (hX _ _ ⟨.inl rfl, ?_⟩)
      refine D.done (by decide +kernel) ?_ _
      refine X.join (g18, A19, c19, B19, e19, g3) ?_ ?_
      · exact ⟨rfl, rfl, trivial⟩
      ·
       exact ⟨hT2.sub (M' := []) (by intro b hb; cases hb), hn12.sub (M' := []) (by intro b hb; cases hb), hd12.sub (M' := []) (by intro b hb; cases hb), hb2, Lay.of_blk (M := []) (css := [[.int .i64 0, .bool (decide ((((1 : Int)) : Rat).num < 0)), .slice A6 (toL (((1 : Int)) : Rat).num.natAbs).length c6, .slice B6 (toL (((1 : Int)) : Rat).den).length e6], [.int .i64 1, .bool (decide ((((-1 : Int)) : Rat).num < 0)), .slice A16 (toL (((-1 : Int)) : Rat).num.natAbs).length c16, .slice B16 (toL (((-1 : Int)) : Rat).den).length e16]]) hb18 ((LayL.one _ (⟨0, QR.nf (((1 : Int)) : Rat)⟩ : TR) (rdT_mk (t := ⟨0, QR.nf (((1 : Int)) : Rat)⟩) (hn6.sub (M' := []) (by intro b hb; cases hb)) (hd6.sub (M' := []) (by intro b hb; cases hb)))).append (LayL.one _ (⟨1, QR.nf (((-1 : Int)) : Rat)⟩ : TR) (rdT_mk (t := ⟨1, QR.nf (((-1 : Int)) : Rat)⟩) (hn16.sub (M' := []) (by intro b hb; cases hb)) (hd16.sub (M' := []) (by intro b hb; cases hb))))) rfl rfl (by decide) (by simp), hn19.sub (M' := []) (by intro b hb; cases hb), hd19.sub (M' := []) (by intro b hb; cases hb), hb3, hbd.sub (M' := []) (by intro b hb; cases hb), hm0, hne_g2_g3⟩
    ·
     refine ⟨_, rfl, fun hX => ?_⟩
     refine L.call rfl (c_ref2_Int (n := -1) (by decide) (by decide) hbd) rfl ?_
     rintro _ w35 ⟨⟨A19, c19, B19, e19, rfl, hn19, hd19⟩, hm35⟩
     replace hn6 := hn6.gr hm35
     replace hd6 := hd6.gr hm35
     replace hb1 := Blk.gr hb1 hm35
     replace hT2 := hT2.gr hm35
     replace hn12 := hn12.gr hm35
     replace hd12 := hd12.gr hm35
     replace hb2 := Blk.gr hb2 hm35
     replace hbd := hbd.gr hm35
     replace hm0 := hm0.trans hm35
     replace hn16 := hn16.gr hm35
     replace hd16 := hd16.gr hm35
     replace hS2 := hS2.trans hm35
     clear hm35
     have F19 := Fit.int (n := -1) (by decide) (by decide)
     refine L.nil (hX _ _ ⟨.inr hS2, ?_⟩)
     refine D.many (rs := [4, 7]) (by decide +kernel) rfl ?_
     intro i_ hi_
     simp only [List.mem_cons, List.not_mem_nil, or_false] at hi_
     rcases hi_ with rfl | rfl
     ·
      refine ⟨_, rfl, fun hX => ?_⟩
      refine L.buildSlice (cells := [.int .i64 0, .bool (decide ((((1 : Int)) : Rat).num < 0)), .slice A6 (toL (((1 : Int)) : Rat).num.natAbs).length c6, .slice B6 (toL (((1 : Int)) : Rat).den).length e6, .int .i64 1, .bool (decide ((((-1 : Int)) : Rat).num < 0)), .slice A16 (toL (((-1 : Int)) : Rat).num.natAbs).length c16, .slice B16 (toL (((-1 : Int)) : Rat).den).length e16]) rfl tyS24 tyZ50 (fillT2 _ _ _ _ _ _ _ _ _ _ _ _ _ _ _ _) (by decide) (by decide) rfl ?_
      intro g18 w36 hN18
      have hgs_g18 := New.ge hN18 hS2.size
      replace hS2 := hS2.trans hN18.mod
      replace hn6 := hn6.new hN18
      replace hd6 := hd6.new hN18
      have hne_g1_g18 := hb1.ne_ hN18
      replace hb1 := Blk.gr hb1 hN18.mod
      replace hT2 := hT2.new hN18
      replace hn12 := hn12.new hN18
      replace hd12 := hd12.new hN18
      have hne_g2_g18 := hb2.ne_ hN18
      replace hb2 := Blk.gr hb2 hN18.mod
      replace hbd := hbd.new hN18
      have hge_g18 := New.ge hN18 hm0.size
      replace hm0 := hm0.trans (hN18.mod.mono (by simp))
      replace hn16 := hn16.new hN18
      replace hd16 := hd16.new hN18
      replace hn19 := hn19.new hN18
      replace hd19 := hd19.new hN18
      have hb18 := hN18.blk
      clear hN18
      refine L.nil (hX _ _ ⟨.inr hS2, ?_⟩)
      refine D.take 6 rfl (by decide +kernel) (fun w_ hS => (R1.build (vs := [.slice (some ⟨g18, 0, none⟩) 2 2, .agg #[.bool (decide ((((-1 : Int)) : Rat).num < 0)), .slice A19 (toL (((-1 : Int)) : Rat).num.natAbs).length c19, .slice B19 (toL (((-1 : Int)) : Rat).den).length e19]]) rfl (built_C12g _ _ _ _ _ _ _ _ _ _))) hS2 rfl <| D.one 7 rfl (by decide +kernel) (fun hX => ?_)
      refine L.alloc tyZ29 rfl ?_
      intro g3 w37 hN3
      replace hS2 := hS2.trans hN3.mod
      replace hn6 := hn6.new hN3
      replace hd6 := hd6.new hN3
      have hne_g1_g3 := hb1.ne_ hN3
      replace hb1 := Blk.gr hb1 hN3.mod
      replace hT2 := hT2.new hN3
      replace hn12 := hn12.new hN3
      replace hd12 := hd12.new hN3
      have hne_g2_g3 := hb2.ne_ hN3
      replace hb2 := Blk.gr hb2 hN3.mod
      replace hbd := hbd.new hN3
      have hge_g3 := New.ge hN3 hm0.size
      replace hm0 := hm0.trans (hN3.mod.mono (by simp))
      replace hn16 := hn16.new hN3
      replace hd16 := hd16.new hN3
      replace hn19 := hn19.new hN3
      replace hd19 := hd19.new hN3
      have hne_g18_g3 := hb18.ne_ hN3
      replace hb18 := Blk.gr hb18 hN3.mod
      have hb3 := hN3.blk
      clear hN3
      refine L.nil (hX _ _ ⟨.inr hS2, ?_⟩)
      refine D.one 8 rfl (by decide +kernel) (fun hX => ?_)
      refine L.storeBox rfl rfl hb3 rfl rfl tyG29 ?_
      intro w38 hb3' hm38
      replace hn6 := hn6.mod hm38 (by simp)
      replace hd6 := hd6.mod hm38 (by simp)
      replace hb1 := Blk.far hb1 hm38 (by first | exact hne_g1_g3 | exact (hne_g3_g1).symm)
      replace hT2 := hT2.mod hm38 (by simp)
      replace hn12 := hn12.mod hm38 (by simp)
      replace hd12 := hd12.mod hm38 (by simp)
      replace hb2 := Blk.far hb2 hm38 (by first | exact hne_g2_g3 | exact (hne_g3_g2).symm)
      replace hbd := hbd.gr hm38
      replace hm0 := hm0.old1 hm38 hge_g3
      replace hn16 := hn16.mod hm38 (by simp)
      replace hd16 := hd16.mod hm38 (by simp)
      replace hn19 := hn19.mod hm38 (by simp)
      replace hd19 := hd19.mod hm38 (by simp)
      replace hb18 := Blk.far hb18 hm38 (by first | exact hne_g18_g3 | exact (hne_g3_g18).symm)
      clear hm38
      replace hb3 := hb3'; clear hb3'
      refine L.nil (hX _ _ ⟨.inl rfl, ?_⟩)
      refine D.done (by decide +kernel) ?_ _
      refine X.join (g18, A19, c19, B19, e19, g3) ?_ ?_
      · exact ⟨rfl, rfl, trivial⟩
      ·
       exact ⟨hT2.sub (M' := []) (by intro b hb; cases hb), hn12.sub (M' := []) (by intro b hb; cases hb), hd12.sub (M' := []) (by intro b hb; cases hb), hb2, Lay.of_blk (M := []) (css := [[.int .i64 0, .bool (decide ((((1 : Int)) : Rat).num < 0)), .slice A6 (toL (((1 : Int)) : Rat).num.natAbs).length c6, .slice B6 (toL (((1 : Int)) : Rat).den).length e6], [.int .i64 1, .bool (decide ((((-1 : Int)) : Rat).num < 0)), .slice A16 (toL (((-1 : Int)) : Rat).num.natAbs).length c16, .slice B16 (toL (((-1 : Int)) : Rat).den).length e16]]) hb18 ((LayL.one _ (⟨0, QR.nf (((1 : Int)) : Rat)⟩ : TR) (rdT_mk (t := ⟨0, QR.nf (((1 : Int)) : Rat)⟩) (hn6.sub (M' := []) (by intro b hb; cases hb)) (hd6.sub (M' := []) (by intro b hb; cases hb)))).append (LayL.one _ (⟨1, QR.nf (((-1 : Int)) : Rat)⟩ : TR) (rdT_mk (t := ⟨1, QR.nf (((-1 : Int)) : Rat)⟩) (hn16.sub (M' := []) (by intro b hb; cases hb)) (hd16.sub (M' := []) (by intro b hb; cases hb))))) rfl rfl (by decide) (by simp), hn19.sub (M' := []) (by intro b hb; cases hb), hd19.sub (M' := []) (by intro b hb; cases hb), hb3, hbd.sub (M' := []) (by intro b hb; cases hb), hm0, hne_g2_g3⟩
     ·
      refine ⟨_, rfl, fun hX => ?_⟩
      refine L.alloc tyZ29 rfl ?_
      intro g3 w39 hN3
      replace hS2 := hS2.trans hN3.mod
      replace hn6 := hn6.new hN3
      replace hd6 := hd6.new hN3
      have hne_g1_g3 := hb1.ne_ hN3
      replace hb1 := Blk.gr hb1 hN3.mod
      replace hT2 := hT2.new hN3
      replace hn12 := hn12.new hN3
      replace hd12 := hd12.new hN3
      have hne_g2_g3 := hb2.ne_ hN3
      replace hb2 := Blk.gr hb2 hN3.mod
      replace hbd := hbd.new hN3
      have hge_g3 := New.ge hN3 hm0.size
      replace hm0 := hm0.trans (hN3.mod.mono (by simp))
      replace hn16 := hn16.new hN3
      replace hd16 := hd16.new hN3
      replace hn19 := hn19.new hN3
      replace hd19 := hd19.new hN3
      have hb3 := hN3.blk
      clear hN3
      refine L.nil (hX _ _ ⟨.inr hS2, ?_⟩)
      refine D.one 4 rfl (by decide +kernel) (fun hX => ?_)
      refine L.buildSlice (cells := [.int .i64 0, .bool (decide ((((1 : Int)) : Rat).num < 0)), .slice A6 (toL (((1 : Int)) : Rat).num.natAbs).length c6, .slice B6 (toL (((1 : Int)) : Rat).den).length e6, .int .i64 1, .bool (decide ((((-1 : Int)) : Rat).num < 0)), .slice A16 (toL (((-1 : Int)) : Rat).num.natAbs).length c16, .slice B16 (toL (((-1 : Int)) : Rat).den).length e16]) rfl tyS24 tyZ50 (fillT2 _ _ _ _ _ _ _ _ _ _ _ _ _ _ _ _) (by decide) (by decide) rfl ?_
      intro g18 w40 hN18
      have hgs_g18 := New.ge hN18 hS2.size
      replace hS2 := hS2.trans hN18.mod
      replace hn6 := hn6.new hN18
      replace hd6 := hd6.new hN18
      have hne_g1_g18 := hb1.ne_ hN18
      replace hb1 := Blk.gr hb1 hN18.mod
      replace hT2 := hT2.new hN18
      replace hn12 := hn12.new hN18
      replace hd12 := hd12.new hN18
      have hne_g2_g18 := hb2.ne_ hN18
      replace hb2 := Blk.gr hb2 hN18.mod
      replace hbd := hbd.new hN18
      have hge_g18 := New.ge hN18 hm0.size
      replace hm0 := hm0.trans (hN18.mod.mono (by simp))
      replace hn16 := hn16.new hN18
      replace hd16 := hd16.new hN18
      replace hn19 := hn19.new hN18
      replace hd19 := hd19.new hN18
      have hne_g3_g18 := hb3.ne_ hN18
      replace hb3 := Blk.gr hb3 hN18.mod
      have hb18 := hN18.blk
      clear hN18
      refine L.nil (hX _ _ ⟨.inr hS2, ?_⟩)
      refine D.take 6 rfl (by decide +kernel) (fun w_ hS => (R1.build (vs := [.slice (some ⟨g18, 0, none⟩) 2 2, .agg #[.bool (decide ((((-1 : Int)) : Rat).num < 0)), .slice A19 (toL (((-1 : Int)) : Rat).num.natAbs).length c19, .slice B19 (toL (((-1 : Int)) : Rat).den).length e19]]) rfl (built_C12g _ _ _ _ _ _ _ _ _ _))) hS2 rfl <| D.one 8 rfl (by decide +kernel) (fun hX => ?_)
      refine L.storeBox rfl rfl hb3 rfl rfl tyG29 ?_
      intro w41 hb3' hm41
      replace hn6 := hn6.mod hm41 (by simp)
      replace hd6 := hd6.mod hm41 (by simp)
      replace hb1 := Blk.far hb1 hm41 (by first | exact hne_g1_g3 | exact (hne_g3_g1).symm)
      replace hT2 := hT2.mod hm41 (by simp)
      replace hn12 := hn12.mod hm41 (by simp)
      replace hd12 := hd12.mod hm41 (by simp)
      replace hb2 := Blk.far hb2 hm41 (by first | exact hne_g2_g3 | exact (hne_g3_g2).symm)
      replace hbd := hbd.gr hm41
      replace hm0 := hm0.old1 hm41 hge_g3
      replace hn16 := hn16.mod hm41 (by simp)
      replace hd16 := hd16.mod hm41 (by simp)
      replace hn19 := hn19.mod hm41 (by simp)
      replace hd19 := hd19.mod hm41 (by simp)
      replace hb18 := Blk.far hb18 hm41 (by first | exact hne_g18_g3 | exact (hne_g3_g18).symm)
      clear hm41
      replace hb3 := hb3'; clear hb3'
      refine L.nil (hX _ _ ⟨.inl rfl, ?_⟩)
      refine D.done (by decide +kernel) ?_ _
      refine X.join (g18, A19, c19, B19, e19, g3) ?_ ?_
      · exact ⟨rfl, rfl, trivial⟩
      ·
       exact ⟨hT2.sub (M' := []) (by intro b hb; cases hb), hn12.sub (M' := []) (by intro b hb; cases hb), hd12.sub (M' := []) (by intro b hb; cases hb), hb2, Lay.of_blk (M := []) (css := [[.int .i64 0, .bool (decide ((((1 : Int)) : Rat).num < 0)), .slice A6 (toL (((1 : Int)) : Rat).num.natAbs).length c6, .slice B6 (toL (((1 : Int)) : Rat).den).length e6], [.int .i64 1, .bool (decide ((((-1 : Int)) : Rat).num < 0)), .slice A16 (toL (((-1 : Int)) : Rat).num.natAbs).length c16, .slice B16 (toL (((-1 : Int)) : Rat).den).length e16]]) hb18 ((LayL.one _ (⟨0, QR.nf (((1 : Int)) : Rat)⟩ : TR) (rdT_mk (t := ⟨0, QR.nf (((1 : Int)) : Rat)⟩) (hn6.sub (M' := []) (by intro b hb; cases hb)) (hd6.sub (M' := []) (by intro b hb; cases hb)))).append (LayL.one _ (⟨1, QR.nf (((-1 : Int)) : Rat)⟩ : TR) (rdT_mk (t := ⟨1, QR.nf (((-1 : Int)) : Rat)⟩) (hn16.sub (M' := []) (by intro b hb; cases hb)) (hd16.sub (M' := []) (by intro b hb; cases hb))))) rfl rfl (by decide) (by simp), hn19.sub (M' := []) (by intro b hb; cases hb), hd19.sub (M' := []) (by intro b hb; cases hb), hb3, hbd.sub (M' := []) (by intro b hb; cases hb), hm0, hne_g2_g3⟩
    ·
     refine ⟨_, rfl, fun hX => ?_⟩
     refine L.alloc tyZ29 rfl ?_
     intro g3 w42 hN3
     replace hS2 := hS2.trans hN3.mod
     replace hn6 := hn6.new hN3
     replace hd6 := hd6.new hN3
     have hne_g1_g3 := hb1.ne_ hN3
     replace hb1 := Blk.gr hb1 hN3.mod
     replace hT2 := hT2.new hN3
     replace hn12 := hn12.new hN3
     replace hd12 := hd12.new hN3
     have hne_g2_g3 := hb2.ne_ hN3
     replace hb2 := Blk.gr hb2 hN3.mod
     replace hbd := hbd.new hN3
     have hge_g3 := New.ge hN3 hm0.size
     replace hm0 := hm0.trans (hN3.mod.mono (by simp))
     replace hn16 := hn16.new hN3
     replace hd16 := hd16.new hN3
     have hb3 := hN3.blk
     clear hN3
     refine L.nil (hX _ _ ⟨.inr hS2, ?_⟩)
     refine D.many (rs := [4, 5]) (by decide +kernel) rfl ?_
     intro i_ hi_
     simp only [List.mem_cons, List.not_mem_nil, or_false] at hi_
     rcases hi_ with rfl | rfl
     ·
      refine ⟨_, rfl, fun hX => ?_⟩
      refine L.buildSlice (cells := [.int .i64 0, .bool (decide ((((1 : Int)) : Rat).num < 0)), .slice A6 (toL (((1 : Int)) : Rat).num.natAbs).length c6, .slice B6 (toL (((1 : Int)) : Rat).den).length e6, .int .i64 1, .bool (decide ((((-1 : Int)) : Rat).num < 0)), .slice A16 (toL (((-1 : Int)) : Rat).num.natAbs).length c16, .slice B16 (toL (((-1 : Int)) : Rat).den).length e16]) rfl tyS24 tyZ50 (fillT2 _ _ _ _ _ _ _ _ _ _ _ _ _ _ _ _) (by decide) (by decide) rfl ?_
      intro g18 w43 hN18
      have hgs_g18 := New.ge hN18 hS2.size
      replace hS2 := hS2.trans hN18.mod
      replace hn6 := hn6.new hN18
      replace hd6 := hd6.new hN18
      have hne_g1_g18 := hb1.ne_ hN18
      replace hb1 := Blk.gr hb1 hN18.mod
      replace hT2 := hT2.new hN18
      replace hn12 := hn12.new hN18
      replace hd12 := hd12.new hN18
      have hne_g2_g18 := hb2.ne_ hN18
      replace hb2 := Blk.gr hb2 hN18.mod
      replace hbd := hbd.new hN18
      have hge_g18 := New.ge hN18 hm0.size
      replace hm0 := hm0.trans (hN18.mod.mono (by simp))
      replace hn16 := hn16.new hN18
      replace hd16 := hd16.new hN18
      have hne_g3_g18 := hb3.ne_ hN18
      replace hb3 := Blk.gr hb3 hN18.mod
      have hb18 := hN18.blk
      clear hN18
      refine L.nil (hX _ _ ⟨.inr hS2, ?_⟩)
      refine D.one 5 rfl (by decide +kernel) (fun hX => ?_)
      refine L.call rfl (c_ref2_Int (n := -1) (by decide) (by decide) hbd) rfl ?_
      rintro _ w44 ⟨⟨A19, c19, B19, e19, rfl, hn19, hd19⟩, hm44⟩
      replace hn6 := hn6.gr hm44
      replace hd6 := hd6.gr hm44
      replace hb1 := Blk.gr hb1 hm44
      replace hT2 := hT2.gr hm44
      replace hn12 := hn12.gr hm44
      replace hd12 := hd12.gr hm44
      replace hb2 := Blk.gr hb2 hm44
      replace hbd := hbd.gr hm44
      replace hm0 := hm0.trans hm44
      replace hn16 := hn16.gr hm44
      replace hd16 := hd16.gr hm44
      replace hb3 := Blk.gr hb3 hm44
      replace hb18 := Blk.gr hb18 hm44
      replace hS2 := hS2.trans hm44
      clear hm44
      have F19 := Fit.int (n := -1) (by decide) (by decide)
      refine L.nil (hX _ _ ⟨.inr hS2, ?_⟩)
      refine D.take 6 rfl (by decide +kernel) (fun w_ hS => (R1.build (vs := [.slice (some ⟨g18, 0, none⟩) 2 2, .agg #[.bool (decide ((((-1 : Int)) : Rat).num < 0)), .slice A19 (toL (((-1 : Int)) : Rat).num.natAbs).length c19, .slice B19 (toL (((-1 : Int)) : Rat).den).length e19]]) rfl (built_C12g _ _ _ _ _ _ _ _ _ _))) hS2 rfl <| D.one 8 rfl (by decide +kernel) (fun hX => ?_)
      refine L.storeBox rfl rfl hb3 rfl rfl tyG29 ?_
      intro w45 hb3' hm45
      replace hn6 := hn6.mod hm45 (by simp)
      replace hd6 := hd6.mod hm45 (by simp)
      replace hb1 := Blk.far hb1 hm45 (by first | exact hne_g1_g3 | exact (hne_g3_g1).symm)
      replace hT2 := hT2.mod hm45 (by simp)
      replace hn12 := hn12.mod hm45 (by simp)
      replace hd12 := hd12.mod hm45 (by simp)
      replace hb2 := Blk.far hb2 hm45 (by first | exact hne_g2_g3 | exact (hne_g3_g2).symm)
      replace hbd := hbd.gr hm45
      replace hm0 := hm0.old1 hm45 hge_g3
      replace hn16 := hn16.mod hm45 (by simp)
      replace hd16 := hd16.mod hm45 (by simp)
      replace hb18 := Blk.far hb18 hm45 (by first | exact hne_g18_g3 | exact (hne_g3_g18).symm)
      replace hn19 := hn19.mod hm45 (by simp)
      replace hd19 := hd19.mod hm45 (by simp)
      clear hm45
      replace hb3 := hb3'; clear hb3'
      refine L.nil (hX _ _ ⟨.inl rfl, ?_⟩)
      refine D.done (by decide +kernel) ?_ _
      refine X.join (g18, A19, c19, B19, e19, g3) ?_ ?_
      · exact ⟨rfl, rfl, trivial⟩
      ·
       exact ⟨hT2.sub (M' := []) (by intro b hb; cases hb), hn12.sub (M' := []) (by intro b hb; cases hb), hd12.sub (M' := []) (by intro b hb; cases hb), hb2, Lay.of_blk (M := []) (css := [[.int .i64 0, .bool (decide ((((1 : Int)) : Rat).num < 0)), .slice A6 (toL (((1 : Int)) : Rat).num.natAbs).length c6, .slice B6 (toL (((1 : Int)) : Rat).den).length e6], [.int .i64 1, .bool (decide ((((-1 : Int)) : Rat).num < 0)), .slice A16 (toL (((-1 : Int)) : Rat).num.natAbs).length c16, .slice B16 (toL (((-1 : Int)) : Rat).den).length e16]]) hb18 ((LayL.one _ (⟨0, QR.nf (((1 : Int)) : Rat)⟩ : TR) (rdT_mk (t := ⟨0, QR.nf (((1 : Int)) : Rat)⟩) (hn6.sub (M' := []) (by intro b hb; cases hb)) (hd6.sub (M' := []) (by intro b hb; cases hb)))).append (LayL.one _ (⟨1, QR.nf (((-1 : Int)) : Rat)⟩ : TR) (rdT_mk (t := ⟨1, QR.nf (((-1 : Int)) : Rat)⟩) (hn16.sub (M' := []) (by intro b hb; cases hb)) (hd16.sub (M' := []) (by intro b hb; cases hb))))) rfl rfl (by decide) (by simp), hn19.sub (M' := []) (by intro b hb; cases hb), hd19.sub (M' := []) (by intro b hb; cases hb), hb3, hbd.sub (M' := []) (by intro b hb; cases hb), hm0, hne_g2_g3⟩
     ·
      refine ⟨_, rfl, fun hX => ?_⟩
      refine L.call rfl (c_ref2_Int (n := -1) (by decide) (by decide) hbd) rfl ?_
      rintro _ w46 ⟨⟨A19, c19, B19, e19, rfl, hn19, hd19⟩, hm46⟩
      replace hn6 := hn6.gr hm46
      replace hd6 := hd6.gr hm46
      replace hb1 := Blk.gr hb1 hm46
      replace hT2 := hT2.gr hm46
      replace hn12 := hn12.gr hm46
      replace hd12 := hd12.gr hm46
      replace hb2 := Blk.gr hb2 hm46
      replace hbd := hbd.gr hm46
      replace hm0 := hm0.trans hm46
      replace hn16 := hn16.gr hm46
      replace hd16 := hd16.gr hm46
      replace hb3 := Blk.gr hb3 hm46
      replace hS2 := hS2.trans hm46
      clear hm46
      have F19 := Fit.int (n := -1) (by decide) (by decide)
      refine L.nil (hX _ _ ⟨.inr hS2, ?_⟩)
      refine D.one 4 rfl (by decide +kernel) (fun hX => ?_)
      refine L.buildSlice (cells := [.int .i64 0, .bool (decide ((((1 : Int)) : Rat).num < 0)), .slice A6 (toL (((1 : Int)) : Rat).num.natAbs).length c6, .slice B6 (toL (((1 : Int)) : Rat).den).length e6, .int .i64 1, .bool (decide ((((-1 : Int)) : Rat).num < 0)), .slice A16 (toL (((-1 : Int)) : Rat).num.natAbs).length c16, .slice B16 (toL (((-1 : Int)) : Rat).den).length e16]) rfl tyS24 tyZ50 (fillT2 _ _ _ _ _ _ _ _ _ _ _ _ _ _ _ _) (by decide) (by decide) rfl ?_
      intro g18 w47 hN18
      have hgs_g18 := New.ge hN18 hS2.size
      replace hS2 := hS2.trans hN18.mod
      replace hn6 := hn6.new hN18
      replace hd6 := hd6.new hN18
      have hne_g1_g18 := hb1.ne_ hN18
      replace hb1 := Blk.gr hb1 hN18.mod
      replace hT2 := hT2.new hN18
      replace hn12 := hn12.new hN18
      replace hd12 := hd12.new hN18
      have hne_g2_g18 := hb2.ne_ hN18
      replace hb2 := Blk.gr hb2 hN18.mod
      replace hbd := hbd.new hN18
      have hge_g18 := New.ge hN18 hm0.size
      replace hm0 := hm0.trans (hN18.mod.mono (by simp))
      replace hn16 := hn16.new hN18
      replace hd16 := hd16.new hN18
      have hne_g3_g18 := hb3.ne_ hN18
      replace hb3 := Blk.gr hb3 hN18.mod
      replace hn19 := hn19.new hN18
      replace hd19 := hd19.new hN18
      have hb18 := hN18.blk
      clear hN18
      refine L.nil (hX _ _ ⟨.inr hS2, ?_⟩)
      refine D.take 6 rfl (by decide +kernel) (fun w_ hS => (R1.build (vs := [.slice (some ⟨g18, 0, none⟩) 2 2, .agg #[.bool (decide ((((-1 : Int)) : Rat).num < 0)), .slice A19 (toL (((-1 : Int)) : Rat).num.natAbs).length c19, .slice B19 (toL (((-1 : Int)) : Rat).den).length e19]]) rfl (built_C12g _ _ _ _ _ _ _ _ _ _))) hS2 rfl <| D.one 8 rfl (by decide +kernel) (fun hX => ?_)
      refine L.storeBox rfl rfl hb3 rfl rfl tyG29 ?_
      intro w48 hb3' hm48
      replace hn6 := hn6.mod hm48 (by simp)
      replace hd6 := hd6.mod hm48 (by simp)
      replace hb1 := Blk.far hb1 hm48 (by first | exact hne_g1_g3 | exact (hne_g3_g1).symm)
      replace hT2 := hT2.mod hm48 (by simp)
      replace hn12 := hn12.mod hm48 (by simp)
      replace hd12 := hd12.mod hm48 (by simp)
      replace hb2 := Blk.far hb2 hm48 (by first | exact hne_g2_g3 | exact (hne_g3_g2).symm)
      replace hbd := hbd.gr hm48
      replace hm0 := hm0.old1 hm48 hge_g3
      replace hn16 := hn16.mod hm48 (by simp)
      replace hd16 := hd16.mod hm48 (by simp)
      replace hn19 := hn19.mod hm48 (by simp)
      replace hd19 := hd19.mod hm48 (by simp)
      replace hb18 := Blk.far hb18 hm48 (by first | exact hne_g18_g3 | exact (hne_g3_g18).symm)
      clear hm48
      replace hb3 := hb3'; clear hb3'
      refine L.nil (hX _ _ ⟨.inl rfl, ?_⟩)
      refine D.done (by decide +kernel) ?_ _
      refine X.join (g18, A19, c19, B19, e19, g3) ?_ ?_
      · exact ⟨rfl, rfl, trivial⟩
      ·
       exact ⟨hT2.sub (M' := []) (by intro b hb; cases hb), hn12.sub (M' := []) (by intro b hb; cases hb), hd12.sub (M' := []) (by intro b hb; cases hb), hb2, Lay.of_blk (M := []) (css := [[.int .i64 0, .bool (decide ((((1 : Int)) : Rat).num < 0)), .slice A6 (toL (((1 : Int)) : Rat).num.natAbs).length c6, .slice B6 (toL (((1 : Int)) : Rat).den).length e6], [.int .i64 1, .bool (decide ((((-1 : Int)) : Rat).num < 0)), .slice A16 (toL (((-1 : Int)) : Rat).num.natAbs).length c16, .slice B16 (toL (((-1 : Int)) : Rat).den).length e16]]) hb18 ((LayL.one _ (⟨0, QR.nf (((1 : Int)) : Rat)⟩ : TR) (rdT_mk (t := ⟨0, QR.nf (((1 : Int)) : Rat)⟩) (hn6.sub (M' := []) (by intro b hb; cases hb)) (hd6.sub (M' := []) (by intro b hb; cases hb)))).append (LayL.one _ (⟨1, QR.nf (((-1 : Int)) : Rat)⟩ : TR) (rdT_mk (t := ⟨1, QR.nf (((-1 : Int)) : Rat)⟩) (hn16.sub (M' := []) (by intro b hb; cases hb)) (hd16.sub (M' := []) (by intro b hb; cases hb))))) rfl rfl (by decide) (by simp), hn19.sub (M' := []) (by intro b hb; cases hb), hd19.sub (M' := []) (by intro b hb; cases hb), hb3, hbd.sub (M' := []) (by intro b hb; cases hb), hm0, hne_g2_g3⟩
   ·
    refine ⟨_, rfl, fun hX => ?_⟩
    refine L.alloc tyZ29 rfl ?_
    intro g3 w49 hN3
    replace hS2 := hS2.trans hN3.mod
    replace hn6 := hn6.new hN3
    replace hd6 := hd6.new hN3
    have hne_g1_g3 := hb1.ne_ hN3
    replace hb1 := Blk.gr hb1 hN3.mod
    replace hT2 := hT2.new hN3
    replace hn12 := hn12.new hN3
    replace hd12 := hd12.new hN3
    have hne_g2_g3 := hb2.ne_ hN3
    replace hb2 := Blk.gr hb2 hN3.mod
    replace hbd := hbd.new hN3
    have hge_g3 := New.ge hN3 hm0.size
    replace hm0 := hm0.trans (hN3.mod.mono (by simp))
    have hb3 := hN3.blk
    clear hN3
    refine L.nil (hX _ _ ⟨.inr hS2, ?_⟩)
    refine D.one 2 rfl (by decide +kernel) (fun hX => ?_)
    refine L.call rfl (c_ref2_Int (n := -1) (by decide) (by decide) hbd) rfl ?_
    rintro _ w50 ⟨⟨A16, c16, B16, e16, rfl, hn16, hd16⟩, hm50⟩
    replace hn6 := hn6.gr hm50
    replace hd6 := hd6.gr hm50
    replace hb1 := Blk.gr hb1 hm50
    replace hT2 := hT2.gr hm50
    replace hn12 := hn12.gr hm50
    replace hd12 := hd12.gr hm50
    replace hb2 := Blk.gr hb2 hm50
    replace hbd := hbd.gr hm50
    replace hm0 := hm0.trans hm50
    replace hb3 := Blk.gr hb3 hm50
    replace hS2 := hS2.trans hm50
    clear hm50
    have F16 := Fit.int (n := -1) (by decide) (by decide)
    refine L.nil (hX _ _ ⟨.inr hS2, ?_⟩)
    refine D.take 3 rfl (by decide +kernel) (fun w_ hS => (R1.build (vs := [.int .i64 1, .agg #[.bool (decide ((((-1 : Int)) : Rat).num < 0)), .slice A16 (toL (((-1 : Int)) : Rat).num.natAbs).length c16, .slice B16 (toL (((-1 : Int)) : Rat).den).length e16]]) rfl (built_T01 _ _ _ _ _ _ _ _))) hS2 rfl <| D.many (rs := [4, 5]) (by decide +kernel) rfl ?_
    intro i_ hi_
    simp only [List.mem_cons, List.not_mem_nil, or_false] at hi_
    rcases hi_ with rfl | rfl
    ·
     refine ⟨_, rfl, fun hX => ?_⟩
     refine L.buildSlice (cells := [.int .i64 0, .bool (decide ((((1 : Int)) : Rat).num < 0)), .slice A6 (toL (((1 : Int)) : Rat).num.natAbs).length c6, .slice B6 (toL (((1 : Int)) : Rat).den).length e6, .int .i64 1, .bool (decide ((((-1 : Int)) : Rat).num < 0)), .slice A16 (toL (((-1 : Int)) : Rat).num.natAbs).length c16, .slice B16 (toL (((-1 : Int)) : Rat).den).length e16]) rfl tyS24 tyZ50 (fillT2 _ _ _ _ _ _ _ _ _ _ _ _ _ _ _ _) (by decide) (by decide) rfl ?_
     intro g18 w51 hN18
     have hgs_g18 := New.ge hN18 hS2.size
     replace hS2 := hS2.trans hN18.mod
     replace hn6 := hn6.new hN18
     replace hd6 := hd6.new hN18
     have hne_g1_g18 := hb1.ne_ hN18
     replace hb1 := Blk.gr hb1 hN18.mod
     replace hT2 := hT2.new hN18
     replace hn12 := hn12.new hN18
     replace hd12 := hd12.new hN18
     have hne_g2_g18 := hb2.ne_ hN18
     replace hb2 := Blk.gr hb2 hN18.mod
     replace hbd := hbd.new hN18
     have hge_g18 := New.ge hN18 hm0.size
     replace hm0 := hm0.trans (hN18.mod.mono (by simp))
     have hne_g3_g18 := hb3.ne_ hN18
     replace hb3 := Blk.gr hb3 hN18.mod
     replace hn16 := hn16.new hN18
     replace hd16 := hd16.new hN18
     have hb18 := hN18.blk
     clear hN18
     refine L.nil (hX _ _ ⟨.inr hS2, ?_⟩)
     refine D.one 5 rfl (by decide +kernel) (fun hX => ?_)
     refine L.call rfl (c_ref2_Int (n := -1) (by decide) (by decide) hbd) rfl ?_
     rintro _ w52 ⟨⟨A19, c19, B19, e19, rfl, hn19, hd19⟩, hm52⟩
     replace hn6 := hn6.gr hm52
     replace hd6 := hd6.gr hm52
     replace hb1 := Blk.gr hb1 hm52
     replace hT2 := hT2.gr hm52
     replace hn12 := hn12.gr hm52
     replace hd12 := hd12.gr hm52
     replace hb2 := Blk.gr hb2 hm52
     replace hbd := hbd.gr hm52
     replace hm0 := hm0.trans hm52
     replace hb3 := Blk.gr hb3 hm52
     replace hn16 := hn16.gr hm52
     replace hd16 := hd16.gr hm52
     replace hb18 := Blk.gr hb18 hm52
     replace hS2 := hS2.trans hm52
     clear hm52
     have F19 := Fit.int (n := -1) (by decide) (by decide)
     refine L.nil (hX _ _ ⟨.inr hS2, ?_⟩)
     refine D.take 6 rfl (by decide +kernel) (fun w_ hS => (R1.build (vs := [.slice (some ⟨g18, 0, none⟩) 2 2, .agg #[.bool (decide ((((-1 : Int)) : Rat).num < 0)), .slice A19 (toL (((-1 : Int)) : Rat).num.natAbs).length c19, .slice B19 (toL (((-1 : Int)) : Rat).den).length e19]]) rfl (built_C12g _ _ _ _ _ _ _ _ _ _))) hS2 rfl <| D.one 8 rfl (by decide +kernel) (fun hX => ?_)
     refine L.storeBox rfl rfl hb3 rfl rfl tyG29 ?_
     intro w53 hb3' hm53
     replace hn6 := hn6.mod hm53 (by simp)
     replace hd6 := hd6.mod hm53 (by simp)
     replace hb1 := Blk.far hb1 hm53 (by first | exact hne_g1_g3 | exact (hne_g3_g1).symm)
     replace hT2 := hT2.mod hm53 (by simp)
     replace hn12 := hn12.mod hm53 (by simp)
     replace hd12 := hd12.mod hm53 (by simp)
     replace hb2 := Blk.far hb2 hm53 (by first | exact hne_g2_g3 | exact (hne_g3_g2).symm)
     replace hbd := hbd.gr hm53
     replace hm0 := hm0.old1 hm53 hge_g3
     replace hn16 := hn16.mod hm53 (by simp)
     replace hd16 := hd16.mod hm53 (by simp)
     replace hb18 := Blk.far hb18 hm53 (by first | exact hne_g18_g3 | exact (hne_g3_g18).symm)
     replace hn19 := hn19.mod hm53 (by simp)
     replace hd19 := hd19.mod hm53 (by simp)
     clear hm53
     replace hb3 := hb3'; clear hb3'
     refine L.nil (hX _ _ ⟨.inl rfl, ?_⟩)
     refine D.done (by decide +kernel) ?_ _
     refine X.join (g18, A19, c19, B19, e19, g3) ?_ ?_
     · exact ⟨rfl, rfl, trivial⟩
     ·
      exact ⟨hT2.sub (M' := []) (by intro b hb; cases hb), hn12.sub (M' := []) (by intro b hb; cases hb), hd12.sub (M' := []) (by intro b hb; cases hb), hb2, Lay.of_blk (M := []) (css := [[.int .i64 0, .bool (decide ((((1 : Int)) : Rat).num < 0)), .slice A6 (toL (((1 : Int)) : Rat).num.natAbs).length c6, .slice B6 (toL (((1 : Int)) : Rat).den).length e6], [.int .i64 1, .bool (decide ((((-1 : Int)) : Rat).num < 0)), .slice A16 (toL (((-1 : Int)) : Rat).num.natAbs).length c16, .slice B16 (toL (((-1 : Int)) : Rat).den).length e16]]) hb18 ((LayL.one _ (⟨0, QR.nf (((1 : Int)) : Rat)⟩ : TR) (rdT_mk (t := ⟨0, QR.nf (((1 : Int)) : Rat)⟩) (hn6.sub (M' := []) (by intro b hb; cases hb)) (hd6.sub (M' := []) (by intro b hb; cases hb)))).append (LayL.one _ (⟨1, QR.nf (((-1 : Int)) : Rat)⟩ : TR) (rdT_mk (t := ⟨1, QR.nf (((-1 : Int)) : Rat)⟩) (hn16.sub (M' := []) (by intro b hb; cases hb)) (hd16.sub (M' := []) (by intro b hb; cases hb))))) rfl rfl (by decide) (by simp), hn19.sub (M' := []) (by intro b hb; cases hb), hd19.sub (M' := []) (by intro b hb; cases hb), hb3, hbd.sub (M' := []) (by intro b hb; cases hb), hm0, hne_g2_g3⟩
    ·
     refine ⟨_, rfl, fun hX => ?_⟩
     refine L.call rfl (c_ref2_Int (n := -1) (by decide) (by decide) hbd) rfl ?_
     rintro _ w54 ⟨⟨A19, c19, B19, e19, rfl, hn19, hd19⟩, hm54⟩
     replace hn6 := hn6.gr hm54
     replace hd6 := hd6.gr hm54
     replace hb1 := Blk.gr hb1 hm54
     replace hT2 := hT2.gr hm54
     replace hn12 := hn12.gr hm54
     replace hd12 := hd12.gr hm54
     replace hb2 := Blk.gr hb2 hm54
     replace hbd := hbd.gr hm54
     replace hm0 := hm0.trans hm54
     replace hb3 := Blk.gr hb3 hm54
     replace hn16 := hn16.gr hm54
     replace hd16 := hd16.gr hm54
     replace hS2 := hS2.trans hm54
     clear hm54
     have F19 := Fit.int (n := -1) (by decide) (by decide)
     refine L.nil (hX _ _ ⟨.inr hS2, ?_⟩)
     refine D.one 4 rfl (by decide +kernel) (fun hX => ?_)
     refine L.buildSlice (cells := [.int .i64 0, .bool (decide ((((1 : Int)) : Rat).num < 0)), .slice A6 (toL (((1 : Int)) : Rat).num.natAbs).length c6, .slice B6 (toL (((1 : Int)) : Rat).den).length e6, .int .i64 1, .bool (decide ((((-1 : Int)) : Rat).num < 0)), .slice A16 (toL (((-1 : Int)) : Rat).num.natAbs).length c16, .slice B16 (toL (((-1 : Int)) : Rat).den).length e16]) rfl tyS24 tyZ50 (fillT2 _ _ _ _ _ _ _ _ _ _ _ _ _ _ _ _) (by decide) (by decide) rfl ?_
     intro g18 w55 hN18
     have hgs_g18 := New.ge hN18 hS2.size
     replace hS2 := hS2.trans hN18.mod
     replace hn6 := hn6.new hN18
     replace hd6 := hd6.new hN18
     have hne_g1_g18 := hb1.ne_ hN18
     replace hb1 := Blk.gr hb1 hN18.mod
     replace hT2 := hT2.new hN18
     replace hn12 := hn12.new hN18
     replace hd12 := hd12.new hN18
     have hne_g2_g18 := hb2.ne_ hN18
     replace hb2 := Blk.gr hb2 hN18.mod
     replace hbd := hbd.new hN18
     have hge_g18 := New.ge hN18 hm0.size
     replace hm0 := hm0.trans (hN18.mod.mono (by simp))
     have hne_g3_g18 := hb3.ne_ hN18
     replace hb3 := Blk.gr hb3 hN18.mod
     replace hn16 := hn16.new hN18
     replace hd16 := hd16.new hN18
     replace hn19 := hn19.new hN18
     replace hd19 := hd19.new hN18
     have hb18 := hN18.blk
     clear hN18
     refine L.nil (hX _ _ ⟨.inr hS2, ?_⟩)
     refine D.take 6 rfl (by decide +kernel) (fun w_ hS => (R1.build (vs := [.slice (some ⟨g18, 0, none⟩) 2 2, .agg #[.bool (decide ((((-1 : Int)) : Rat).num < 0)), .slice A19 (toL (((-1 : Int)) : Rat).num.natAbs).length c19, .slice B19 (toL (((-1 : Int)) : Rat).den).length e19]]) rfl (built_C12g _ _ _ _ _ _ _ _ _ _))) hS2 rfl <| D.one 8 rfl (by decide +kernel) (fun hX => ?_)
     refine L.storeBox rfl rfl hb3 rfl rfl tyG29 ?_
     intro w56 hb3' hm56
     replace hn6 := hn6.mod hm56 (by simp)
     replace hd6 := hd6.mod hm56 (by simp)
     replace hb1 := Blk.far hb1 hm56 (by first | exact hne_g1_g3 | exact (hne_g3_g1).symm)
     replace hT2 := hT2.mod hm56 (by simp)
     replace hn12 := hn12.mod hm56 (by simp)
     replace hd12 := hd12.mod hm56 (by simp)
     replace hb2 := Blk.far hb2 hm56 (by first | exact hne_g2_g3 | exact (hne_g3_g2).symm)
     replace hbd := hbd.gr hm56
     replace hm0 := hm0.old1 hm56 hge_g3
     replace hn16 := hn16.mod hm56 (by simp)
     replace hd16 := hd16.mod hm56 (by simp)
     replace hn19 := hn19.mod hm56 (by simp)
     replace hd19 := hd19.mod hm56 (by simp)
     replace hb18 := Blk.far hb18 hm56 (by first | exact hne_g18_g3 | exact (hne_g3_g18).symm)
     clear hm56
     replace hb3 := hb3'; clear hb3'
     refine L.nil (hX _ _ ⟨.inl rfl, ?_⟩)
     refine D.done (by decide +kernel) ?_ _
     refine X.join (g18, A19, c19, B19, e19, g3) ?_ ?_
     · exact ⟨rfl, rfl, trivial⟩
     ·
      exact ⟨hT2.sub (M' := []) (by intro b hb; cases hb), hn12.sub (M' := []) (by intro b hb; cases hb), hd12.sub (M' := []) (by intro b hb; cases hb), hb2, Lay.of_blk (M := []) (css := [[.int .i64 0, .bool (decide ((((1 : Int)) : Rat).num < 0)), .slice A6 (toL (((1 : Int)) : Rat).num.natAbs).length c6, .slice B6 (toL (((1 : Int)) : Rat).den).length e6], [.int .i64 1, .bool (decide ((((-1 : Int)) : Rat).num < 0)), .slice A16 (toL (((-1 : Int)) : Rat).num.natAbs).length c16, .slice B16 (toL (((-1 : Int)) : Rat).den).length e16]]) hb18 ((LayL.one _ (⟨0, QR.nf (((1 : Int)) : Rat)⟩ : TR) (rdT_mk (t := ⟨0, QR.nf (((1 : Int)) : Rat)⟩) (hn6.sub (M' := []) (by intro b hb; cases hb)) (hd6.sub (M' := []) (by intro b hb; cases hb)))).append (LayL.one _ (⟨1, QR.nf (((-1 : Int)) : Rat)⟩ : TR) (rdT_mk (t := ⟨1, QR.nf (((-1 : Int)) : Rat)⟩) (hn16.sub (M' := []) (by intro b hb; cases hb)) (hd16.sub (M' := []) (by intro b hb; cases hb))))) rfl rfl (by decide) (by simp), hn19.sub (M' := []) (by intro b hb; cases hb), hd19.sub (M' := []) (by intro b hb; cases hb), hb3, hbd.sub (M' := []) (by intro b hb; cases hb), hm0, hne_g2_g3⟩
  ·
   rintro ⟨g18, A19, c19, B19, e19, g3⟩ wk ⟨hT2, hn12, hd12, hb2, hT3, hn19, hd19, hb3, hbd, hm0, hne_g2_g3⟩
   refine X.seq <| W.seq <| W.region <| L.v (R1.loadBox rfl hb2 tyG29) rfl <| L.v (R1.loadBox rfl hb3 tyG29) rfl <| L.buildSlice (cells := [.int .i64 0, .slice (some ⟨g11, 0, none⟩) 2 2, .bool (decide ((((-3 : Int)) : Rat).num < 0)), .slice A12 (toL (((-3 : Int)) : Rat).num.natAbs).length c12, .slice B12 (toL (((-3 : Int)) : Rat).den).length e12, .int .i64 0, .slice (some ⟨g18, 0, none⟩) 2 2, .bool (decide ((((-1 : Int)) : Rat).num < 0)), .slice A19 (toL (((-1 : Int)) : Rat).num.natAbs).length c19, .slice B19 (toL (((-1 : Int)) : Rat).den).length e19]) rfl tyS22 tyZ29 (fillC2 _ _ _ _ _ _ _ _ _ _ _ _ _ _ _ _ _ _ _ _ _ _) (by decide) (by decide) rfl ?_
   intro g24 w57 hN24
   replace hT2 := hT2.new hN24
   replace hn12 := hn12.new hN24
   replace hd12 := hd12.new hN24
   have hne_g2_g24 := hb2.ne_ hN24
   replace hb2 := Blk.gr hb2 hN24.mod
   replace hT3 := hT3.new hN24
   replace hn19 := hn19.new hN24
   replace hd19 := hd19.new hN24
   have hne_g3_g24 := hb3.ne_ hN24
   replace hb3 := Blk.gr hb3 hN24.mod
   replace hbd := hbd.new hN24
   have hge_g24 := New.ge hN24 hm0.size
   replace hm0 := hm0.trans (hN24.mod.mono (by simp))
   have hb24 := hN24.blk
   clear hN24
   have hL24 : Lay rdC [] w57 (.slice (some ⟨g24, 0, none⟩) 2 2) [knA, knB] := Lay.of_blk (css := [[.int .i64 0, .slice (some ⟨g11, 0, none⟩) 2 2, .bool (decide ((((-3 : Int)) : Rat).num < 0)), .slice A12 (toL (((-3 : Int)) : Rat).num.natAbs).length c12, .slice B12 (toL (((-3 : Int)) : Rat).den).length e12], [.int .i64 0, .slice (some ⟨g18, 0, none⟩) 2 2, .bool (decide ((((-1 : Int)) : Rat).num < 0)), .slice A19 (toL (((-1 : Int)) : Rat).num.natAbs).length c19, .slice B19 (toL (((-1 : Int)) : Rat).den).length e19]]) hb24 ((LayL.one _ knA (rdC_mk (vt := .slice (some ⟨g11, 0, none⟩) 2 2) (hT2.sub (M' := []) (by intro b hb; cases hb)) (hn12.sub (M' := []) (by intro b hb; cases hb)) (hd12.sub (M' := []) (by intro b hb; cases hb)))).append (LayL.one _ knB (rdC_mk (vt := .slice (some ⟨g18, 0, none⟩) 2 2) (hT3.sub (M' := []) (by intro b hb; cases hb)) (hn19.sub (M' := []) (by intro b hb; cases hb)) (hd19.sub (M' := []) (by intro b hb; cases hb))))) rfl rfl (by decide) (by simp)
   refine L.call rfl (c_Fixed (M := []) (v := 0) (z0 := 2) hL24 (fun m h9 => by cases h9) kn_oks) rfl ?_
   rintro _ w58 ⟨rs25, ok25, _, hP25, rfl, ⟨s25, A25, c25, B25, e25, xs25, ys25, rfl, hn25, hd25, hq25, hla25, hlb25⟩, hm58⟩
   replace hT2 := hT2.gr hm58
   replace hn12 := hn12.gr hm58
   replace hd12 := hd12.gr hm58
   replace hb2 := Blk.gr hb2 hm58
   replace hT3 := hT3.gr hm58
   replace hn19 := hn19.gr hm58
   replace hd19 := hd19.gr hm58
   replace hb3 := Blk.gr hb3 hm58
   replace hbd := hbd.gr hm58
   replace hm0 := hm0.trans hm58
   replace hb24 := Blk.gr hb24 hm58
   replace hL24 := hL24.gr hm58
   clear hm58
   obtain ⟨_, hfx⟩ := kn_fix hP25
   rw [hfx] at hq25 ⊢
   refine L.v (R1.move rfl) rfl <| L.v (R1.extract rfl rfl) rfl <| L.v (R1.extract rfl rfl) rfl <| L.alloc tyZ27 rfl ?_
   intro g4 w59 hN4
   replace hT2 := hT2.new hN4
   replace hn12 := hn12.new hN4
   replace hd12 := hd12.new hN4
   have hne_g2_g4 := hb2.ne_ hN4
   replace hb2 := Blk.gr hb2 hN4.mod
   replace hT3 := hT3.new hN4
   replace hn19 := hn19.new hN4
   replace hd19 := hd19.new hN4
   have hne_g3_g4 := hb3.ne_ hN4
   replace hb3 := Blk.gr hb3 hN4.mod
   replace hbd := hbd.new hN4
   have hge_g4 := New.ge hN4 hm0.size
   replace hm0 := hm0.trans (hN4.mod.mono (by simp))
   have hne_g24_g4 := hb24.ne_ hN4
   replace hb24 := Blk.gr hb24 hN4.mod
   replace hL24 := hL24.new hN4
   replace hn25 := hn25.new hN4
   replace hd25 := hd25.new hN4
   have hb4 := hN4.blk
   clear hN4
   refine L.storeBox rfl rfl hb4 rfl rfl tyG27 ?_
   intro w60 hb4' hm60
   replace hT2 := hT2.mod hm60 (by simp)
   replace hn12 := hn12.mod hm60 (by simp)
   replace hd12 := hd12.mod hm60 (by simp)
   replace hb2 := Blk.far hb2 hm60 (by first | exact hne_g2_g4 | exact (hne_g4_g2).symm)
   replace hT3 := hT3.mod hm60 (by simp)
   replace hn19 := hn19.mod hm60 (by simp)
   replace hd19 := hd19.mod hm60 (by simp)
   replace hb3 := Blk.far hb3 hm60 (by first | exact hne_g3_g4 | exact (hne_g4_g3).symm)
   replace hbd := hbd.gr hm60
   replace hm0 := hm0.old1 hm60 hge_g4
   replace hb24 := Blk.far hb24 hm60 (by first | exact hne_g24_g4 | exact (hne_g4_g24).symm)
   replace hL24 := hL24.mod hm60 (by simp)
   replace hn25 := hn25.mod hm60 (by simp)
   replace hd25 := hd25.mod hm60 (by simp)
   clear hm60
   replace hb4 := hb4'; clear hb4'
   refine L.v (R1.assign rfl) rfl <| L.nil <| X.seq <| W.seq <| W.drawW (T := []) rfl (by decide +kernel) (NoHang.then NoHang.post) (fun w61 hm61 => ?_)
   replace hT2 := hT2.gr hm61
   replace hn12 := hn12.gr hm61
   replace hd12 := hd12.gr hm61
   replace hb2 := Blk.gr hb2 hm61
   replace hT3 := hT3.gr hm61
   replace hn19 := hn19.gr hm61
   replace hd19 := hd19.gr hm61
   replace hb3 := Blk.gr hb3 hm61
   replace hbd := hbd.gr hm61
   replace hm0 := hm0.trans hm61
   replace hb24 := Blk.gr hb24 hm61
   replace hL24 := hL24.gr hm61
   replace hn25 := hn25.gr hm61
   replace hd25 := hd25.gr hm61
   replace hb4 := Blk.gr hb4 hm61
   have hS3 : Mod [] w61 w61 := Mod.refl _ _
   clear hm61
   have hb2_s := hb2
   have hb3_s := hb3
   have hb24_s := hb24
   have hb4_s := hb4
   refine D.take 0 rfl (by decide +kernel) (fun w_ hS => (R1.move rfl)) hS3 rfl <| D.take 1 rfl (by decide +kernel) (fun w_ hS => (R1.move rfl)) hS3 rfl <| D.takeOn 2 rfl rfl rfl rfl (by decide +kernel) (fun w_ hS => (R1.loadBox rfl (Blk.gr hb4_s hS) tyG27)) hS3 rfl <| D.one 3 rfl (by decide +kernel) (fun hX => ?_)
   refine L.callOn rfl rfl rfl rfl (c_ref2_Int (n := 2) (by decide) (by decide) hbd) rfl ?_
   rintro _ w62 ⟨⟨A31, c31, B31, e31, rfl, hn31, hd31⟩, hm62⟩
   replace hT2 := hT2.gr hm62
   replace hn12 := hn12.gr hm62
   replace hd12 := hd12.gr hm62
   replace hb2 := Blk.gr hb2 hm62
   replace hT3 := hT3.gr hm62
   replace hn19 := hn19.gr hm62
   replace hd19 := hd19.gr hm62
   replace hb3 := Blk.gr hb3 hm62
   replace hbd := hbd.gr hm62
   replace hm0 := hm0.trans hm62
   replace hb24 := Blk.gr hb24 hm62
   replace hL24 := hL24.gr hm62
   replace hn25 := hn25.gr hm62
   replace hd25 := hd25.gr hm62
   replace hb4 := Blk.gr hb4 hm62
   replace hS3 := hS3.trans hm62
   clear hm62
   have F31 := Fit.int (n := 2) (by decide) (by decide)
   refine L.nil (hX _ _ ⟨.inr hS3, ?_⟩)
   refine D.one 4 rfl (by decide +kernel) (fun hX => ?_)
   refine L.callOn rfl rfl rfl rfl ((c_ref2_Same (qa := 2) (qb := (((2 : Int)) : Rat)) hq25 (rv_toL _) hn25 hd25 hn31 hd31 hbd (Nat.le_trans hla25 (by decide)) (Nat.le_trans hlb25 (by decide)) (Nat.le_trans F31.1 (by decide)) (Nat.le_trans F31.2 (by decide))).mono (R' := fun r w' => r = .bool true ∧ Mod [] w62 w') (fun r w' h9 => ⟨h9.1.trans (congrArg Value.bool (decide_eq_true (rfl))), h9.2⟩)) rfl ?_
   rintro _ w63 ⟨rfl, hm63⟩
   replace hT2 := hT2.gr hm63
   replace hn12 := hn12.gr hm63
   replace hd12 := hd12.gr hm63
   replace hb2 := Blk.gr hb2 hm63
   replace hT3 := hT3.gr hm63
   replace hn19 := hn19.gr hm63
   replace hd19 := hd19.gr hm63
   replace hb3 := Blk.gr hb3 hm63
   replace hbd := hbd.gr hm63
   replace hm0 := hm0.trans hm63
   replace hb24 := Blk.gr hb24 hm63
   replace hL24 := hL24.gr hm63
   replace hn25 := hn25.gr hm63
   replace hd25 := hd25.gr hm63
   replace hb4 := Blk.gr hb4 hm63
   replace hn31 := hn31.gr hm63
   replace hd31 := hd31.gr hm63
   replace hS3 := hS3.trans hm63
   clear hm63
   refine L.nil (hX _ _ ⟨.inr hS3, ?_⟩)
   refine D.take 5 rfl (by decide +kernel) (fun w_ hS => (R1.pickT rfl rfl)) hS3 rfl <| D.take 6 rfl (by decide +kernel) (fun w_ hS => (R1.move rfl)) hS3 rfl <| D.takeOn 7 rfl rfl rfl rfl (by decide +kernel) (fun w_ hS => (R1.loadBox rfl (Blk.gr hb2_s hS) tyG29)) hS3 rfl <| D.takeOn 8 rfl rfl rfl rfl (by decide +kernel) (fun w_ hS => (R1.loadBox rfl (Blk.gr hb3_s hS) tyG29)) hS3 rfl <| D.takeOn 9 rfl rfl rfl rfl (by decide +kernel) (fun w_ hS => (R1.loadBox rfl (Blk.gr hb2_s hS) tyG29)) hS3 rfl <| D.one 10 rfl (by decide +kernel) (fun hX => ?_)
   refine L.guardOn rfl rfl rfl <| L.buildSlice (cells := [.int .i64 0, .slice (some ⟨g11, 0, none⟩) 2 2, .bool (decide ((((-3 : Int)) : Rat).num < 0)), .slice A12 (toL (((-3 : Int)) : Rat).num.natAbs).length c12, .slice B12 (toL (((-3 : Int)) : Rat).den).length e12, .int .i64 0, .slice (some ⟨g18, 0, none⟩) 2 2, .bool (decide ((((-1 : Int)) : Rat).num < 0)), .slice A19 (toL (((-1 : Int)) : Rat).num.natAbs).length c19, .slice B19 (toL (((-1 : Int)) : Rat).den).length e19, .int .i64 0, .slice (some ⟨g11, 0, none⟩) 2 2, .bool (decide ((((-3 : Int)) : Rat).num < 0)), .slice A12 (toL (((-3 : Int)) : Rat).num.natAbs).length c12, .slice B12 (toL (((-3 : Int)) : Rat).den).length e12]) rfl tyS22 tyZ29 (fillC3 _ _ _ _ _ _ _ _ _ _ _ _ _ _ _ _ _ _ _ _ _ _ _ _ _ _ _ _ _ _ _ _ _) (by decide) (by decide) rfl ?_
   intro g38 w64 hN38
   have hgs_g38 := New.ge hN38 hS3.size
   replace hS3 := hS3.trans hN38.mod
   replace hT2 := hT2.new hN38
   replace hn12 := hn12.new hN38
   replace hd12 := hd12.new hN38
   have hne_g2_g38 := hb2.ne_ hN38
   replace hb2 := Blk.gr hb2 hN38.mod
   replace hT3 := hT3.new hN38
   replace hn19 := hn19.new hN38
   replace hd19 := hd19.new hN38
   have hne_g3_g38 := hb3.ne_ hN38
   replace hb3 := Blk.gr hb3 hN38.mod
   replace hbd := hbd.new hN38
   have hge_g38 := New.ge hN38 hm0.size
   replace hm0 := hm0.trans (hN38.mod.mono (by simp))
   have hne_g24_g38 := hb24.ne_ hN38
   replace hb24 := Blk.gr hb24 hN38.mod
   replace hL24 := hL24.new hN38
   replace hn25 := hn25.new hN38
   replace hd25 := hd25.new hN38
   have hne_g4_g38 := hb4.ne_ hN38
   replace hb4 := Blk.gr hb4 hN38.mod
   replace hn31 := hn31.new hN38
   replace hd31 := hd31.new hN38
   have hb38 := hN38.blk
   clear hN38
   refine L.nil (hX _ _ ⟨.inr hS3, ?_⟩)
   have hL38 : Lay rdC [] w64 (.slice (some ⟨g38, 0, none⟩) 3 3) [knA, knB, knA] := Lay.of_blk (css := [[.int .i64 0, .slice (some ⟨g11, 0, none⟩) 2 2, .bool (decide ((((-3 : Int)) : Rat).num < 0)), .slice A12 (toL (((-3 : Int)) : Rat).num.natAbs).length c12, .slice B12 (toL (((-3 : Int)) : Rat).den).length e12], [.int .i64 0, .slice (some ⟨g18, 0, none⟩) 2 2, .bool (decide ((((-1 : Int)) : Rat).num < 0)), .slice A19 (toL (((-1 : Int)) : Rat).num.natAbs).length c19, .slice B19 (toL (((-1 : Int)) : Rat).den).length e19], [.int .i64 0, .slice (some ⟨g11, 0, none⟩) 2 2, .bool (decide ((((-3 : Int)) : Rat).num < 0)), .slice A12 (toL (((-3 : Int)) : Rat).num.natAbs).length c12, .slice B12 (toL (((-3 : Int)) : Rat).den).length e12]]) hb38 (((LayL.one _ knA (rdC_mk (vt := .slice (some ⟨g11, 0, none⟩) 2 2) (hT2.sub (M' := []) (by intro b hb; cases hb)) (hn12.sub (M' := []) (by intro b hb; cases hb)) (hd12.sub (M' := []) (by intro b hb; cases hb)))).append (LayL.one _ knB (rdC_mk (vt := .slice (some ⟨g18, 0, none⟩) 2 2) (hT3.sub (M' := []) (by intro b hb; cases hb)) (hn19.sub (M' := []) (by intro b hb; cases hb)) (hd19.sub (M' := []) (by intro b hb; cases hb))))).append (LayL.one _ knA (rdC_mk (vt := .slice (some ⟨g11, 0, none⟩) 2 2) (hT2.sub (M' := []) (by intro b hb; cases hb)) (hn12.sub (M' := []) (by intro b hb; cases hb)) (hd12.sub (M' := []) (by intro b hb; cases hb))))) rfl rfl (by decide) (by simp)
   refine D.one 11 rfl (by decide +kernel) (fun hX => ?_)
   refine L.callOn rfl rfl rfl rfl (c_Rank (M := []) (z0 := 2) hL38 (fun m h9 => by cases h9) kn_oks3) rfl ?_
   rintro _ w65 ⟨rs39, ok39, ⟨hP39, _⟩, rfl, hm65⟩
   replace hT2 := hT2.gr hm65
   replace hn12 := hn12.gr hm65
   replace hd12 := hd12.gr hm65
   replace hb2 := Blk.gr hb2 hm65
   replace hT3 := hT3.gr hm65
   replace hn19 := hn19.gr hm65
   replace hd19 := hd19.gr hm65
   replace hb3 := Blk.gr hb3 hm65
   replace hbd := hbd.gr hm65
   replace hm0 := hm0.trans hm65
   replace hb24 := Blk.gr hb24 hm65
   replace hL24 := hL24.gr hm65
   replace hn25 := hn25.gr hm65
   replace hd25 := hd25.gr hm65
   replace hb4 := Blk.gr hb4 hm65
   replace hn31 := hn31.gr hm65
   replace hd31 := hd31.gr hm65
   replace hb38 := Blk.gr hb38 hm65
   replace hL38 := hL38.gr hm65
   replace hS3 := hS3.trans hm65
   clear hm65
   refine L.nil (hX _ _ ⟨.inr hS3, ?_⟩)
   refine D.takeOn 12 rfl rfl rfl rfl (by decide +kernel) (fun w_ hS => ((R1.eq rfl rfl).asB (c := true) (decide_eq_true (by rw [kn_rank hP39]; rfl)))) hS3 rfl <| D.take 13 rfl (by decide +kernel) (fun w_ hS => (R1.pickT rfl rfl)) hS3 rfl <| D.take 14 rfl (by decide +kernel) (fun w_ hS => (R1.assign rfl)) hS3 rfl <| D.done (by decide +kernel) ?_ _
   refine X.seq <| W.ret <| X.result1 rfl (.tmp rfl .nil) ?_
   exact ⟨rfl, hm0⟩

end Go.Proofs.Ytkjllbpfcokalaa
