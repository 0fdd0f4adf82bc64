/- Walks: what the functions compute. -/
import Derived.Test.YtdfnkbdnnflcpaaL4A
namespace Go.Proofs.Ytdfnkbdnnflcpaa
open Go.RowKit
set_option linter.unusedVariables false
set_option linter.unusedSimpArgs false
set_option maxRecDepth 10000
theorem nf_is (q : Rat) : (QR.nf q).is = true := by
  unfold QR.is isN QR.nf
  simp only [rv_toL]
  simp
theorem nf_sm2 {z : Int} (h : z.natAbs < 4294967296) : SmQ 2 (QR.nf ((z : Int) : Rat)) := by
  constructor
  · show (toL ((z : Int) : Rat).num.natAbs).length ≤ 2
    rw [Rat.num_intCast]
    by_cases h0 : z.natAbs = 0
    · rw [h0, toL_zero]; decide
    · rw [toL_small h0 h]; simp
  · show (toL ((z : Int) : Rat).den).length ≤ 2
    rw [Rat.den_intCast, toL_1]; decide
theorem nf_len {z : Int} (h0 : z.natAbs ≠ 0) (h : z.natAbs < 4294967296) : (QR.nf ((z : Int) : Rat)).n.length = 1 := by
  show (toL ((z : Int) : Rat).num.natAbs).length = 1
  rw [Rat.num_intCast, toL_small h0 h]; rfl


def kA : CR := ⟨0, [⟨0, QR.nf ((1 : Int) : Rat)⟩, ⟨1, QR.nf ((-1 : Int) : Rat)⟩], QR.nf ((0 : Int) : Rat)⟩
def kB : CR := ⟨0, [⟨0, QR.nf ((1 : Int) : Rat)⟩], QR.nf ((-5 : Int) : Rat)⟩
def kV (x y : Int) : List QR := [QR.nf ((x : Int) : Rat), QR.nf ((y : Int) : Rat)]
theorem kA_is : isC kA 2 = true := by
  show (decide ((0 : Int) ≤ 0) && (decide ((0 : Int) ≤ 4) && ((QR.nf ((0 : Int) : Rat)).is && (decide ((0 : Int) ≤ 0) && (decide ((0 : Int) < 2) && ((QR.nf ((1 : Int) : Rat)).is && (decide ((QR.nf ((1 : Int) : Rat)).n.length ≠ 0) && (decide ((0 : Int) + 1 ≤ 1) && (decide ((1 : Int) < 2) && ((QR.nf ((-1 : Int) : Rat)).is && (decide ((QR.nf ((-1 : Int) : Rat)).n.length ≠ 0) && true))))))))))) = true
  rw [nf_is, nf_is, nf_is, nf_len (by decide) (by decide), nf_len (by decide) (by decide)]; decide
theorem kB_is : isC kB 2 = true := by
  show (decide ((0 : Int) ≤ 0) && (decide ((0 : Int) ≤ 4) && ((QR.nf ((-5 : Int) : Rat)).is && (decide ((0 : Int) ≤ 0) && (decide ((0 : Int) < 2) && ((QR.nf ((1 : Int) : Rat)).is && (decide ((QR.nf ((1 : Int) : Rat)).n.length ≠ 0) && true))))))) = true
  rw [nf_is, nf_is, nf_len (by decide) (by decide)]; decide
theorem k_ws : wsOf 2 [kA, kB] = [[0, 1], [0]] := by
  show [wOf 2 kA, wOf 2 kB] = _
  unfold wOf
  rw [if_pos (show isC kA ((2 : Nat) : Int) = true from kA_is), if_pos (show isC kB ((2 : Nat) : Int) = true from kB_is)]; rfl
theorem k_ch : ChB 2 [kA, kB] [1, 0] = true := by
  refine decide_eq_true ⟨by decide, by decide, by decide, by decide, fun j hj => ?_, ?_⟩
  · have hj2 : j < 2 := hj
    rcases (show j = 0 ∨ j = 1 by omega) with rfl | rfl
    · exact ⟨kA_is, .inr ⟨by decide, fun k hk => by omega⟩⟩
    · exact ⟨kB_is, .inr ⟨by decide, fun k hk => by rw [show k = 0 by omega]; decide⟩⟩
  · show firstW (List.range 2) (wsOf 2 [kA, kB]) 0 = none
    rw [k_ws]; decide
theorem k_ord : ordT [kA, kB] [1, 0] [1, 0] = [1, 0] := by rfl
theorem k_ordZ : ordZ 2 [kA, kB] [1, 0] = [1, 0] := by unfold ordZ; rw [k_ch, if_pos rfl, k_ord]; rfl
theorem k_small : largeB ((5 : Int) : Rat) = false := by
  unfold largeB
  rw [Rat.num_intCast, Rat.den_intCast, toL_1, toL_small (by decide) (by decide)]; decide
theorem k_t1 : toldV kB 0 (kV 1 1) = ((5 : Int) : Rat) := by
  show (-((QR.nf ((-5 : Int) : Rat)).val)) / (QR.nf ((1 : Int) : Rat)).val = _
  rw [QR.nf_val, QR.nf_val]
  have e1 : ((-5 : Int) : Rat) = -5 := rfl
  have e2 : ((1 : Int) : Rat) = 1 := rfl
  have e3 : ((5 : Int) : Rat) = 5 := rfl
  rw [e1, e2, e3]; grind
theorem k_t2 : toldV kA 1 (kV 5 1) = ((5 : Int) : Rat) := by
  show (-((QR.nf ((0 : Int) : Rat)).val + (QR.nf ((1 : Int) : Rat)).val * (QR.nf ((5 : Int) : Rat)).val)) / (QR.nf ((-1 : Int) : Rat)).val = _
  rw [QR.nf_val, QR.nf_val, QR.nf_val, QR.nf_val]
  have e0 : ((0 : Int) : Rat) = 0 := rfl
  have e1 : ((-1 : Int) : Rat) = -1 := rfl
  have e2 : ((1 : Int) : Rat) = 1 := rfl
  have e3 : ((5 : Int) : Rat) = 5 := rfl
  rw [e0, e1, e2, e3]; grind
theorem k_run : runZ [kA, kB] [1, 0] (kV 1 1) = (kV 5 5, -1, 0) := by
  unfold runZ
  rw [if_pos (show ChB (((kV 1 1).length : Nat) : Int) [kA, kB] [1, 0] = true from k_ch), k_ord]
  have e0 : nvL (kV 1 1) = kV 1 1 := by
    show [QR.nf (QR.nf _).val, QR.nf (QR.nf _).val] = _
    rw [QR.nf_val]; rfl
  rw [e0, runL]
  have e1 : toldV (List.getD [kA, kB] 1 c0R) (List.getD [1, 0] 1 0) (kV 1 1) = ((5 : Int) : Rat) := k_t1
  rw [e1, if_neg (by rw [k_small]; decide), runL]
  have e2 : toldV (List.getD [kA, kB] 0 c0R) (List.getD [1, 0] 0 0) ((kV 1 1).set (List.getD [1, 0] 1 0 : Int).toNat (QR.nf ((5 : Int) : Rat))) = ((5 : Int) : Rat) := k_t2
  rw [e2, if_neg (by rw [k_small]; decide)]; rfl


theorem built_C12 (T : Option Addr) (l t : Nat) (s0 : Bool) (A0 : Option Addr) (n0 c0 : Nat) (B0 : Option Addr) (m0 d0 : Nat) : Try.prog.built 43 [(1, .slice T l t), (2, .agg #[.bool s0, .slice A0 n0 c0, .slice B0 m0 d0])] = some #[.int .i64 0, .slice T l t, .bool s0, .slice A0 n0 c0, .slice B0 m0 d0] := by kernel_rfl
theorem fillK2 (v1 : Int) (T1 : Option Addr) (l1 t1 : Nat) (s1 : Bool) (A1 : Option Addr) (n1 c1 : Nat) (B1 : Option Addr) (m1 d1 : Nat) (v2 : Int) (T2 : Option Addr) (l2 t2 : Nat) (s2 : Bool) (A2 : Option Addr) (n2 c2 : Nat) (B2 : Option Addr) (m2 d2 : Nat) : Instr.fill (fun i => some (i * 5, 5)) ((Array.range (2 * 5)).map ((Value.agg #[.int .i64 0, .slice none 0 0, .bool false, .slice none 0 0, .slice none 0 0]).cells[· % (Value.agg #[.int .i64 0, .slice none 0 0, .bool false, .slice none 0 0, .slice none 0 0]).cells.size]!)) [(0, .agg #[.int .i64 v1, .slice T1 l1 t1, .bool s1, .slice A1 n1 c1, .slice B1 m1 d1]), (1, .agg #[.int .i64 v2, .slice T2 l2 t2, .bool s2, .slice A2 n2 c2, .slice B2 m2 d2])] = some #[.int .i64 v1, .slice T1 l1 t1, .bool s1, .slice A1 n1 c1, .slice B1 m1 d1, .int .i64 v2, .slice T2 l2 t2, .bool s2, .slice A2 n2 c2, .slice B2 m2 d2] := by kernel_rfl
theorem fillQ2b (s1 : Bool) (A1 : Option Addr) (n1 c1 : Nat) (B1 : Option Addr) (m1 d1 : Nat) (s2 : Bool) (A2 : Option Addr) (n2 c2 : Nat) (B2 : Option Addr) (m2 d2 : Nat) : Instr.fill (fun i => some (i * 3, 3)) ((Array.range (2 * 3)).map ((Value.agg #[.bool false, .slice none 0 0, .slice none 0 0]).cells[· % (Value.agg #[.bool false, .slice none 0 0, .slice none 0 0]).cells.size]!)) [(0, .agg #[.bool s1, .slice A1 n1 c1, .slice B1 m1 d1]), (1, .agg #[.bool s2, .slice A2 n2 c2, .slice B2 m2 d2])] = some #[.bool s1, .slice A1 n1 c1, .slice B1 m1 d1, .bool s2, .slice A2 n2 c2, .slice B2 m2 d2] := by kernel_rfl
theorem fillI2 (a b : Int) : Instr.fill (fun i => some (i * 1, 1)) ((Array.range (2 * 1)).map ((Value.int .i64 0).cells[· % (Value.int .i64 0).cells.size]!)) [(0, .int .i64 a), (1, .int .i64 b)] = some #[.int .i64 a, .int .i64 b] := by kernel_rfl
theorem k_sm : ∀ c ∈ [kA, kB], SmC 150 c := fun c hc => by
  have h1 : ∀ z : Int, z.natAbs < 4294967296 → SmQ 150 (QR.nf ((z : Int) : Rat)) := fun z hz => ⟨Nat.le_trans (nf_sm2 hz).1 (by decide), Nat.le_trans (nf_sm2 hz).2 (by decide)⟩
  rcases List.mem_cons.1 hc with rfl | hc
  · exact ⟨by show 2 ≤ 150; decide, h1 _ (by decide), fun t ht => by
      rcases List.mem_cons.1 ht with rfl | ht
      · exact h1 _ (by decide)
      · rw [List.mem_singleton.1 ht]; exact h1 _ (by decide)⟩
  · rw [List.mem_singleton.1 hc]
    exact ⟨by show 1 ≤ 150; decide, h1 _ (by decide), fun t ht => by rw [List.mem_singleton.1 ht]; exact h1 _ (by decide)⟩
theorem k_smL : ∀ c ∈ [kA, kB], SmC 1099511627776 c := fun c hc => smC_up (k_sm c hc) (by decide)
theorem k_smV : ∀ q ∈ kV 1 1, SmQ 3 q := fun q hq => by
  have h1 : SmQ 3 (QR.nf ((1 : Int) : Rat)) := ⟨Nat.le_trans (nf_sm2 (z := 1) (by decide)).1 (by decide), Nat.le_trans (nf_sm2 (z := 1) (by decide)).2 (by decide)⟩
  rcases List.mem_cons.1 hq with rfl | hq
  · exact h1
  · rw [List.mem_singleton.1 hq]; exact h1

end Go.Proofs.Ytdfnkbdnnflcpaa
