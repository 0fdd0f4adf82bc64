/- Walks: what the functions compute. -/
import Derived.Test.YtfpipaoobmcomaaNat4
namespace Go.Proofs.Ytfpipaoobmcomaa
open Go.RowKit
set_option linter.unusedVariables false
set_option linter.unusedSimpArgs false
set_option maxRecDepth 10000

def lenTab : ByteArray := ⟨#[0, 1, 2, 2, 3, 3, 3, 3, 4, 4, 4, 4, 4, 4, 4, 4, 5, 5, 5, 5, 5, 5, 5, 5, 5, 5, 5, 5, 5, 5, 5, 5, 6, 6, 6, 6, 6, 6, 6, 6, 6, 6, 6, 6, 6, 6, 6, 6, 6, 6, 6, 6, 6, 6, 6, 6, 6, 6, 6, 6, 6, 6, 6, 6, 7, 7, 7, 7, 7, 7, 7, 7, 7, 7, 7, 7, 7, 7, 7, 7, 7, 7, 7, 7, 7, 7, 7, 7, 7, 7, 7, 7, 7, 7, 7, 7, 7, 7, 7, 7, 7, 7, 7, 7, 7, 7, 7, 7, 7, 7, 7, 7, 7, 7, 7, 7, 7, 7, 7, 7, 7, 7, 7, 7, 7, 7, 7, 7, 8, 8, 8, 8, 8, 8, 8, 8, 8, 8, 8, 8, 8, 8, 8, 8, 8, 8, 8, 8, 8, 8, 8, 8, 8, 8, 8, 8, 8, 8, 8, 8, 8, 8, 8, 8, 8, 8, 8, 8, 8, 8, 8, 8, 8, 8, 8, 8, 8, 8, 8, 8, 8, 8, 8, 8, 8, 8, 8, 8, 8, 8, 8, 8, 8, 8, 8, 8, 8, 8, 8, 8, 8, 8, 8, 8, 8, 8, 8, 8, 8, 8, 8, 8, 8, 8, 8, 8, 8, 8, 8, 8, 8, 8, 8, 8, 8, 8, 8, 8, 8, 8, 8, 8, 8, 8, 8, 8, 8, 8, 8, 8, 8, 8, 8, 8, 8, 8, 8, 8, 8, 8, 8, 8, 8, 8, 8, 8]⟩
def lenOK (j : Nat) : Bool := match lenTab.data[j]? with
  | some t => decide (1 ≤ t.toNat ∧ t.toNat ≤ 8 ∧ 2 ^ (t.toNat - 1) ≤ j ∧ j < 2 ^ t.toNat)
  | none => false
theorem lenTab_size : lenTab.size = 256 := by decide +kernel
theorem lenTab_all : (List.range 256).all (fun j => j == 0 || lenOK j) = true := by decide +kernel
theorem lenTab_ok {j : Nat} (h0 : 0 < j) (h : j < 256) (hj : j < lenTab.size) : 1 ≤ lenTab[j].toNat ∧ lenTab[j].toNat ≤ 8 ∧ 2 ^ (lenTab[j].toNat - 1) ≤ j ∧ j < 2 ^ lenTab[j].toNat := by
  have h1 := List.all_eq_true.1 lenTab_all j (List.mem_range.2 h)
  simp only [Bool.or_eq_true, beq_iff_eq] at h1
  rcases h1 with h1 | h1
  · omega
  · unfold lenOK at h1
    have e : lenTab.data[j]? = some lenTab[j] := by
      have : j < lenTab.data.size := hj
      rw [Array.getElem?_eq_getElem this]; rfl
    rw [e] at h1
    simpa using h1
theorem len_end {x n0 t z : Nat} (hz : z = x / 2 ^ n0) (h1 : 1 ≤ t) (h2 : 2 ^ (t - 1) ≤ z) (h3 : z < 2 ^ t) : 2 ^ (n0 + t - 1) ≤ x ∧ x < 2 ^ (n0 + t) := by
  subst hz
  have hp : 0 < 2 ^ n0 := Nat.pow_pos (by decide)
  have e : n0 + t - 1 = (t - 1) + n0 := by omega
  constructor
  · rw [e, Nat.pow_add]; exact (Nat.le_div_iff_mul_le hp).1 h2
  · rw [Nat.add_comm n0 t, Nat.pow_add]; exact (Nat.div_lt_iff_lt_mul hp).1 h3
theorem lead_end {x l : Nat} (h1 : 1 ≤ l) (h32 : l ≤ 32) (h2 : 2 ^ (l - 1) ≤ x) (h3 : x < 2 ^ l) : 2147483648 ≤ x * 2 ^ (32 - l) ∧ x * 2 ^ (32 - l) < 4294967296 := by
  have hp : 0 < 2 ^ (32 - l) := Nat.pow_pos (by decide)
  have a1 := Nat.mul_le_mul_right (2 ^ (32 - l)) h2
  have a2 := Nat.mul_lt_mul_of_pos_right h3 hp
  rw [← Nat.pow_add] at a1 a2
  have e1 : l - 1 + (32 - l) = 31 := by omega
  have e2 : l + (32 - l) = 32 := by omega
  rw [e1] at a1; rw [e2] at a2
  exact ⟨by omega, by omega⟩
theorem c_nat_takesN {M : List Nat} {w : World} {g o cap n : Nat} {cs : List Nat} {vb : Value} {bs : List Nat} {q : Nat} (hn : bs.length = n) (hb : Blk w g 60 (uarr cs)) (hcx : ∀ x ∈ cs, x < 4294967296) (h : U32 (g :: M) w vb bs) (hlen : o + n + 1 ≤ cs.length) (hq : q < 4294967296) (hmax : cs.length ≤ 4398046511104) (hqD : q * val bs ≤ seg cs o n + val bs) :
    Ret Try.prog 92 #[.slice (some ⟨g, o, none⟩) (n + 1) cap, vb, .int .u64 (q : Int)] w (fun r w' => ∃ ds b, r = .bool b ∧ Blk w' g 60 (uarr ds) ∧ ds.length = cs.length ∧ (∀ x ∈ ds, x < 4294967296) ∧ (b = false → val ds + 4294967296 ^ o * (q * val bs) = val cs ∧ q * val bs ≤ seg cs o n) ∧ (b = true → val ds + 4294967296 ^ o * (q * val bs) = val cs + 4294967296 ^ o * val bs ∧ seg cs o n < q * val bs) ∧ Mod [g] w w') := by
  subst hn
  refine (c_nat_takes hb hcx h hlen hq hmax hqD).mono fun r w' ⟨ds, h1, h2, h3, h4, h5⟩ => ?_
  rcases h4 with ⟨rfl, a, b⟩ | ⟨rfl, a, b⟩
  · exact ⟨ds, false, rfl, h1, h2, h3, fun _ => ⟨a, b⟩, (fun h => by cases h), h5⟩
  · exact ⟨ds, true, rfl, h1, h2, h3, (fun h => by cases h), fun _ => ⟨a, b⟩, h5⟩

theorem c_Len32 {w : World} {x : Nat} (hx0 : 0 < x) (hx : x < 4294967296) :
    Ret Try.prog 94 #[.int .u32 (x : Int)] w (fun r w' => ∃ l : Nat, r = .int .i64 (l : Int) ∧ 1 ≤ l ∧ l ≤ 32 ∧ 2 ^ (l - 1) ≤ x ∧ x < 2 ^ l ∧ Mod [] w w') := by
 refine Ret.of (vs := [.int .u32 (x : Int)]) (n := 19) Try.func94 rfl rfl rfl rfl ?_
 have hm0 : Mod [] w w := Mod.refl _ _
 refine W.seq <| W.region <| L.v (R1.assign rfl) rfl <| L.nil <| X.seq <| W.seq <| W.seq <| W.region <| L.v (R1.move rfl) rfl <| L.v (R1.ge rfl rfl) rfl <| L.nil ?_
 refine X.seq <| W.cut (ι := Nat × Nat) (fun (y, m) => [(0, .int .u32 (y : Int)), (2, .int .i64 (m : Int))]) (fun (y, m) w_ => y = x / 2 ^ m ∧ 0 < y ∧ y < 65536 ∧ m ≤ 16 ∧ Mod [] w w_) ?_ ?_
 ·
  refine W.cond rfl ?_ ?_
  ·
   intro hc4
   try simp only [bq, ne_eq] at hc4
   refine W.seq <| W.region <| L.v (R1.move rfl) rfl <| L.v (R1.shrW (b := 16) rfl rfl (by omega)) rfl <| L.v (R1.assign rfl) rfl <| L.nil <| X.seq <| W.region <| L.v (R1.assign rfl) rfl <| L.nil <| X.join (x / 2 ^ 16, 16) ?_ ?_
   · exact ⟨rfl, rfl, trivial⟩
   ·
    exact ⟨rfl, by omega, by omega, by omega, hm0⟩
  ·
   intro hc4
   try simp only [bq, ne_eq] at hc4
   refine W.skip <| X.join (x, 0) ?_ ?_
   · exact ⟨rfl, rfl, trivial⟩
   ·
    exact ⟨by simp, hx0, by omega, by omega, hm0⟩
 ·
  rintro ⟨y, m⟩ wj ⟨hy, hy0, hy2, hm, hm0⟩
  refine X.seq <| W.seq <| W.seq <| W.region <| L.v (R1.move rfl) rfl <| L.v (R1.ge rfl rfl) rfl <| L.nil <| X.seq <| W.cut (ι := Nat × Nat) (fun (z, m2) => [(0, .int .u32 (z : Int)), (2, .int .i64 (m2 : Int))]) (fun (z, m2) w_ => z = x / 2 ^ m2 ∧ 0 < z ∧ z < 256 ∧ m2 ≤ 24 ∧ Mod [] w w_) ?_ ?_
  ·
   refine W.cond rfl ?_ ?_
   ·
    intro hc8
    try simp only [bq, ne_eq] at hc8
    refine W.seq <| W.region <| L.v (R1.move rfl) rfl <| L.v (R1.shrW (b := 8) rfl rfl (by omega)) rfl <| L.v (R1.assign rfl) rfl <| L.nil <| X.seq <| W.region <| L.v (R1.move rfl) rfl <| L.v (R1.addI (b := 8) rfl rfl (by omega)) rfl <| L.v (R1.assign rfl) rfl ?_
    refine L.nil <| X.join (y / 2 ^ 8, m + 8) ?_ ?_
    · exact ⟨rfl, rfl, trivial⟩
    ·
     exact ⟨by rw [hy, Nat.pow_add, Nat.div_div_eq_div_mul], by omega, by omega, by omega, hm0⟩
   ·
    intro hc8
    try simp only [bq, ne_eq] at hc8
    refine W.skip <| X.join (y, m) ?_ ?_
    · exact ⟨rfl, rfl, trivial⟩
    ·
     exact ⟨hy, hy0, by omega, by omega, hm0⟩
  ·
   rintro ⟨z, m2⟩ wk ⟨hz, hz0, hz2, hmm, hm0⟩
   refine X.seq <| W.seq ?_
   obtain ⟨t1, t2, t3, t4⟩ := lenTab_ok hz0 hz2 (by rw [lenTab_size]; exact hz2)
   refine W.region <| L.v (R1.move rfl) rfl <| L.v (R1.move rfl) rfl <| L.v ((R1.conv rfl tyI60 tyI5).as (j := (z : Int)) (by rw [wrap_u8_mod]; omega)) rfl <| L.v (R1.indexS (u := lenTab) (j := z) (by kernel_rfl) rfl tyStr9 rfl (by rw [lenTab_size]; exact hz2)) rfl <| L.v ((R1.conv rfl tyI5 tyI3).as (j := ((lenTab[z]'(by rw [lenTab_size]; exact hz2)).toNat : Int)) (by rw [wrap_i64 (by omega) (by omega)])) rfl <| L.v (R1.addI rfl rfl (by omega)) rfl <| L.v (R1.assign rfl) rfl <| L.nil <| X.seq <| W.ret ?_
   refine X.result1 rfl (.tmp rfl .nil) ?_
   have hz9 := len_end hz t1 t3 t4
   exact ⟨_, rfl, by omega, by omega, hz9.1, hz9.2, hm0⟩

theorem c_Lead {w : World} {x : Nat} (hx0 : 0 < x) (hx : x < 4294967296) :
    Ret Try.prog 89 #[.int .u32 (x : Int)] w (fun r w' => ∃ s : Nat, r = .int .i64 (s : Int) ∧ s < 32 ∧ 2147483648 ≤ x * 2 ^ s ∧ x * 2 ^ s < 4294967296 ∧ Mod [] w w') := by
 refine Ret.of (vs := [.int .u32 (x : Int)]) (n := 6) Try.func89 rfl rfl rfl rfl ?_
 have hm0 : Mod [] w w := Mod.refl _ _
 refine W.seq <| W.region <| L.v (R1.assign rfl) rfl <| L.nil <| X.seq <| W.seq <| W.region <| L.v (R1.move rfl) rfl <| L.call rfl (c_Len32 hx0 hx) rfl ?_
 rintro _ w1 ⟨l, rfl, hl1, hl2, hl3, hl4, hm1⟩
 replace hm0 := hm0.trans hm1
 clear hm1
 refine L.v (R1.subI (a := 32) rfl rfl (by omega) (by omega)) rfl <| L.v (R1.assign rfl) rfl <| L.nil <| X.seq <| W.ret <| X.result1 rfl (.tmp rfl .nil) ?_
 have hz := lead_end hl1 hl2 hl3 hl4
 exact ⟨32 - l, rfl, by omega, hz.1, hz.2, hm0⟩

end Go.Proofs.Ytfpipaoobmcomaa
