/- A drawn region that widens two rows: two chains of appends and five allocations, in any order. Nothing of a program in sight. -/
import Derived.Test.YtjeodekhamdcmaaPar
import Derived.Test.YtjeodekhamdcmaaOwnI
namespace Go.Proofs.Ytjeodekhamdcmaa
open Go.RowKit
set_option linter.unusedVariables false
set_option linter.unusedSimpArgs false
/-- A block that neither row owns. -/
def Lt (va vb : Value) (w : World) (g t : Nat) (cs : Array Value) : Prop := Blk w g t cs ∧ va.ownBlock ≠ some g ∧ vb.ownBlock ≠ some g
section
variable {w w' : World} {va vb va' vb' : Value} {g t g' t' l c : Nat} {cs cs' : Array Value}
theorem Lt.new (h : Lt va vb w g t cs) (hN : New w w' g' t' cs') : Lt va vb w' g t cs := ⟨Blk.gr h.1 hN.mod, h.2⟩
theorem Lt.newA (h : Lt va vb w g t cs) (hN : New w w' g' t' cs') : Lt (.slice (some ⟨g', 0, none⟩) l c) vb w' g t cs := ⟨Blk.gr h.1 hN.mod, own_ne_new' (h.1.ne_ hN), h.2.2⟩
theorem Lt.newB (h : Lt va vb w g t cs) (hN : New w w' g' t' cs') : Lt va (.slice (some ⟨g', 0, none⟩) l c) w' g t cs := ⟨Blk.gr h.1 hN.mod, h.2.1, own_ne_new' (h.1.ne_ hN)⟩
theorem Lt.grewA (h : Lt va vb w g t cs) (hG : Grew va w va' w') : Lt va' vb w' g t cs := ⟨Blk.grew h.1 hG h.2.1, hG.ne h.2.1 h.1, h.2.2⟩
theorem Lt.grewB (h : Lt va vb w g t cs) (hG : Grew vb w vb' w') : Lt va vb' w' g t cs := ⟨Blk.grew h.1 hG h.2.2, h.2.1, hG.ne h.2.2 h.1⟩
end
theorem tn_ {b : Bool} (h : (!b).toNat = 0) : b = true := by cases b <;> simp_all
abbrev um (xs : List Nat) : List Value := xs.map fun (x : Nat) => Value.int .u32 (x : Int)
def lst (b2 b5 b6 b7 b8 b11 b12 b13 b14 b15 : Bool) : Array Bool := #[true, true, b2, true, true, b5, b6, b7, b8, true, true, b11, b12, b13, b14, b15, false]
def wok (b2 b5 b6 b7 b8 b11 b12 b13 b14 b15 : Bool) : Nat → Bool
  | 2 => !b2
  | 5 => !b5 && b2
  | 6 => !b6
  | 7 => !b7 && b5 && b6
  | 8 => !b8
  | 11 => !b11 && b8
  | 12 => !b12
  | 13 => !b13 && b11 && b12
  | 14 => !b14 && b7 && b13
  | 15 => !b15
  | 16 => b2 && b5 && b6 && b7 && b8 && b11 && b12 && b13 && b14 && b15
  | _ => false
structure WInv (ws : World) (el tQ : Nat) (e0 : Env) (sa : Bool) (xa ya : List Nat) (zc : Array Value) (b2 b5 b6 b7 b8 b11 b12 b13 b14 b15 : Bool) (e : Env) (w : World) (va vb : Value) (la lb : List Value) : Prop where
  inc : Inc e0 e
  mod : Mod [] ws w
  oa : w.ownsRow ws.heap.size el 1 va la.length la
  ob : w.ownsRow ws.heap.size el 1 vb lb.length lb
  aw : Away va vb
  c5 : b5 = true → b2 = true
  c7 : b7 = true → b5 = true ∧ b6 = true
  c11 : b11 = true → b8 = true
  c13 : b13 = true → b11 = true ∧ b12 = true
  c14 : b14 = true → b7 = true ∧ b13 = true
  a2 : b2 = true → b5 = false → lk e 44 = some va ∧ la = []
  a5 : b5 = true → b7 = false → lk e 47 = some va ∧ la = um xa
  a7 : b7 = true → lk e 49 = some va ∧ la = um (xa ++ [0, 0])
  a8 : b8 = true → b11 = false → lk e 50 = some vb ∧ lb = []
  a11 : b11 = true → b13 = false → lk e 53 = some vb ∧ lb = um ya
  a13 : b13 = true → lk e 55 = some vb ∧ lb = um (ya ++ [0])
  l6 : b6 = true → b7 = false → ∃ g, lk e 48 = some (.slice (some ⟨g, 0, none⟩) 2 2) ∧ Lt va vb w g el (uarr [0, 0])
  l12 : b12 = true → b13 = false → ∃ g, lk e 54 = some (.slice (some ⟨g, 0, none⟩) 1 1) ∧ Lt va vb w g el (uarr [0])
  l15 : b15 = true → ∃ g, lk e 9 = some (.pointer (some ⟨g, 0, none⟩)) ∧ Lt va vb w g tQ zc ∧ ws.heap.size ≤ g
  f14 : b14 = true → lk e 56 = some (.agg #[.bool sa, va, vb])
theorem D.widen {w0 ws : World} {P : Program} {n : Nat} {Q : Exit → Act → World → Prop} {ops : Array Oper} {T : List Nat} {listed : Array Bool} {e0 : Env} {ty2 : TypeId} {pos2 : String} {af2 : Array Edge} {ty5 : TypeId} {pos5 : String} {af5 : Array Edge} {ty6 : TypeId} {pos6 : String} {af6 : Array Edge} {ty7 : TypeId} {pos7 : String} {af7 : Array Edge} {ty8 : TypeId} {pos8 : String} {af8 : Array Edge} {ty11 : TypeId} {pos11 : String} {af11 : Array Edge} {ty12 : TypeId} {pos12 : String} {af12 : Array Edge} {ty13 : TypeId} {pos13 : String} {af13 : Array Edge} {ty14 : TypeId} {pos14 : String} {af14 : Array Edge} {ty15 : TypeId} {pos15 : String} {af15 : Array Edge}
    {tS el tQ sQ bQ : Nat} {zQ : Value} {sa : Bool} {vx vy : Value} {xa ya M1 M2 : List Nat} {pt6 pt12 : List (Nat × Operand)}
    (o2 : ops[2]? = some ⟨some 44, .buildSlice tS 0 [].toArray, ty2, pos2, af2, none⟩) (o5 : ops[5]? = some ⟨some 47, .call ⟨.builtin .append, [.tmp 44, .tmp 46].toArray, [tS, tS].toArray⟩, ty5, pos5, af5, none⟩)
    (o6 : ops[6]? = some ⟨some 48, .buildSlice tS 2 pt6.toArray, ty6, pos6, af6, none⟩) (o7 : ops[7]? = some ⟨some 49, .call ⟨.builtin .append, [.tmp 47, .tmp 48].toArray, [tS, tS].toArray⟩, ty7, pos7, af7, none⟩)
    (o8 : ops[8]? = some ⟨some 50, .buildSlice tS 0 [].toArray, ty8, pos8, af8, none⟩) (o11 : ops[11]? = some ⟨some 53, .call ⟨.builtin .append, [.tmp 50, .tmp 52].toArray, [tS, tS].toArray⟩, ty11, pos11, af11, none⟩)
    (o12 : ops[12]? = some ⟨some 54, .buildSlice tS 1 pt12.toArray, ty12, pos12, af12, none⟩) (o13 : ops[13]? = some ⟨some 55, .call ⟨.builtin .append, [.tmp 53, .tmp 54].toArray, [tS, tS].toArray⟩, ty13, pos13, af13, none⟩)
    (o14 : ops[14]? = some ⟨some 56, .build tQ [(0, .tmp 43), (1, .tmp 49), (2, .tmp 55)].toArray, ty14, pos14, af14, none⟩) (o15 : ops[15]? = some ⟨some 9, .alloc tQ, ty15, pos15, af15, none⟩)
    (hl : listed = lst false false false false false false false false false false)
    (hchk : ∀ b2 b5 b6 b7 b8 b11 b12 b13 b14 b15 : Bool, ((Region.ready .any ops (lst b2 b5 b6 b7 b8 b11 b12 b13 b14 b15)).isEmpty == false && (Region.ready .any ops (lst b2 b5 b6 b7 b8 b11 b12 b13 b14 b15)).all (wok b2 b5 b6 b7 b8 b11 b12 b13 b14 b15)) = true)
    (hx6 : ∀ e : Env, evl e (pt6.map (·.2)) = some [.int .u32 0, .int .u32 0]) (hx12 : ∀ e : Env, evl e (pt12.map (·.2)) = some [.int .u32 0])
    (ht : sliceT P tS = some (el, 1)) (hz : zeroT P el = some (.int .u32 0, 1, 4)) (hzQ : zeroT P tQ = some (zQ, sQ, bQ))
    (hf6 : Instr.fill (fun i => some (i * 1, 1)) ((Array.range (2 * 1)).map ((Value.int .u32 0).cells[· % (Value.int .u32 0).cells.size]!)) ((pt6.map (·.1)).zip [.int .u32 0, .int .u32 0]) = some (uarr [0, 0]))
    (hf12 : Instr.fill (fun i => some (i * 1, 1)) ((Array.range (1 * 1)).map ((Value.int .u32 0).cells[· % (Value.int .u32 0).cells.size]!)) ((pt12.map (·.1)).zip [.int .u32 0]) = some (uarr [0]))
    (hbt : ∀ (s : Bool) (A : Option Addr) (k c : Nat) (A' : Option Addr) (k' c' : Nat), P.built tQ [(0, .bool s), (1, .slice A k c), (2, .slice A' k' c')] = some #[.bool s, .slice A k c, .slice A' k' c'])
    (hS : Mod [] w0 ws) (hn : 79 ≤ n) (k44 : lk e0 44 = none) (k47 : lk e0 47 = none) (k48 : lk e0 48 = none) (k49 : lk e0 49 = none) (k50 : lk e0 50 = none) (k53 : lk e0 53 = none) (k54 : lk e0 54 = none) (k55 : lk e0 55 = none) (k56 : lk e0 56 = none) (k9 : lk e0 9 = none)
    (h43 : lk e0 43 = some (.bool sa)) (h46 : lk e0 46 = some vx) (h52 : lk e0 52 = some vy) (hx : U32 M1 ws vx xa) (hy : U32 M2 ws vy ya) (hxl : xa.length ≤ 8) (hyl : ya.length ≤ 8)
    (fin : ∀ w va vb g, Mod [] ws w → w.ownsRow ws.heap.size el 1 va (um (xa ++ [0, 0])).length (um (xa ++ [0, 0])) → w.ownsRow ws.heap.size el 1 vb (um (ya ++ [0])).length (um (ya ++ [0])) → Away va vb → Lt va vb w g tQ zQ.cells → ws.heap.size ≤ g →
      D P n Q ops (fun w' => Mod [] w0 w') T 1 (lst true true true true true true true true true true) ((9, .pointer (some ⟨g, 0, none⟩)) :: (56, .agg #[.bool sa, va, vb]) :: e0) w) :
    D P n Q ops (fun w' => Mod [] w0 w') T 11 listed e0 ws := by
  subst hl
  have main : ∀ (k : Nat) (b2 b5 b6 b7 b8 b11 b12 b13 b14 b15 : Bool) (e : Env) (w : World) (va vb : Value) (la lb : List Value), WInv ws el tQ e0 sa xa ya zQ.cells b2 b5 b6 b7 b8 b11 b12 b13 b14 b15 e w va vb la lb → k = (!b2).toNat + (!b5).toNat + (!b6).toNat + (!b7).toNat + (!b8).toNat + (!b11).toNat + (!b12).toNat + (!b13).toNat + (!b14).toNat + (!b15).toNat →
      D P n Q ops (fun w' => Mod [] w0 w') T (k + 1) (lst b2 b5 b6 b7 b8 b11 b12 b13 b14 b15) e w := by
    intro k
    induction k with
    | zero =>
      intro b2 b5 b6 b7 b8 b11 b12 b13 b14 b15 e w va vb la lb h0 hk
      have hh : b2 = true ∧ b5 = true ∧ b6 = true ∧ b7 = true ∧ b8 = true ∧ b11 = true ∧ b12 = true ∧ b13 = true ∧ b14 = true ∧ b15 = true := ⟨tn_ (by omega), tn_ (by omega), tn_ (by omega), tn_ (by omega), tn_ (by omega), tn_ (by omega), tn_ (by omega), tn_ (by omega), tn_ (by omega), tn_ (by omega)⟩
      obtain ⟨rfl, rfl, rfl, rfl, rfl, rfl, rfl, rfl, rfl, rfl⟩ := hh
      obtain ⟨e1, e2⟩ := h0.a7 rfl
      obtain ⟨e3, e4⟩ := h0.a13 rfl
      obtain ⟨g, e5, e6, e7⟩ := h0.l15 rfl
      subst e2; subst e4
      exact D.inc (Inc.put e5 (Inc.put (h0.f14 rfl) h0.inc)) (fin w va vb g h0.mod h0.oa h0.ob h0.aw e6 e7)
    | succ k ih =>
      intro b2 b5 b6 b7 b8 b11 b12 b13 b14 b15 e w va vb la lb h0 hk
      have hc := hchk b2 b5 b6 b7 b8 b11 b12 b13 b14 b15
      simp only [Bool.and_eq_true, beq_iff_eq, List.all_eq_true] at hc
      refine D.many rfl hc.1 (fun i hi => ?_)
      have hi := hc.2 i hi
      clear hc
      unfold wok at hi
      split at hi
      ·
        simp only [Bool.not_eq_true'] at hi
        subst hi
        refine ⟨_, o2, fun hX => L.buildEmpty ht (by rw [Nat.blt_eq]; omega) (fun g w' hN => ?_)⟩
        refine L.nil (hX _ _ ⟨.inr (hS.trans (h0.mod.trans hN.mod)), ?_⟩)
        exact ih true b5 b6 b7 b8 b11 b12 b13 b14 b15 _ _ _ _ _ _ ⟨(h0.inc.skip k44), (h0.mod.trans hN.mod), ⟨rfl, .inr ⟨g, 0, #[], rfl, New.ge hN h0.mod.size, hN.blk, Nat.le_refl _, by decide, rfl, rfl⟩⟩, (own_gr h0.ob hN.mod (by simp)), (own_away_new h0.ob hN).symm, (by have q1 := h0.c5; have q2 := h0.c7; have q3 := h0.c11; have q4 := h0.c13; have q5 := h0.c14; clear h0 ih hchk fin; simp_all), (by have q1 := h0.c5; have q2 := h0.c7; have q3 := h0.c11; have q4 := h0.c13; have q5 := h0.c14; clear h0 ih hchk fin; simp_all), (by have q1 := h0.c5; have q2 := h0.c7; have q3 := h0.c11; have q4 := h0.c13; have q5 := h0.c14; clear h0 ih hchk fin; simp_all), (by have q1 := h0.c5; have q2 := h0.c7; have q3 := h0.c11; have q4 := h0.c13; have q5 := h0.c14; clear h0 ih hchk fin; simp_all), (by have q1 := h0.c5; have q2 := h0.c7; have q3 := h0.c11; have q4 := h0.c13; have q5 := h0.c14; clear h0 ih hchk fin; simp_all), (fun _ _ => ⟨lk_here _ _ _, rfl⟩), (fun h _ => by cases h0.c5 h), (fun h => by cases h0.c5 (h0.c7 h).1), (fun h k => ⟨lk_skip rfl (h0.a8 h k).1, (h0.a8 h k).2⟩), (fun h k => ⟨lk_skip rfl (h0.a11 h k).1, (h0.a11 h k).2⟩), (fun h => ⟨lk_skip rfl (h0.a13 h).1, (h0.a13 h).2⟩), (fun h k => by obtain ⟨g2, e2, e3⟩ := h0.l6 h k; exact ⟨g2, lk_skip rfl e2, e3.newA hN⟩), (fun h k => by obtain ⟨g2, e2, e3⟩ := h0.l12 h k; exact ⟨g2, lk_skip rfl e2, e3.newA hN⟩), (fun h => by obtain ⟨g2, e2, e3, e4⟩ := h0.l15 h; exact ⟨g2, lk_skip rfl e2, e3.newA hN, e4⟩), (fun h => by cases h0.c5 (h0.c7 (h0.c14 h).1).1)⟩ (by simp only [Bool.not_true, Bool.not_false, Bool.toNat_true, Bool.toNat_false] at hk ⊢; omega)
      ·
        simp only [Bool.and_eq_true, Bool.not_eq_true'] at hi
        obtain ⟨rfl, rfl⟩ := hi
        obtain ⟨e1, e2⟩ := h0.a2 rfl rfl
        subst e2
        have hs := (hx.gr h0.mod).1
        refine ⟨_, o5, fun hX => L.append e1 (h0.inc _ _ h46) h0.oa hs (by simp [Value.oneCell']) ht hz (by simp; omega) (by unfold maxLen; simp; omega) h0.mod.size (by rw [Nat.blt_eq]; omega) (fun v' w' ho hG => ?_)⟩
        refine L.nil (hX _ _ ⟨.inr (hS.trans (h0.mod.grew hG (fun g hg => (own_ge h0.oa g hg).1))), ?_⟩)
        exact ih true true b6 b7 b8 b11 b12 b13 b14 b15 _ _ _ _ _ _ ⟨(h0.inc.skip k47), (h0.mod.grew hG (fun g hg => (own_ge h0.oa g hg).1)), (own_congr ho (by simp) rfl), (own_away (s' := 1) (el' := 0) (k' := 0) (B' := 0) (ys := []) h0.ob hG.mod h0.aw.symm), (Away.grew h0.aw.symm hG h0.ob).symm, (by have q1 := h0.c5; have q2 := h0.c7; have q3 := h0.c11; have q4 := h0.c13; have q5 := h0.c14; clear h0 ih hchk fin; simp_all), (by have q1 := h0.c5; have q2 := h0.c7; have q3 := h0.c11; have q4 := h0.c13; have q5 := h0.c14; clear h0 ih hchk fin; simp_all), (by have q1 := h0.c5; have q2 := h0.c7; have q3 := h0.c11; have q4 := h0.c13; have q5 := h0.c14; clear h0 ih hchk fin; simp_all), (by have q1 := h0.c5; have q2 := h0.c7; have q3 := h0.c11; have q4 := h0.c13; have q5 := h0.c14; clear h0 ih hchk fin; simp_all), (by have q1 := h0.c5; have q2 := h0.c7; have q3 := h0.c11; have q4 := h0.c13; have q5 := h0.c14; clear h0 ih hchk fin; simp_all), (fun _ h => by cases h), (fun _ _ => ⟨lk_here _ _ _, by simp⟩), (fun h => by cases (h0.c7 h).1), (fun h k => ⟨lk_skip rfl (h0.a8 h k).1, (h0.a8 h k).2⟩), (fun h k => ⟨lk_skip rfl (h0.a11 h k).1, (h0.a11 h k).2⟩), (fun h => ⟨lk_skip rfl (h0.a13 h).1, (h0.a13 h).2⟩), (fun h k => by obtain ⟨g2, e2, e3⟩ := h0.l6 h k; exact ⟨g2, lk_skip rfl e2, e3.grewA hG⟩), (fun h k => by obtain ⟨g2, e2, e3⟩ := h0.l12 h k; exact ⟨g2, lk_skip rfl e2, e3.grewA hG⟩), (fun h => by obtain ⟨g2, e2, e3, e4⟩ := h0.l15 h; exact ⟨g2, lk_skip rfl e2, e3.grewA hG, e4⟩), (fun h => by cases (h0.c7 (h0.c14 h).1).1)⟩ (by simp only [Bool.not_true, Bool.not_false, Bool.toNat_true, Bool.toNat_false] at hk ⊢; omega)
      ·
        simp only [Bool.not_eq_true'] at hi
        subst hi
        refine ⟨_, o6, fun hX => L.buildSlice (hx6 e) ht hz hf6 (by decide) (by decide) (by rw [Nat.blt_eq]; omega) (fun g w' hN => ?_)⟩
        refine L.nil (hX _ _ ⟨.inr (hS.trans (h0.mod.trans hN.mod)), ?_⟩)
        exact ih b2 b5 true b7 b8 b11 b12 b13 b14 b15 _ _ _ _ _ _ ⟨(h0.inc.skip k48), (h0.mod.trans hN.mod), (own_gr h0.oa hN.mod (by simp)), (own_gr h0.ob hN.mod (by simp)), h0.aw, (by have q1 := h0.c5; have q2 := h0.c7; have q3 := h0.c11; have q4 := h0.c13; have q5 := h0.c14; clear h0 ih hchk fin; simp_all), (by have q1 := h0.c5; have q2 := h0.c7; have q3 := h0.c11; have q4 := h0.c13; have q5 := h0.c14; clear h0 ih hchk fin; simp_all), (by have q1 := h0.c5; have q2 := h0.c7; have q3 := h0.c11; have q4 := h0.c13; have q5 := h0.c14; clear h0 ih hchk fin; simp_all), (by have q1 := h0.c5; have q2 := h0.c7; have q3 := h0.c11; have q4 := h0.c13; have q5 := h0.c14; clear h0 ih hchk fin; simp_all), (by have q1 := h0.c5; have q2 := h0.c7; have q3 := h0.c11; have q4 := h0.c13; have q5 := h0.c14; clear h0 ih hchk fin; simp_all), (fun h k => ⟨lk_skip rfl (h0.a2 h k).1, (h0.a2 h k).2⟩), (fun h k => ⟨lk_skip rfl (h0.a5 h k).1, (h0.a5 h k).2⟩), (fun h => ⟨lk_skip rfl (h0.a7 h).1, (h0.a7 h).2⟩), (fun h k => ⟨lk_skip rfl (h0.a8 h k).1, (h0.a8 h k).2⟩), (fun h k => ⟨lk_skip rfl (h0.a11 h k).1, (h0.a11 h k).2⟩), (fun h => ⟨lk_skip rfl (h0.a13 h).1, (h0.a13 h).2⟩), (fun _ _ => ⟨g, lk_here _ _ _, hN.blk, own_ne_new h0.oa hN, own_ne_new h0.ob hN⟩), (fun h k => by obtain ⟨g2, e2, e3⟩ := h0.l12 h k; exact ⟨g2, lk_skip rfl e2, e3.new hN⟩), (fun h => by obtain ⟨g2, e2, e3, e4⟩ := h0.l15 h; exact ⟨g2, lk_skip rfl e2, e3.new hN, e4⟩), (fun h => lk_skip rfl (h0.f14 h))⟩ (by simp only [Bool.not_true, Bool.not_false, Bool.toNat_true, Bool.toNat_false] at hk ⊢; omega)
      ·
        simp only [Bool.and_eq_true, Bool.not_eq_true'] at hi
        obtain ⟨⟨rfl, rfl⟩, rfl⟩ := hi
        obtain ⟨e1, e2⟩ := h0.a5 rfl rfl
        subst e2
        obtain ⟨g2, e3, e4⟩ := h0.l6 rfl rfl
        have hs := (U32.of_blk (M := []) (xs := [0, 0]) e4.1 (by simp) (by decide) (by simp)).1
        refine ⟨_, o7, fun hX => L.append e1 e3 h0.oa hs (by simp [Value.oneCell']) ht hz (by simp; omega) (by unfold maxLen; simp; omega) h0.mod.size (by rw [Nat.blt_eq]; omega) (fun v' w' ho hG => ?_)⟩
        refine L.nil (hX _ _ ⟨.inr (hS.trans (h0.mod.grew hG (fun g hg => (own_ge h0.oa g hg).1))), ?_⟩)
        exact ih b2 true true true b8 b11 b12 b13 b14 b15 _ _ _ _ _ _ ⟨(h0.inc.skip k49), (h0.mod.grew hG (fun g hg => (own_ge h0.oa g hg).1)), (own_congr ho (by simp) rfl), (own_away (s' := 1) (el' := 0) (k' := 0) (B' := 0) (ys := []) h0.ob hG.mod h0.aw.symm), (Away.grew h0.aw.symm hG h0.ob).symm, (by have q1 := h0.c5; have q2 := h0.c7; have q3 := h0.c11; have q4 := h0.c13; have q5 := h0.c14; clear h0 ih hchk fin; simp_all), (by have q1 := h0.c5; have q2 := h0.c7; have q3 := h0.c11; have q4 := h0.c13; have q5 := h0.c14; clear h0 ih hchk fin; simp_all), (by have q1 := h0.c5; have q2 := h0.c7; have q3 := h0.c11; have q4 := h0.c13; have q5 := h0.c14; clear h0 ih hchk fin; simp_all), (by have q1 := h0.c5; have q2 := h0.c7; have q3 := h0.c11; have q4 := h0.c13; have q5 := h0.c14; clear h0 ih hchk fin; simp_all), (by have q1 := h0.c5; have q2 := h0.c7; have q3 := h0.c11; have q4 := h0.c13; have q5 := h0.c14; clear h0 ih hchk fin; simp_all), (fun _ h => by cases h), (fun _ h => by cases h), (fun _ => ⟨lk_here _ _ _, by simp⟩), (fun h k => ⟨lk_skip rfl (h0.a8 h k).1, (h0.a8 h k).2⟩), (fun h k => ⟨lk_skip rfl (h0.a11 h k).1, (h0.a11 h k).2⟩), (fun h => ⟨lk_skip rfl (h0.a13 h).1, (h0.a13 h).2⟩), (fun _ h => by cases h), (fun h k => by obtain ⟨g2, e2, e3⟩ := h0.l12 h k; exact ⟨g2, lk_skip rfl e2, e3.grewA hG⟩), (fun h => by obtain ⟨g2, e2, e3, e4⟩ := h0.l15 h; exact ⟨g2, lk_skip rfl e2, e3.grewA hG, e4⟩), (fun h => by cases (h0.c14 h).1)⟩ (by simp only [Bool.not_true, Bool.not_false, Bool.toNat_true, Bool.toNat_false] at hk ⊢; omega)
      ·
        simp only [Bool.not_eq_true'] at hi
        subst hi
        refine ⟨_, o8, fun hX => L.buildEmpty ht (by rw [Nat.blt_eq]; omega) (fun g w' hN => ?_)⟩
        refine L.nil (hX _ _ ⟨.inr (hS.trans (h0.mod.trans hN.mod)), ?_⟩)
        exact ih b2 b5 b6 b7 true b11 b12 b13 b14 b15 _ _ _ _ _ _ ⟨(h0.inc.skip k50), (h0.mod.trans hN.mod), (own_gr h0.oa hN.mod (by simp)), ⟨rfl, .inr ⟨g, 0, #[], rfl, New.ge hN h0.mod.size, hN.blk, Nat.le_refl _, by decide, rfl, rfl⟩⟩, (own_away_new h0.oa hN), (by have q1 := h0.c5; have q2 := h0.c7; have q3 := h0.c11; have q4 := h0.c13; have q5 := h0.c14; clear h0 ih hchk fin; simp_all), (by have q1 := h0.c5; have q2 := h0.c7; have q3 := h0.c11; have q4 := h0.c13; have q5 := h0.c14; clear h0 ih hchk fin; simp_all), (by have q1 := h0.c5; have q2 := h0.c7; have q3 := h0.c11; have q4 := h0.c13; have q5 := h0.c14; clear h0 ih hchk fin; simp_all), (by have q1 := h0.c5; have q2 := h0.c7; have q3 := h0.c11; have q4 := h0.c13; have q5 := h0.c14; clear h0 ih hchk fin; simp_all), (by have q1 := h0.c5; have q2 := h0.c7; have q3 := h0.c11; have q4 := h0.c13; have q5 := h0.c14; clear h0 ih hchk fin; simp_all), (fun h k => ⟨lk_skip rfl (h0.a2 h k).1, (h0.a2 h k).2⟩), (fun h k => ⟨lk_skip rfl (h0.a5 h k).1, (h0.a5 h k).2⟩), (fun h => ⟨lk_skip rfl (h0.a7 h).1, (h0.a7 h).2⟩), (fun _ _ => ⟨lk_here _ _ _, rfl⟩), (fun h _ => by cases h0.c11 h), (fun h => by cases h0.c11 (h0.c13 h).1), (fun h k => by obtain ⟨g2, e2, e3⟩ := h0.l6 h k; exact ⟨g2, lk_skip rfl e2, e3.newB hN⟩), (fun h k => by obtain ⟨g2, e2, e3⟩ := h0.l12 h k; exact ⟨g2, lk_skip rfl e2, e3.newB hN⟩), (fun h => by obtain ⟨g2, e2, e3, e4⟩ := h0.l15 h; exact ⟨g2, lk_skip rfl e2, e3.newB hN, e4⟩), (fun h => by cases h0.c11 (h0.c13 (h0.c14 h).2).1)⟩ (by simp only [Bool.not_true, Bool.not_false, Bool.toNat_true, Bool.toNat_false] at hk ⊢; omega)
      ·
        simp only [Bool.and_eq_true, Bool.not_eq_true'] at hi
        obtain ⟨rfl, rfl⟩ := hi
        obtain ⟨e1, e2⟩ := h0.a8 rfl rfl
        subst e2
        have hs := (hy.gr h0.mod).1
        refine ⟨_, o11, fun hX => L.append e1 (h0.inc _ _ h52) h0.ob hs (by simp [Value.oneCell']) ht hz (by simp; omega) (by unfold maxLen; simp; omega) h0.mod.size (by rw [Nat.blt_eq]; omega) (fun v' w' ho hG => ?_)⟩
        refine L.nil (hX _ _ ⟨.inr (hS.trans (h0.mod.grew hG (fun g hg => (own_ge h0.ob g hg).1))), ?_⟩)
        exact ih b2 b5 b6 b7 true true b12 b13 b14 b15 _ _ _ _ _ _ ⟨(h0.inc.skip k53), (h0.mod.grew hG (fun g hg => (own_ge h0.ob g hg).1)), (own_away (s' := 1) (el' := 0) (k' := 0) (B' := 0) (ys := []) h0.oa hG.mod h0.aw), (own_congr ho (by simp) rfl), (Away.grew h0.aw hG h0.oa), (by have q1 := h0.c5; have q2 := h0.c7; have q3 := h0.c11; have q4 := h0.c13; have q5 := h0.c14; clear h0 ih hchk fin; simp_all), (by have q1 := h0.c5; have q2 := h0.c7; have q3 := h0.c11; have q4 := h0.c13; have q5 := h0.c14; clear h0 ih hchk fin; simp_all), (by have q1 := h0.c5; have q2 := h0.c7; have q3 := h0.c11; have q4 := h0.c13; have q5 := h0.c14; clear h0 ih hchk fin; simp_all), (by have q1 := h0.c5; have q2 := h0.c7; have q3 := h0.c11; have q4 := h0.c13; have q5 := h0.c14; clear h0 ih hchk fin; simp_all), (by have q1 := h0.c5; have q2 := h0.c7; have q3 := h0.c11; have q4 := h0.c13; have q5 := h0.c14; clear h0 ih hchk fin; simp_all), (fun h k => ⟨lk_skip rfl (h0.a2 h k).1, (h0.a2 h k).2⟩), (fun h k => ⟨lk_skip rfl (h0.a5 h k).1, (h0.a5 h k).2⟩), (fun h => ⟨lk_skip rfl (h0.a7 h).1, (h0.a7 h).2⟩), (fun _ h => by cases h), (fun _ _ => ⟨lk_here _ _ _, by simp⟩), (fun h => by cases (h0.c13 h).1), (fun h k => by obtain ⟨g2, e2, e3⟩ := h0.l6 h k; exact ⟨g2, lk_skip rfl e2, e3.grewB hG⟩), (fun h k => by obtain ⟨g2, e2, e3⟩ := h0.l12 h k; exact ⟨g2, lk_skip rfl e2, e3.grewB hG⟩), (fun h => by obtain ⟨g2, e2, e3, e4⟩ := h0.l15 h; exact ⟨g2, lk_skip rfl e2, e3.grewB hG, e4⟩), (fun h => by cases (h0.c13 (h0.c14 h).2).1)⟩ (by simp only [Bool.not_true, Bool.not_false, Bool.toNat_true, Bool.toNat_false] at hk ⊢; omega)
      ·
        simp only [Bool.not_eq_true'] at hi
        subst hi
        refine ⟨_, o12, fun hX => L.buildSlice (hx12 e) ht hz hf12 (by decide) (by decide) (by rw [Nat.blt_eq]; omega) (fun g w' hN => ?_)⟩
        refine L.nil (hX _ _ ⟨.inr (hS.trans (h0.mod.trans hN.mod)), ?_⟩)
        exact ih b2 b5 b6 b7 b8 b11 true b13 b14 b15 _ _ _ _ _ _ ⟨(h0.inc.skip k54), (h0.mod.trans hN.mod), (own_gr h0.oa hN.mod (by simp)), (own_gr h0.ob hN.mod (by simp)), h0.aw, (by have q1 := h0.c5; have q2 := h0.c7; have q3 := h0.c11; have q4 := h0.c13; have q5 := h0.c14; clear h0 ih hchk fin; simp_all), (by have q1 := h0.c5; have q2 := h0.c7; have q3 := h0.c11; have q4 := h0.c13; have q5 := h0.c14; clear h0 ih hchk fin; simp_all), (by have q1 := h0.c5; have q2 := h0.c7; have q3 := h0.c11; have q4 := h0.c13; have q5 := h0.c14; clear h0 ih hchk fin; simp_all), (by have q1 := h0.c5; have q2 := h0.c7; have q3 := h0.c11; have q4 := h0.c13; have q5 := h0.c14; clear h0 ih hchk fin; simp_all), (by have q1 := h0.c5; have q2 := h0.c7; have q3 := h0.c11; have q4 := h0.c13; have q5 := h0.c14; clear h0 ih hchk fin; simp_all), (fun h k => ⟨lk_skip rfl (h0.a2 h k).1, (h0.a2 h k).2⟩), (fun h k => ⟨lk_skip rfl (h0.a5 h k).1, (h0.a5 h k).2⟩), (fun h => ⟨lk_skip rfl (h0.a7 h).1, (h0.a7 h).2⟩), (fun h k => ⟨lk_skip rfl (h0.a8 h k).1, (h0.a8 h k).2⟩), (fun h k => ⟨lk_skip rfl (h0.a11 h k).1, (h0.a11 h k).2⟩), (fun h => ⟨lk_skip rfl (h0.a13 h).1, (h0.a13 h).2⟩), (fun h k => by obtain ⟨g2, e2, e3⟩ := h0.l6 h k; exact ⟨g2, lk_skip rfl e2, e3.new hN⟩), (fun _ _ => ⟨g, lk_here _ _ _, hN.blk, own_ne_new h0.oa hN, own_ne_new h0.ob hN⟩), (fun h => by obtain ⟨g2, e2, e3, e4⟩ := h0.l15 h; exact ⟨g2, lk_skip rfl e2, e3.new hN, e4⟩), (fun h => lk_skip rfl (h0.f14 h))⟩ (by simp only [Bool.not_true, Bool.not_false, Bool.toNat_true, Bool.toNat_false] at hk ⊢; omega)
      ·
        simp only [Bool.and_eq_true, Bool.not_eq_true'] at hi
        obtain ⟨⟨rfl, rfl⟩, rfl⟩ := hi
        obtain ⟨e1, e2⟩ := h0.a11 rfl rfl
        subst e2
        obtain ⟨g2, e3, e4⟩ := h0.l12 rfl rfl
        have hs := (U32.of_blk (M := []) (xs := [0]) e4.1 (by simp) (by decide) (by simp)).1
        refine ⟨_, o13, fun hX => L.append e1 e3 h0.ob hs (by simp [Value.oneCell']) ht hz (by simp; omega) (by unfold maxLen; simp; omega) h0.mod.size (by rw [Nat.blt_eq]; omega) (fun v' w' ho hG => ?_)⟩
        refine L.nil (hX _ _ ⟨.inr (hS.trans (h0.mod.grew hG (fun g hg => (own_ge h0.ob g hg).1))), ?_⟩)
        exact ih b2 b5 b6 b7 b8 true true true b14 b15 _ _ _ _ _ _ ⟨(h0.inc.skip k55), (h0.mod.grew hG (fun g hg => (own_ge h0.ob g hg).1)), (own_away (s' := 1) (el' := 0) (k' := 0) (B' := 0) (ys := []) h0.oa hG.mod h0.aw), (own_congr ho (by simp) rfl), (Away.grew h0.aw hG h0.oa), (by have q1 := h0.c5; have q2 := h0.c7; have q3 := h0.c11; have q4 := h0.c13; have q5 := h0.c14; clear h0 ih hchk fin; simp_all), (by have q1 := h0.c5; have q2 := h0.c7; have q3 := h0.c11; have q4 := h0.c13; have q5 := h0.c14; clear h0 ih hchk fin; simp_all), (by have q1 := h0.c5; have q2 := h0.c7; have q3 := h0.c11; have q4 := h0.c13; have q5 := h0.c14; clear h0 ih hchk fin; simp_all), (by have q1 := h0.c5; have q2 := h0.c7; have q3 := h0.c11; have q4 := h0.c13; have q5 := h0.c14; clear h0 ih hchk fin; simp_all), (by have q1 := h0.c5; have q2 := h0.c7; have q3 := h0.c11; have q4 := h0.c13; have q5 := h0.c14; clear h0 ih hchk fin; simp_all), (fun h k => ⟨lk_skip rfl (h0.a2 h k).1, (h0.a2 h k).2⟩), (fun h k => ⟨lk_skip rfl (h0.a5 h k).1, (h0.a5 h k).2⟩), (fun h => ⟨lk_skip rfl (h0.a7 h).1, (h0.a7 h).2⟩), (fun _ h => by cases h), (fun _ h => by cases h), (fun _ => ⟨lk_here _ _ _, by simp⟩), (fun h k => by obtain ⟨g2, e2, e3⟩ := h0.l6 h k; exact ⟨g2, lk_skip rfl e2, e3.grewB hG⟩), (fun _ h => by cases h), (fun h => by obtain ⟨g2, e2, e3, e4⟩ := h0.l15 h; exact ⟨g2, lk_skip rfl e2, e3.grewB hG, e4⟩), (fun h => by cases (h0.c14 h).2)⟩ (by simp only [Bool.not_true, Bool.not_false, Bool.toNat_true, Bool.toNat_false] at hk ⊢; omega)
      ·
        simp only [Bool.and_eq_true, Bool.not_eq_true'] at hi
        obtain ⟨⟨rfl, rfl⟩, rfl⟩ := hi
        obtain ⟨e1, e2⟩ := h0.a7 rfl
        obtain ⟨e3, e4⟩ := h0.a13 rfl
        obtain ⟨A, c, e5⟩ := own_form h0.oa
        obtain ⟨A2, c2, e6⟩ := own_form h0.ob
        subst e5; subst e6
        refine ⟨_, o14, fun hX => L.v (R1.build (vs := [.bool sa, .slice A la.length c, .slice A2 lb.length c2]) (by simp only [List.map_cons, List.map_nil, evl, ev, h0.inc _ _ h43, e1, e3]) (hbt _ _ _ _ _ _ _)) (by rw [Nat.blt_eq]; omega) ?_⟩
        refine L.nil (hX _ _ ⟨.inr (hS.trans h0.mod), ?_⟩)
        exact ih b2 b5 b6 true b8 b11 b12 true true b15 _ _ _ _ _ _ ⟨(h0.inc.skip k56), h0.mod, h0.oa, h0.ob, h0.aw, (by have q1 := h0.c5; have q2 := h0.c7; have q3 := h0.c11; have q4 := h0.c13; have q5 := h0.c14; clear h0 ih hchk fin; simp_all), (by have q1 := h0.c5; have q2 := h0.c7; have q3 := h0.c11; have q4 := h0.c13; have q5 := h0.c14; clear h0 ih hchk fin; simp_all), (by have q1 := h0.c5; have q2 := h0.c7; have q3 := h0.c11; have q4 := h0.c13; have q5 := h0.c14; clear h0 ih hchk fin; simp_all), (by have q1 := h0.c5; have q2 := h0.c7; have q3 := h0.c11; have q4 := h0.c13; have q5 := h0.c14; clear h0 ih hchk fin; simp_all), (by have q1 := h0.c5; have q2 := h0.c7; have q3 := h0.c11; have q4 := h0.c13; have q5 := h0.c14; clear h0 ih hchk fin; simp_all), (fun h k => ⟨lk_skip rfl (h0.a2 h k).1, (h0.a2 h k).2⟩), (fun h k => ⟨lk_skip rfl (h0.a5 h k).1, (h0.a5 h k).2⟩), (fun h => ⟨lk_skip rfl (h0.a7 h).1, (h0.a7 h).2⟩), (fun h k => ⟨lk_skip rfl (h0.a8 h k).1, (h0.a8 h k).2⟩), (fun h k => ⟨lk_skip rfl (h0.a11 h k).1, (h0.a11 h k).2⟩), (fun h => ⟨lk_skip rfl (h0.a13 h).1, (h0.a13 h).2⟩), (fun h k => by obtain ⟨g2, e2, e3⟩ := h0.l6 h k; exact ⟨g2, lk_skip rfl e2, e3⟩), (fun h k => by obtain ⟨g2, e2, e3⟩ := h0.l12 h k; exact ⟨g2, lk_skip rfl e2, e3⟩), (fun h => by obtain ⟨g2, e2, e3, e4⟩ := h0.l15 h; exact ⟨g2, lk_skip rfl e2, e3, e4⟩), (fun _ => lk_here _ _ _)⟩ (by simp only [Bool.not_true, Bool.not_false, Bool.toNat_true, Bool.toNat_false] at hk ⊢; omega)
      ·
        simp only [Bool.not_eq_true'] at hi
        subst hi
        refine ⟨_, o15, fun hX => L.alloc hzQ (by rw [Nat.blt_eq]; omega) (fun g w' hN => ?_)⟩
        refine L.nil (hX _ _ ⟨.inr (hS.trans (h0.mod.trans hN.mod)), ?_⟩)
        exact ih b2 b5 b6 b7 b8 b11 b12 b13 b14 true _ _ _ _ _ _ ⟨(h0.inc.skip k9), (h0.mod.trans hN.mod), (own_gr h0.oa hN.mod (by simp)), (own_gr h0.ob hN.mod (by simp)), h0.aw, (by have q1 := h0.c5; have q2 := h0.c7; have q3 := h0.c11; have q4 := h0.c13; have q5 := h0.c14; clear h0 ih hchk fin; simp_all), (by have q1 := h0.c5; have q2 := h0.c7; have q3 := h0.c11; have q4 := h0.c13; have q5 := h0.c14; clear h0 ih hchk fin; simp_all), (by have q1 := h0.c5; have q2 := h0.c7; have q3 := h0.c11; have q4 := h0.c13; have q5 := h0.c14; clear h0 ih hchk fin; simp_all), (by have q1 := h0.c5; have q2 := h0.c7; have q3 := h0.c11; have q4 := h0.c13; have q5 := h0.c14; clear h0 ih hchk fin; simp_all), (by have q1 := h0.c5; have q2 := h0.c7; have q3 := h0.c11; have q4 := h0.c13; have q5 := h0.c14; clear h0 ih hchk fin; simp_all), (fun h k => ⟨lk_skip rfl (h0.a2 h k).1, (h0.a2 h k).2⟩), (fun h k => ⟨lk_skip rfl (h0.a5 h k).1, (h0.a5 h k).2⟩), (fun h => ⟨lk_skip rfl (h0.a7 h).1, (h0.a7 h).2⟩), (fun h k => ⟨lk_skip rfl (h0.a8 h k).1, (h0.a8 h k).2⟩), (fun h k => ⟨lk_skip rfl (h0.a11 h k).1, (h0.a11 h k).2⟩), (fun h => ⟨lk_skip rfl (h0.a13 h).1, (h0.a13 h).2⟩), (fun h k => by obtain ⟨g2, e2, e3⟩ := h0.l6 h k; exact ⟨g2, lk_skip rfl e2, e3.new hN⟩), (fun h k => by obtain ⟨g2, e2, e3⟩ := h0.l12 h k; exact ⟨g2, lk_skip rfl e2, e3.new hN⟩), (fun _ => ⟨g, lk_here _ _ _, ⟨hN.blk, own_ne_new h0.oa hN, own_ne_new h0.ob hN⟩, New.ge hN h0.mod.size⟩), (fun h => lk_skip rfl (h0.f14 h))⟩ (by simp only [Bool.not_true, Bool.not_false, Bool.toNat_true, Bool.toNat_false] at hk ⊢; omega)
      ·
        simp only [Bool.and_eq_true] at hi
        obtain ⟨⟨⟨⟨⟨⟨⟨⟨⟨rfl, rfl⟩, rfl⟩, rfl⟩, rfl⟩, rfl⟩, rfl⟩, rfl⟩, rfl⟩, rfl⟩ := hi
        simp at hk
      · cases hi
  exact main 10 _ _ _ _ _ _ _ _ _ _ e0 ws (.slice none 0 0) (.slice none 0 0) [] [] ⟨Inc.refl _, Mod.refl _ _, own_nil _ _ _ _, own_nil _ _ _ _, Away.nil _ _, (by simp), (by simp), (by simp), (by simp), (by simp), (by simp), (by simp), (by simp), (by simp), (by simp), (by simp), (by simp), (by simp), (by simp), (by simp)⟩ rfl
end Go.Proofs.Ytjeodekhamdcmaa
