/- Walks: what the functions compute. -/
import Derived.Test.YtombbkdnehhonaaGreatL5K
namespace Go.Proofs.YtombbkdnehhonaaGreat
open Go.RowKit
set_option linter.unusedVariables false
set_option linter.unusedSimpArgs false
set_option maxRecDepth 10000
theorem c_none {N9 : List Nat} {w : World} {vl : Value} {cs : List CR} (hL : Lay rdC N9 w vl cs) (hcl : cs.length ≤ 1000) :
    Ret Tryz.prog 7 #[vl] w (fun r w'=>Lay rdI [] w' r (List.replicate cs.length (-1))∧Mod [] w w'):=by
 obtain ⟨TL,tL,rfl⟩:=hL.form
 refine Ret.of (vs:=[.slice TL cs.length tL]) (n:=15) Tryz.func7 rfl rfl rfl rfl ?_
 have hm0:Mod [] w w:=Mod.refl _ _
 refine W.seq<|W.region<|L.a rfl rfl<|L.nil<|X.seq<|W.seq<|W.region<|L.a rfl rfl<|L.nil<|X.seq<|W.seq ?_
 refine W.seq<|W.region<|L.a rfl rfl<|L.nil<|X.seq<|W.block<|W.loop (ι:=Nat × Value) (fun (i,u)=>[(0,.slice TL cs.length tL),(3,u),(4,.int .i64 ((i:Nat):Int))]) (fun (i,u) w_=>Lay rdC (ownL u ++ N9) w_ (.slice TL cs.length tL) cs∧w_.ownsRow w.heap.size 3 1 u i (intsZ (List.replicate i (-1)))∧i≤cs.length∧Mod [] w w_) (fun (i,u)=>cs.length - i) (0,.slice none 0 0) ?_ ?_ ?_
 · exact ⟨rfl,rfl,rfl,trivial⟩
 ·
  exact ⟨hL.su,own_nil _ _ _ _,Nat.zero_le _,hm0⟩
 rintro ⟨i,u⟩ w1 ⟨hL,ho,hi,hm0⟩
 refine W.seq<|W.seq<|W.region<|L.m rfl rfl<|L.m rfl rfl<|L.v (R1.lenLay rfl hL tyS22) rfl<|L.v (R1.lt rfl rfl) rfl<|L.nil<|X.seq<|W.cond rfl ?_ ?_
 ·
  intro hc8
  try simp only [bq,ne_eq] at hc8
  refine W.skip<|X.seq<|W.seq<|W.block<|W.region<|L.m rfl rfl<|L.build1 rfl rfl tyS32 tyZ3 rfl ?_
  intro g12 w2 hN12
  replace hL:=hL.gr hN12.mod;replace ho:=own_gr ho hN12.mod (by simp);replace hm0:=hm0.trans hN12.mod
  have hrow:Sl [] w2 1 (.slice (some ⟨g12,0,none⟩) 1 1) 1 [.int .i64 (-1)]:=Sl.of_blk hN12.blk 0 (Nat.le_refl _) (by decide) rfl (by simp) (fun j hj=>by simp)
  clear hN12
  refine L.append rfl rfl ho hrow (by simp [Value.oneCell']) tyS32 tyZ3 (by omega) (by unfold maxLen; omega) hm0.size rfl ?_
  intro v13 w3 ho13' hG13
  replace hL:=hL.grew2 hG13 (by first | exact mem_own | (intro b hb; simp [hb]));replace hm0:=Mod.oldOwn hm0 hG13.mod ho;replace ho:=ho13'; clear ho13';clear hG13
  refine L.a rfl rfl<|L.nil<|X.blockEnd<|X.seq<|W.region<|L.m rfl rfl<|L.v (R1.addI (b:=1) rfl rfl (by omega)) rfl<|L.a rfl rfl<|L.nil<|X.next (i + 1,v13) ?_ ?_ ?_
  · exact ⟨rfl,rfl,rfl,trivial⟩
  ·
   exact ⟨hL.su,own_congr ho rfl (by simp [intsZ,List.replicate_succ']),by omega,hm0⟩
  first | omega | (dsimp only; omega)
 intro hc8
 try simp only [bq,ne_eq] at hc8
 obtain rfl:i=cs.length:=by omega
 refine W.exit<|X.thenExit<|X.nextExit<|X.here<|X.seq<|W.seq<|W.region<|L.m rfl rfl<|L.a rfl rfl<|L.nil<|X.seq ?_
 refine W.ret<|X.result1 rfl (.tmp rfl .nil) ?_
 exact ⟨Lay.of_Z ho (by simp),hm0⟩
end Go.Proofs.YtombbkdnehhonaaGreat
