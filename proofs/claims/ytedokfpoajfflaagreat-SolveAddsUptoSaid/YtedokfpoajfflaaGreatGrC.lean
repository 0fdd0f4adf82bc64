/- Walks: what the functions compute. -/
import Derived.Test.YtedokfpoajfflaaGreatGrB
namespace Go.Proofs.YtedokfpoajfflaaGreat
open Go.RowKit
set_option linter.unusedVariables false
set_option linter.unusedSimpArgs false
set_option maxRecDepth 10000
theorem range_snoc (i:Nat):ints (List.range i) ++ [.int .i64 (i:Int)]=ints (List.range (i + 1)):=by rw [List.range_succ,ints_append]; rfl
def AllNe (l vs:List Nat) (i:Nat):Prop:=∀ a b,a<b→b<i→∀ x y,vs[a]?=some x→vs[b]?=some y→lab l x≠lab l y
theorem apart_of {l vs:List Nat} (h:AllNe l vs vs.length):apart l vs:=by
  unfold apart
  rw [List.nodup_iff_pairwise_ne,List.pairwise_map,List.pairwise_iff_getElem]
  intro a b ha hb hab
  exact h a b hab hb _ _ (List.getElem?_eq_getElem ha) (List.getElem?_eq_getElem hb)
theorem not_apart {l vs:List Nat} {a b x y:Nat} (hab:a<b) (hx:vs[a]?=some x) (hy:vs[b]?=some y) (e:lab l x=lab l y):¬ apart l vs:=by
  unfold apart
  rw [List.nodup_iff_pairwise_ne,List.pairwise_map,List.pairwise_iff_getElem]
  intro h
  obtain ⟨ha,rfl⟩:=List.getElem?_eq_some_iff.1 hx;obtain ⟨hb,rfl⟩:=List.getElem?_eq_some_iff.1 hy
  exact h a b ha hb hab e
theorem okW_false {n:Nat} {l vs:List Nat} (h:Lab n l) (hv:∀ v∈vs,v<n) (k:¬ apart l vs):okW l vs=false:=by
  cases e:okW l vs with
  | false=>rfl
  | true=>exact absurd ((okW_apart h hv).1 e) k
def mapTo (l:List Nat) (a b j:Nat):List Nat:=(jn l a b).take j ++ l.drop j
theorem mapTo_length (l:List Nat) (a b j:Nat):(mapTo l a b j).length=l.length:=by simp [mapTo,jn_length]; omega
theorem mapTo_get {l:List Nat} {a b j:Nat} (hj:j<l.length):(mapTo l a b j).getD j 0=l.getD j 0:=by
  unfold mapTo
  simp [List.getD,List.getElem?_append,jn_length]
  rw [if_neg (by omega)]
  congr 2; omega
theorem mapTo_at {l:List Nat} {a b j:Nat} (hj:j≤l.length) (k:Nat):(mapTo l a b j)[k]?=if k<j then (jn l a b)[k]? else l[k]?:=by
  have h1:=jn_length l a b
  unfold mapTo
  rw [List.getElem?_append,List.length_take,h1,Nat.min_eq_left hj]
  split
  · rw [List.getElem?_take,if_pos (by assumption)]
  rw [List.getElem?_drop]; congr 1; omega
theorem jn_at {l:List Nat} {a b j:Nat} (hj:j<l.length):(jn l a b)[j]?=some (if lab l j=max (lab l a) (lab l b) then min (lab l a) (lab l b) else lab l j):=by
  rw [← jn_lab hj,lab_eq (by rw [jn_length]; exact hj)]
  exact List.getElem?_eq_getElem _
theorem mapTo_set {l:List Nat} {a b j:Nat} (hj:j<l.length) (h:l.getD j 0=max (lab l a) (lab l b)):(mapTo l a b j).set j (min (lab l a) (lab l b))=mapTo l a b (j + 1):=by
  apply List.ext_getElem?
  intro k
  rw [List.getElem?_set,mapTo_at (by omega),mapTo_at (by omega),mapTo_length]
  by_cases hk:j=k
  · subst hk
    rw [if_pos rfl,if_pos hj,if_pos (by omega),jn_at hj,if_pos (show lab l j=_ from h)]
  rw [if_neg hk]
  by_cases hk2:k<j
  · rw [if_pos hk2,if_pos (by omega)]
  rw [if_neg hk2,if_neg (by omega)]
theorem mapTo_skip {l:List Nat} {a b j:Nat} (hj:j<l.length) (h:l.getD j 0≠max (lab l a) (lab l b)):mapTo l a b j=mapTo l a b (j + 1):=by
  apply List.ext_getElem?
  intro k
  rw [mapTo_at (by omega),mapTo_at (by omega)]
  by_cases hk:k=j
  · subst hk
    rw [if_neg (by omega),if_pos (by omega),jn_at hj,if_neg (show ¬ lab l k=_ from h),lab_eq hj]
    exact List.getElem?_eq_getElem _
  by_cases hk2:k<j
  · rw [if_pos hk2,if_pos (by omega)]
  rw [if_neg hk2,if_neg (by omega)]
theorem mapTo_all (l:List Nat) (a b:Nat):mapTo l a b l.length=jn l a b:=by
  unfold mapTo
  rw [List.take_of_length_le (by rw [jn_length]; exact Nat.le_refl _),List.drop_length,List.append_nil]
theorem mapTo_zero (l:List Nat) (a b:Nat):mapTo l a b 0=l:=by simp [mapTo]
theorem first_found {n:Nat} {cs:List CR} {i:Nat} {z:CR} (hz:cs[i]?=some z) {l:List Nat} (h:firstW l ((wsOf n cs).take i) 0=none) (hb:okW (apAll l ((wsOf n cs).take i)) (wOf n z)=false):firstW l (wsOf n cs) 0=some i:=by
  have h1:=firstW_snoc (n:=n) hz l
  rw [h,hb] at h1
  have e:wsOf n cs=(wsOf n cs).take (i + 1) ++ (wsOf n cs).drop (i + 1):=(List.take_append_drop _ _).symm
  rw [e,firstW_append,h1]; rfl
theorem first_on {n:Nat} {cs:List CR} {i:Nat} {z:CR} (hz:cs[i]?=some z) {l:List Nat} (h:firstW l ((wsOf n cs).take i) 0=none) (hb:okW (apAll l ((wsOf n cs).take i)) (wOf n z)=true):firstW l ((wsOf n cs).take (i + 1)) 0=none:=by
  rw [firstW_snoc hz,h,hb]; rfl
theorem c_start {w : World} {n : Nat} (hn : n ≤ 64) :
    Ret Tryz.prog 50 #[.int .i64 (n:Int)] w (fun x w'=>w'.ownsRow w.heap.size 3 1 x n (ints (List.range n))∧Mod [] w w'):=by
 refine Ret.of (vs:=[.int .i64 (n:Int)]) (n:=15) Tryz.func50 rfl rfl rfl rfl ?_
 have hm0:Mod [] w w:=Mod.refl _ _
 refine W.seq<|W.region<|L.a rfl rfl<|L.nil<|X.seq<|W.seq<|W.region<|L.a rfl rfl<|L.nil<|X.seq<|W.seq ?_
 refine W.seq<|W.region<|L.a rfl rfl<|L.nil<|X.seq<|W.block<|W.loop (ι:=Nat × Value) (fun (i,u)=>[(0,.int .i64 (n:Int)),(3,u),(4,.int .i64 (i:Int))]) (fun (i,u) w_=>i≤n∧World.ownsRow w_ w.heap.size 3 1 u i (ints (List.range i))∧Mod [] w w_) (fun (i,u)=>n - i) (0,.slice none 0 0) ?_ ?_ ?_
 · exact ⟨rfl,rfl,rfl,trivial⟩
 ·
  exact ⟨Nat.zero_le _,own_nil _ _ _ _,hm0⟩
 rintro ⟨i,u⟩ w1 ⟨hi,ho,hm0⟩
 refine W.seq<|W.seq<|W.region<|L.m rfl rfl<|L.m rfl rfl<|L.v (R1.lt rfl rfl) rfl<|L.nil<|X.seq<|W.cond rfl ?_ ?_
 ·
  intro hc7
  try simp only [bq,ne_eq] at hc7
  refine W.skip<|X.seq<|W.seq<|W.block<|W.region<|L.m rfl rfl<|L.m rfl rfl<|L.build1 rfl rfl tyS29 tyZ3 rfl ?_
  intro g12 w2 hN12
  replace ho:=own_gr ho hN12.mod (by simp);replace hm0:=hm0.trans hN12.mod
  have hrow:Sl [] w2 1 (.slice (some ⟨g12,0,none⟩) 1 1) 1 [.int .i64 ((i:Int))]:=Sl.row1 hN12.blk (by simp)
  clear hN12
  refine L.append rfl rfl ho hrow (by simp [Value.oneCell']) tyS29 tyZ3 (by omega) (by unfold maxLen; omega) hm0.size rfl ?_
  intro v13 w3 ho13' hG13
  replace hm0:=Mod.oldOwn hm0 hG13.mod ho;replace ho:=ho13'; clear ho13';clear hG13
  refine L.a rfl rfl<|L.nil<|X.blockEnd<|X.seq<|W.region<|L.m rfl rfl<|L.v (R1.addI (b:=1) rfl rfl (by omega)) rfl<|L.a rfl rfl<|L.nil<|X.next (i + 1,v13) ?_ ?_ ?_
  · exact ⟨rfl,rfl,rfl,trivial⟩
  ·
   exact ⟨by omega,own_congr ho rfl (range_snoc i),hm0⟩
  first | omega | (dsimp only; omega)
 intro hc7
 try simp only [bq,ne_eq] at hc7
 obtain rfl:n=i:=by omega
 refine W.exit<|X.thenExit<|X.nextExit<|X.here<|X.seq<|W.seq<|W.region<|L.m rfl rfl<|L.a rfl rfl<|L.nil<|X.seq ?_
 refine W.ret<|X.result1 rfl (.tmp rfl .nil) ?_
 exact ⟨ho,hm0⟩
theorem c_join {N9 : List Nat} {w : World} {B n : Nat} {v vt kb kn kd : Value} {l : List Nat} {c : CR} (ho : w.ownsRow B 3 1 v n (ints l)) (hl : Lab n l) (hv : ∀ t ∈ c.ts, 0 ≤ t.v ∧ t.v < (n : Int)) (hn : n ≤ 64) (ht : Lay rdT (ownL v ++ N9) w vt c.ts) :
    Ret Tryz.prog 51 #[v,.agg #[.int .i64 c.st,vt,kb,kn,kd]] w (fun x w'=>x=.bool (okW l (vsOf c))∧w'.ownsRow B 3 1 v n (ints (if okW l (vsOf c)=true then apW l (vsOf c) else l))∧Mod (ownL v) w w'):=by
 obtain ⟨T9,t9,rfl⟩:=ht.form;have hmx:=ht.max; unfold maxLen at hmx
 have hvl:(vsOf c).length=c.ts.length:=by simp [vsOf]
 have hvn:∀ x∈vsOf c,x<n:=fun x hx=>by
     obtain ⟨t,h1,rfl⟩:=List.mem_map.1 hx
     have:=hv t h1; omega
 refine Ret.of (vs:=[v,.agg #[.int .i64 c.st,.slice T9 c.ts.length t9,kb,kn,kd]]) (n:=90) Tryz.func51 rfl rfl rfl rfl ?_
 have hm0:Mod (ownL v) w w:=Mod.refl _ _
 refine W.seq<|W.region<|L.box rfl rfl ?_
 intro g3 w1 hN3
 replace ht:=ht.new hN3;have hno_ho_g3:=own_ne_new ho hN3;replace ho:=own_gr ho hN3.mod (by simp);replace hm0:=hm0.trans (hN3.mod.mono (by simp));have hb3:=hN3.blk;clear hN3
 refine L.a rfl rfl<|L.nil<|X.seq<|W.seq<|W.seq<|W.region<|L.a rfl rfl<|L.nil<|X.seq<|W.block<|W.loop (ι:=Nat) (fun i=>[(0,v),(3,.pointer (some ⟨g3,0,none⟩)),(5,.int .i64 (i:Int))]) (fun i w_=>i≤c.ts.length∧AllNe l (vsOf c) i∧World.ownsRow w_ B 3 1 v n (ints l)∧Lay rdT (g3 :: (ownL v ++ N9)) w_ (.slice T9 c.ts.length t9) c.ts∧Blk w_ g3 47 #[.int .i64 c.st,.slice T9 c.ts.length t9,kb,kn,kd]∧Mod (ownL v) w w_) (fun i=>c.ts.length - i) 0 ?_ ?_ ?_
 · exact ⟨rfl,rfl,rfl,trivial⟩
 ·
  exact ⟨Nat.zero_le _,(fun a b _ hb=>by omega),ho,ht,hb3,hm0⟩
 rintro i w2 ⟨hi,hne,ho,ht,hb3,hm0⟩
 refine W.seq<|W.seq<|W.region<|L.m rfl rfl<|L.v (R1.fieldAt rfl tyF47_1) rfl<|L.v (R1.loadFld rfl hb3 rfl tyP44) rfl<|L.v (R1.lenLay rfl ht tyS44) rfl<|L.v (R1.lt rfl rfl) rfl<|L.nil<|X.seq<|W.cond rfl ?_ ?_
 ·
  intro hc17
  try simp only [bq,ne_eq] at hc17
  refine W.skip<|X.seq<|W.seq<|W.block<|W.seq<|W.region<|L.a rfl rfl<|L.nil<|X.seq<|W.block<|W.loop (ι:=Nat) (fun k=>[(0,v),(3,.pointer (some ⟨g3,0,none⟩)),(5,.int .i64 (i:Int)),(6,.int .i64 (k:Int))]) (fun k w_=>k≤i∧(∀ a,a<k→∀ x y,(vsOf c)[a]?=some x→(vsOf c)[i]?=some y→lab l x≠lab l y)∧World.ownsRow w_ B 3 1 v n (ints l)∧Lay rdT (g3 :: (ownL v ++ N9)) w_ (.slice T9 c.ts.length t9) c.ts∧Blk w_ g3 47 #[.int .i64 c.st,.slice T9 c.ts.length t9,kb,kn,kd]∧Mod (ownL v) w w_) (fun k=>i - k) 0 ?_ ?_ ?_
  · exact ⟨rfl,rfl,rfl,rfl,trivial⟩
  ·
   exact ⟨Nat.zero_le _,(fun a ha=>by omega),ho,ht,hb3,hm0⟩
  rintro k w3 ⟨hk,hnk,ho,ht,hb3,hm0⟩
  refine W.seq<|W.seq<|W.region<|L.m rfl rfl<|L.m rfl rfl<|L.v (R1.lt rfl rfl) rfl<|L.nil<|X.seq<|W.cond rfl ?_ ?_
  ·
   intro hc22
   try simp only [bq,ne_eq] at hc22
   refine W.skip<|X.seq<|W.seq<|W.block<|W.seq<|W.drawW (T:=[]) rfl (by decide +kernel) (NoHang.then (NoHang.block (NoHang.then (NoHang.next (NoHang.block (NoHang.block (NoHang.then (NoHang.next (NoHang.block (NoHang.then NoHang.post)))))))))) (fun w4 hm4=>?_)
   replace ht:=ht.gr hm4;replace hb3:=Blk.gr hb3 hm4;replace hm0:=hm0.trans (hm4.mono (by simp));replace ho:=own_gr ho hm4 (by simp)
   have hS1:Mod [] w4 w4:=Mod.refl _ _
   clear hm4;have hb3_s:=hb3
   refine D.m 0 rfl (by kernel_rfl) rfl hS1 rfl<|D.take 1 rfl (by kernel_rfl) (fun w_ hS=>(R1.fieldAt rfl tyF47_1)) hS1 rfl<|D.take 2 rfl (by kernel_rfl) (fun w_ hS=>(R1.loadFld rfl (Blk.gr hb3_s hS) rfl tyP44)) hS1 rfl<|D.m 3 rfl (by kernel_rfl) rfl hS1 rfl<|D.take 4 rfl (by kernel_rfl) (fun w_ hS=>(R1.atLay (j:=i) rfl rfl (Lay.gr ht hS) tyS44 rfl (by omega))) hS1 rfl<|D.take 5 rfl (by kernel_rfl) (fun w_ hS=>(R1.fieldAddr rfl tyF43_0)) hS1 rfl ?_
   obtain ⟨z31,cs31,hz31,hE31,ds31,rfl,vn31,vd31,rfl,hn31,hd31⟩:=Lay.elemQ ht (j:=i) (by omega);obtain ⟨A31,c31,rfl⟩:=hn31.form;obtain ⟨B31,e31,rfl⟩:=hd31.form
   refine D.take 6 rfl (by kernel_rfl) (fun w_ hS=>((R1.loadEF rfl (SlE.gr hE31 hS) rfl tyP3).asV (v:=.int .i64 ((z31.v.toNat:Nat):Int)) (by have h9:=hv _ (List.mem_of_getElem? hz31); congr 1; omega))) hS1 rfl<|D.take 7 rfl (by kernel_rfl) (fun w_ hS=>(R1.atOwn (i:=z31.v.toNat) rfl rfl (own_gr ho hS (by simp)) tyS29 rfl (by have h9:=hv _ (List.mem_of_getElem? hz31); omega))) hS1 rfl<|D.take 8 rfl (by kernel_rfl) (fun w_ hS=>(R1.ldLab rfl (own_gr ho hS (by simp)) (by have h9:=hv _ (List.mem_of_getElem? hz31); omega) tyP3)) hS1 rfl<|D.m 9 rfl (by kernel_rfl) rfl hS1 rfl<|D.take 10 rfl (by kernel_rfl) (fun w_ hS=>(R1.fieldAt rfl tyF47_1)) hS1 rfl<|D.take 11 rfl (by kernel_rfl) (fun w_ hS=>(R1.loadFld rfl (Blk.gr hb3_s hS) rfl tyP44)) hS1 rfl<|D.m 12 rfl (by kernel_rfl) rfl hS1 rfl<|D.take 13 rfl (by kernel_rfl) (fun w_ hS=>(R1.atLay (j:=k) rfl rfl (Lay.gr ht hS) tyS44 rfl (by omega))) hS1 rfl<|D.take 14 rfl (by kernel_rfl) (fun w_ hS=>(R1.fieldAddr rfl tyF43_0)) hS1 rfl ?_
   obtain ⟨z40,cs40,hz40,hE40,ds40,rfl,vn40,vd40,rfl,hn40,hd40⟩:=Lay.elemQ ht (j:=k) (by omega);obtain ⟨A40,c40,rfl⟩:=hn40.form;obtain ⟨B40,e40,rfl⟩:=hd40.form
   refine D.take 15 rfl (by kernel_rfl) (fun w_ hS=>((R1.loadEF rfl (SlE.gr hE40 hS) rfl tyP3).asV (v:=.int .i64 ((z40.v.toNat:Nat):Int)) (by have h9:=hv _ (List.mem_of_getElem? hz40); congr 1; omega))) hS1 rfl<|D.take 16 rfl (by kernel_rfl) (fun w_ hS=>(R1.atOwn (i:=z40.v.toNat) rfl rfl (own_gr ho hS (by simp)) tyS29 rfl (by have h9:=hv _ (List.mem_of_getElem? hz40); omega))) hS1 rfl<|D.take 17 rfl (by kernel_rfl) (fun w_ hS=>(R1.ldLab rfl (own_gr ho hS (by simp)) (by have h9:=hv _ (List.mem_of_getElem? hz40); omega) tyP3)) hS1 rfl<|D.take 18 rfl (by kernel_rfl) (fun w_ hS=>(R1.eq rfl rfl)) hS1 rfl<|D.done (by decide +kernel) ?_ _
   refine X.seq<|W.cond rfl ?_ ?_
   ·
    intro hc43
    try simp only [bq,ne_eq] at hc43
    refine W.seq<|W.region<|L.a rfl rfl<|L.nil<|X.seq<|W.ret<|X.blockRet<|X.thenRet<|X.nextRet<|X.blockRet<|X.blockRet ?_
    refine X.thenRet<|X.nextRet<|X.blockRet<|X.thenRet<|X.result1 rfl (.tmp rfl .nil) ?_
    have hko:=okW_false hl hvn (not_apart (by omega) (vs_get hz40) (vs_get hz31) (by unfold lab; omega))
    exact ⟨by rw [hko],by rw [hko]; exact ho,hm0⟩
   intro hc43
   try simp only [bq,ne_eq] at hc43
   refine W.skip<|X.blockEnd<|X.seq<|W.region<|L.m rfl rfl<|L.v (R1.addI (b:=1) rfl rfl (by omega)) rfl<|L.a rfl rfl<|L.nil<|X.next (k + 1) ?_ ?_ ?_
   · exact ⟨rfl,rfl,rfl,rfl,trivial⟩
   ·
    refine ⟨by omega,(fun a ha x y hx hy=>?_),ho,ht,hb3,hm0⟩
    rcases Nat.lt_or_ge a k with h9 | h9
    · exact hnk a h9 x y hx hy
    obtain rfl:a=k:=by omega
    rw [vs_get hz40] at hx; rw [vs_get hz31] at hy; injection hx with hx; injection hy with hy; subst hx; subst hy; unfold lab; omega
   first | omega | (dsimp only; omega)
  intro hc22
  try simp only [bq,ne_eq] at hc22
  obtain rfl:i=k:=by omega
  refine W.exit<|X.thenExit<|X.nextExit<|X.here<|X.blockEnd<|X.seq<|W.region<|L.m rfl rfl<|L.v (R1.addI (b:=1) rfl rfl (by omega)) rfl<|L.a rfl rfl<|L.nil ?_
  refine X.next (i + 1) ?_ ?_ ?_
  · exact ⟨rfl,rfl,rfl,trivial⟩
  ·
   refine ⟨by omega,(fun a b hab hb x y hx hy=>?_),ho,ht,hb3,hm0⟩
   rcases Nat.lt_or_ge b i with h9 | h9
   · exact hne a b hab h9 x y hx hy
   obtain rfl:b=i:=by omega
   exact hnk a (by omega) x y hx hy
  first | omega | (dsimp only; omega)
 intro hc17
 try simp only [bq,ne_eq] at hc17
 obtain rfl:i=c.ts.length:=by omega
 have hap:=apart_of (by rw [hvl]; exact hne);have hok:=(okW_apart hl hvn).2 hap
 refine W.exit<|X.thenExit<|X.nextExit<|X.here<|X.seq<|W.seq<|W.seq<|W.region<|L.a rfl rfl<|L.nil<|X.seq ?_
 refine W.block<|W.loop (ι:=Nat) (fun k=>[(0,v),(3,.pointer (some ⟨g3,0,none⟩)),(7,.int .i64 (k:Int))]) (fun k w_=>1≤k∧k≤max 1 c.ts.length∧Lab n (apW l ((vsOf c).take k))∧World.ownsRow w_ B 3 1 v n (ints (apW l ((vsOf c).take k)))∧Lay rdT (g3 :: (ownL v ++ N9)) w_ (.slice T9 c.ts.length t9) c.ts∧Blk w_ g3 47 #[.int .i64 c.st,.slice T9 c.ts.length t9,kb,kn,kd]∧Mod (ownL v) w w_) (fun k=>c.ts.length + 1 - k) 1 ?_ ?_ ?_
 · exact ⟨rfl,rfl,rfl,trivial⟩
 ·
  refine ⟨Nat.le_refl _,by omega,?_,?_,ht,hb3,hm0⟩
  · rw [(take_one_ap _ _).1]; exact hl
  rw [(take_one_ap _ _).1]; exact ho
 rintro k w5 ⟨hk1,hk2,hlk,ho,ht,hb3,hm0⟩
 refine W.seq<|W.seq<|W.region<|L.m rfl rfl<|L.v (R1.fieldAt rfl tyF47_1) rfl<|L.v (R1.loadFld rfl hb3 rfl tyP44) rfl<|L.v (R1.lenLay rfl ht tyS44) rfl<|L.v (R1.lt rfl rfl) rfl<|L.nil<|X.seq<|W.cond rfl ?_ ?_
 ·
  intro hc48
  try simp only [bq,ne_eq] at hc48
  refine W.skip<|X.seq<|W.seq<|W.block<|W.seq<|W.drawW (T:=[]) rfl (by decide +kernel) (NoHang.then (NoHang.block (NoHang.then (NoHang.next (NoHang.block (NoHang.then NoHang.post)))))) (fun w6 hm6=>?_)
  replace ht:=ht.gr hm6;replace hb3:=Blk.gr hb3 hm6;replace hm0:=hm0.trans (hm6.mono (by simp));replace ho:=own_gr ho hm6 (by simp)
  have hS2:Mod [] w6 w6:=Mod.refl _ _
  clear hm6;have hb3_s:=hb3
  refine D.m 0 rfl (by kernel_rfl) rfl hS2 rfl<|D.take 1 rfl (by kernel_rfl) (fun w_ hS=>(R1.fieldAt rfl tyF47_1)) hS2 rfl<|D.take 2 rfl (by kernel_rfl) (fun w_ hS=>(R1.loadFld rfl (Blk.gr hb3_s hS) rfl tyP44)) hS2 rfl<|D.take 3 rfl (by kernel_rfl) (fun w_ hS=>(R1.atLay (j:=0) rfl rfl (Lay.gr ht hS) tyS44 rfl (by omega))) hS2 rfl<|D.take 4 rfl (by kernel_rfl) (fun w_ hS=>(R1.fieldAddr rfl tyF43_0)) hS2 rfl ?_
  obtain ⟨z56,cs56,hz56,hE56,ds56,rfl,vn56,vd56,rfl,hn56,hd56⟩:=Lay.elemQ ht (j:=0) (by omega);obtain ⟨A56,c56,rfl⟩:=hn56.form;obtain ⟨B56,e56,rfl⟩:=hd56.form
  refine D.take 5 rfl (by kernel_rfl) (fun w_ hS=>((R1.loadEF rfl (SlE.gr hE56 hS) rfl tyP3).asV (v:=.int .i64 ((z56.v.toNat:Nat):Int)) (by have h9:=hv _ (List.mem_of_getElem? hz56); congr 1; omega))) hS2 rfl<|D.take 6 rfl (by kernel_rfl) (fun w_ hS=>(R1.atOwn (i:=z56.v.toNat) rfl rfl (own_gr ho hS (by simp)) tyS29 rfl (by have h9:=hv _ (List.mem_of_getElem? hz56); omega))) hS2 rfl<|D.take 7 rfl (by kernel_rfl) (fun w_ hS=>(R1.ldLab rfl (own_gr ho hS (by simp)) (by have h9:=hv _ (List.mem_of_getElem? hz56); omega) tyP3)) hS2 rfl<|D.m 8 rfl (by kernel_rfl) rfl hS2 rfl<|D.take 9 rfl (by kernel_rfl) (fun w_ hS=>(R1.fieldAt rfl tyF47_1)) hS2 rfl<|D.take 10 rfl (by kernel_rfl) (fun w_ hS=>(R1.loadFld rfl (Blk.gr hb3_s hS) rfl tyP44)) hS2 rfl<|D.m 11 rfl (by kernel_rfl) rfl hS2 rfl<|D.take 12 rfl (by kernel_rfl) (fun w_ hS=>(R1.atLay (j:=k) rfl rfl (Lay.gr ht hS) tyS44 rfl (by omega))) hS2 rfl<|D.take 13 rfl (by kernel_rfl) (fun w_ hS=>(R1.fieldAddr rfl tyF43_0)) hS2 rfl ?_
  obtain ⟨z65,cs65,hz65,hE65,ds65,rfl,vn65,vd65,rfl,hn65,hd65⟩:=Lay.elemQ ht (j:=k) (by omega);obtain ⟨A65,c65,rfl⟩:=hn65.form;obtain ⟨B65,e65,rfl⟩:=hd65.form
  refine D.take 14 rfl (by kernel_rfl) (fun w_ hS=>((R1.loadEF rfl (SlE.gr hE65 hS) rfl tyP3).asV (v:=.int .i64 ((z65.v.toNat:Nat):Int)) (by have h9:=hv _ (List.mem_of_getElem? hz65); congr 1; omega))) hS2 rfl<|D.take 15 rfl (by kernel_rfl) (fun w_ hS=>(R1.atOwn (i:=z65.v.toNat) rfl rfl (own_gr ho hS (by simp)) tyS29 rfl (by have h9:=hv _ (List.mem_of_getElem? hz65); omega))) hS2 rfl<|D.take 16 rfl (by kernel_rfl) (fun w_ hS=>(R1.ldLab rfl (own_gr ho hS (by simp)) (by have h9:=hv _ (List.mem_of_getElem? hz65); omega) tyP3)) hS2 rfl<|D.take 17 rfl (by kernel_rfl) (fun w_ hS=>(R1.assign rfl)) hS2 rfl<|D.take 18 rfl (by kernel_rfl) (fun w_ hS=>(R1.assign rfl)) hS2 rfl<|D.done (by decide +kernel) ?_ _
  refine X.seq<|W.seq<|W.region<|L.m rfl rfl<|L.m rfl rfl<|L.v ((R1.minI rfl rfl).as (j:=(((min (lab (apW l ((vsOf c).take k)) z56.v.toNat) (lab (apW l ((vsOf c).take k)) z65.v.toNat)):Nat):Int)) (by unfold lab; omega)) rfl<|L.m rfl rfl<|L.m rfl rfl<|L.v ((R1.maxI rfl rfl).as (j:=(((max (lab (apW l ((vsOf c).take k)) z56.v.toNat) (lab (apW l ((vsOf c).take k)) z65.v.toNat)):Nat):Int)) (by unfold lab; omega)) rfl<|L.a rfl rfl<|L.a rfl rfl ?_
  refine L.nil<|X.seq<|W.seq<|W.region<|L.a rfl rfl<|L.nil<|X.seq<|W.block ?_
  have hll:=hlk.len
  refine W.loop (ι:=Nat) (fun j=>[(0,v),(3,.pointer (some ⟨g3,0,none⟩)),(7,.int .i64 (k:Int)),(10,.int .i64 (((min (lab (apW l ((vsOf c).take k)) z56.v.toNat) (lab (apW l ((vsOf c).take k)) z65.v.toNat)):Nat):Int)),(11,.int .i64 (((max (lab (apW l ((vsOf c).take k)) z56.v.toNat) (lab (apW l ((vsOf c).take k)) z65.v.toNat)):Nat):Int)),(12,.int .i64 (j:Int))]) (fun j w_=>j≤n∧World.ownsRow w_ B 3 1 v n (ints (mapTo (apW l ((vsOf c).take k)) z56.v.toNat z65.v.toNat j))∧Lay rdT (g3 :: (ownL v ++ N9)) w_ (.slice T9 c.ts.length t9) c.ts∧Blk w_ g3 47 #[.int .i64 c.st,.slice T9 c.ts.length t9,kb,kn,kd]∧Mod (ownL v) w w_) (fun j=>n - j) 0 ?_ ?_ ?_
  · exact ⟨rfl,rfl,rfl,rfl,rfl,rfl,trivial⟩
  ·
   exact ⟨Nat.zero_le _,by rw [mapTo_zero]; exact ho,ht,hb3,hm0⟩
  rintro j w7 ⟨hj,ho,ht,hb3,hm0⟩
  refine W.seq<|W.seq<|W.region<|L.m rfl rfl<|L.m rfl rfl<|L.v (R1.lenOwn rfl ho tyS29) rfl<|L.v (R1.lt rfl rfl) rfl<|L.nil<|X.seq<|W.cond rfl ?_ ?_
  ·
   intro hc77
   try simp only [bq,ne_eq] at hc77
   refine W.skip<|X.seq<|W.seq<|W.block<|W.seq<|W.region<|L.m rfl rfl<|L.m rfl rfl<|L.v (R1.atOwn (i:=j) rfl rfl ho tyS29 rfl (by omega)) rfl<|L.v (R1.ldLab rfl ho (by omega) tyP3) rfl<|L.m rfl rfl ?_
   refine L.v (R1.eq rfl rfl) rfl<|L.nil<|X.seq<|W.cond rfl ?_ ?_
   ·
    intro hc85
    try simp only [bq,ne_eq] at hc85
    refine W.region<|L.m rfl rfl<|L.m rfl rfl<|L.m rfl rfl<|L.v (R1.atOwn (i:=j) rfl rfl ho tyS29 rfl (by omega)) rfl<|L.storeLab rfl rfl ho (by omega) tyP3 ?_
    intro w8 ho' hm8
    replace ht:=ht.mod hm8 (by first | exact mem_own | (intro b hb; simp [hb]));replace hb3:=Blk.ownfar hb3 hm8 hno_ho_g3;replace hm0:=hm0.trans hm8;clear hm8;replace ho:=ho'; clear ho'
    refine L.nil<|X.blockEnd<|X.seq<|W.region<|L.m rfl rfl<|L.v (R1.addI (b:=1) rfl rfl (by omega)) rfl<|L.a rfl rfl<|L.nil<|X.next (j + 1) ?_ ?_ ?_
    · exact ⟨rfl,rfl,rfl,rfl,rfl,rfl,trivial⟩
    ·
     have hmg:=mapTo_get (l:=(apW l ((vsOf c).take k))) (a:=z56.v.toNat) (b:=z65.v.toNat) (j:=j) (by omega)
     refine ⟨by omega,?_,ht,hb3,hm0⟩
     first | (rw [mapTo_set (by omega) (by omega)] at ho; exact ho) | (rw [← mapTo_skip (by omega) (by omega)]; exact ho)
    first | omega | (dsimp only; omega)
   intro hc85
   try simp only [bq,ne_eq] at hc85
   refine W.skip<|X.blockEnd<|X.seq<|W.region<|L.m rfl rfl<|L.v (R1.addI (b:=1) rfl rfl (by omega)) rfl<|L.a rfl rfl<|L.nil<|X.next (j + 1) ?_ ?_ ?_
   · exact ⟨rfl,rfl,rfl,rfl,rfl,rfl,trivial⟩
   ·
    have hmg:=mapTo_get (l:=(apW l ((vsOf c).take k))) (a:=z56.v.toNat) (b:=z65.v.toNat) (j:=j) (by omega)
    refine ⟨by omega,?_,ht,hb3,hm0⟩
    first | (rw [mapTo_set (by omega) (by omega)] at ho; exact ho) | (rw [← mapTo_skip (by omega) (by omega)]; exact ho)
   first | omega | (dsimp only; omega)
  intro hc77
  try simp only [bq,ne_eq] at hc77
  obtain rfl:n=j:=by omega
  refine W.exit<|X.thenExit<|X.nextExit<|X.here<|X.blockEnd<|X.seq<|W.region<|L.m rfl rfl<|L.v (R1.addI (b:=1) rfl rfl (by omega)) rfl<|L.a rfl rfl<|L.nil ?_
  refine X.next (k + 1) ?_ ?_ ?_
  · exact ⟨rfl,rfl,rfl,trivial⟩
  ·
   have hst:=take_step (l:=l) hk1 (vs_get hz56) (vs_get hz65);have hll:=hlk.len
   refine ⟨by omega,by omega,?_,?_,ht,hb3,hm0⟩
   · rw [hst.1]; exact hlk.jn (by have h9:=hv _ (List.mem_of_getElem? hz56); omega) (by have h9:=hv _ (List.mem_of_getElem? hz65); omega)
   rw [hst.1,← mapTo_all,hll]; exact ho
  first | omega | (dsimp only; omega)
 intro hc48
 try simp only [bq,ne_eq] at hc48
 refine W.exit<|X.thenExit<|X.nextExit<|X.here<|X.seq<|W.seq<|W.region<|L.a rfl rfl<|L.nil<|X.seq<|W.ret ?_
 refine X.result1 rfl (.tmp rfl .nil) ?_
 have hfull:(vsOf c).take k=vsOf c:=List.take_of_length_le (by omega)
 rw [hfull] at ho
 exact ⟨by rw [hok],by rw [if_pos hok]; exact ho,hm0⟩
end Go.Proofs.YtedokfpoajfflaaGreat
