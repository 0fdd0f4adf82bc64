/- Walks: what the functions compute. -/
import Derived.Test.YthoooolflmbmbaaGreatGrB
namespace Go.Proofs.YthoooolflmbmbaaGreat
open Go.RowKit
set_option linter.unusedVariables false
set_option linter.unusedSimpArgs false
set_option maxRecDepth 10000
theorem range_snoc (i:Nat):ints (List.range i) ++ [.int .i64 (i:Int)]=ints (List.range (i + 1)):=by rw [List.range_succ,ints_append]; rfl
def AllNe (l vs:List Nat) (i:Nat):Prop:=∀ a b,a<b→b<i→∀ x y,vs[a]?=some x→vs[b]?=some y→lab l x≠lab l y
theorem apart_of {l vs:List Nat} (h:AllNe l vs vs.length):apart l vs:=by
  unfold apart
  rw [List.nodup_iff_pairwise_ne,List.pairwise_map,List.pairwise_iff_getElem]
  intro a b ha hb hab
  exact h a b hab hb _ _ (List.getElem?_eq_getElem ha) (List.getElem?_eq_getElem hb)
theorem not_apart {l vs:List Nat} {a b x y:Nat} (hab:a<b) (hx:vs[a]?=some x) (hy:vs[b]?=some y) (e:lab l x=lab l y):¬ apart l vs:=by
  unfold apart
  rw [List.nodup_iff_pairwise_ne,List.pairwise_map,List.pairwise_iff_getElem]
  intro h
  obtain ⟨ha,rfl⟩:=List.getElem?_eq_some_iff.1 hx;obtain ⟨hb,rfl⟩:=List.getElem?_eq_some_iff.1 hy
  exact h a b ha hb hab e
theorem okW_false {n:Nat} {l vs:List Nat} (h:Lab n l) (hv:∀ v∈vs,v<n) (k:¬ apart l vs):okW l vs=false:=by
  cases e:okW l vs with
  | false=>rfl
  | true=>exact absurd ((okW_apart h hv).1 e) k
def mapTo (l:List Nat) (a b j:Nat):List Nat:=(jn l a b).take j ++ l.drop j
theorem mapTo_length (l:List Nat) (a b j:Nat):(mapTo l a b j).length=l.length:=by simp [mapTo,jn_length]; omega
theorem mapTo_get {l:List Nat} {a b j:Nat} (hj:j<l.length):(mapTo l a b j).getD j 0=l.getD j 0:=by
  unfold mapTo
  simp [List.getD,List.getElem?_append,jn_length]
  rw [if_neg (by omega)]
  congr 2; omega
theorem mapTo_at {l:List Nat} {a b j:Nat} (hj:j≤l.length) (k:Nat):(mapTo l a b j)[k]?=if k<j then (jn l a b)[k]? else l[k]?:=by
  have h1:=jn_length l a b
  unfold mapTo
  rw [List.getElem?_append,List.length_take,h1,Nat.min_eq_left hj]
  split
  · rw [List.getElem?_take,if_pos (by assumption)]
  rw [List.getElem?_drop]; congr 1; omega
theorem jn_at {l:List Nat} {a b j:Nat} (hj:j<l.length):(jn l a b)[j]?=some (if lab l j=max (lab l a) (lab l b) then min (lab l a) (lab l b) else lab l j):=by
  rw [← jn_lab hj,lab_eq (by rw [jn_length]; exact hj)]
  exact List.getElem?_eq_getElem _
theorem mapTo_set {l:List Nat} {a b j:Nat} (hj:j<l.length) (h:l.getD j 0=max (lab l a) (lab l b)):(mapTo l a b j).set j (min (lab l a) (lab l b))=mapTo l a b (j + 1):=by
  apply List.ext_getElem?
  intro k
  rw [List.getElem?_set,mapTo_at (by omega),mapTo_at (by omega),mapTo_length]
  by_cases hk:j=k
  · subst hk
    rw [if_pos rfl,if_pos hj,if_pos (by omega),jn_at hj,if_pos (show lab l j=_ from h)]
  rw [if_neg hk]
  by_cases hk2:k<j
  · rw [if_pos hk2,if_pos (by omega)]
  rw [if_neg hk2,if_neg (by omega)]
theorem mapTo_skip {l:List Nat} {a b j:Nat} (hj:j<l.length) (h:l.getD j 0≠max (lab l a) (lab l b)):mapTo l a b j=mapTo l a b (j + 1):=by
  apply List.ext_getElem?
  intro k
  rw [mapTo_at (by omega),mapTo_at (by omega)]
  by_cases hk:k=j
  · subst hk
    rw [if_neg (by omega),if_pos (by omega),jn_at hj,if_neg (show ¬ lab l k=_ from h),lab_eq hj]
    exact List.getElem?_eq_getElem _
  by_cases hk2:k<j
  · rw [if_pos hk2,if_pos (by omega)]
  rw [if_neg hk2,if_neg (by omega)]
theorem mapTo_all (l:List Nat) (a b:Nat):mapTo l a b l.length=jn l a b:=by
  unfold mapTo
  rw [List.take_of_length_le (by rw [jn_length]; exact Nat.le_refl _),List.drop_length,List.append_nil]
theorem mapTo_zero (l:List Nat) (a b:Nat):mapTo l a b 0=l:=by simp [mapTo]
theorem first_found {n:Nat} {cs:List CR} {i:Nat} {z:CR} (hz:cs[i]?=some z) {l:List Nat} (h:firstW l ((wsOf n cs).take i) 0=none) (hb:okW (apAll l ((wsOf n cs).take i)) (wOf n z)=false):firstW l (wsOf n cs) 0=some i:=by
  have h1:=firstW_snoc (n:=n) hz l
  rw [h,hb] at h1
  have e:wsOf n cs=(wsOf n cs).take (i + 1) ++ (wsOf n cs).drop (i + 1):=(List.take_append_drop _ _).symm
  rw [e,firstW_append,h1]; rfl
theorem first_on {n:Nat} {cs:List CR} {i:Nat} {z:CR} (hz:cs[i]?=some z) {l:List Nat} (h:firstW l ((wsOf n cs).take i) 0=none) (hb:okW (apAll l ((wsOf n cs).take i)) (wOf n z)=true):firstW l ((wsOf n cs).take (i + 1)) 0=none:=by
  rw [firstW_snoc hz,h,hb]; rfl
theorem c_start {w : World} {n : Nat} (hn : n ≤ 64) :
    Ret Tryz.prog 47 #[.int .i64 (n:Int)] w (fun x w'=>w'.ownsRow w.heap.size 3 1 x n (ints (List.range n))∧Mod [] w w'):=by
 refine Ret.of (vs:=[.int .i64 (n:Int)]) (n:=15) Tryz.func47 rfl rfl rfl rfl ?_
 have C0:Mod [] w w:=Mod.refl _ _
 refine W.sr<|L.b rfl<|L.z<|W.sr<|L.b rfl<|L.z<|W.seq ?_
 refine W.sr<|L.b rfl<|L.z<|W.block<|W.loop (ι:=Nat × Value) (fun (i,u)=>[(0,.int .i64 (n:Int)),(3,u),(4,.int .i64 (i:Int))]) (fun (i,u) w_=>i≤n∧World.ownsRow w_ w.heap.size 3 1 u i (ints (List.range i))∧Mod [] w w_) (fun (i,u)=>n - i) (0,.slice none 0 0) ?_ ?_ ?_
 · exact ⟨rfl,rfl,rfl,trivial⟩
 ·
  exact ⟨Nat.zero_le _,own_nil _ _ _ _,C0⟩
 rintro ⟨i,u⟩ w1 ⟨hi,ho,C0⟩
 refine W.seq<|W.sr<|L.k rfl<|L.k rfl<|L.lt rfl rfl<|L.z<|W.cond rfl ?_ ?_
 ·
  intro J7
  try simp only [bq,ne_eq] at J7
  refine W.skip<|X.seq<|W.seq<|W.block<|W.region<|L.k rfl<|L.k rfl<|L.build1 rfl rfl Q26 tyZ3 rfl ?_
  intro g12 w2 D12
  replace ho:=own_gs ho D12.mod;replace C0:=C0.trans D12.mod
  have hrow:Sl [] w2 1 (.slice (some ⟨g12,0,none⟩) 1 1) 1 [.int .i64 ((i:Int))]:=Sl.row1 D12.blk (by simp)
  clear D12
  refine L.append rfl rfl ho hrow (by simp [Value.oneCell']) Q26 tyZ3 (by omega) (by unfold maxLen; omega) C0.size rfl ?_
  intro v13 w3 O13' X13
  replace C0:=Mod.oldOwn C0 X13.mod ho;replace ho:=O13'; clear O13';clear X13
  refine L.b rfl<|L.nil<|X.blockEnd<|X.seq<|W.region<|L.k rfl<|L.inc rfl rfl (by omega)<|L.b rfl<|L.nil<|X.next (i + 1,v13) ?_ ?_ ?_
  · exact ⟨rfl,rfl,rfl,trivial⟩
  ·
   exact ⟨by omega,own_congr ho rfl (range_snoc i),C0⟩
  first | omega | (dsimp only; omega)
 intro J7
 try simp only [bq,ne_eq] at J7
 obtain rfl:n=i:=by omega
 refine W.brk<|W.sr<|L.k rfl<|L.b rfl<|L.z ?_
 refine W.ret<|X.result1 rfl (.tmp rfl .nil) ?_
 exact ⟨ho,C0⟩
theorem c_join {N9 : List Nat} {w : World} {B n : Nat} {v vt kb kn kd : Value} {l : List Nat} {c : CR} (ho : w.ownsRow B 3 1 v n (ints l)) (hl : Lab n l) (hv : ∀ t ∈ c.ts, 0 ≤ t.v ∧ t.v < (n : Int)) (hn : n ≤ 64) (ht : Lay rdT (ownL v ++ N9) w vt c.ts) :
    Ret Tryz.prog 48 #[v,.agg #[.int .i64 c.st,vt,kb,kn,kd]] w (fun x w'=>x=.bool (okW l (vsOf c))∧w'.ownsRow B 3 1 v n (ints (if okW l (vsOf c)=true then apW l (vsOf c) else l))∧Mod (ownL v) w w'):=by
 obtain ⟨T9,t9,rfl⟩:=ht.form;have hmx:=ht.max; unfold maxLen at hmx
 have hvl:(vsOf c).length=c.ts.length:=by simp [vsOf]
 have hvn:∀ x∈vsOf c,x<n:=fun x hx=>by
     obtain ⟨t,h1,rfl⟩:=List.mem_map.1 hx
     have:=hv t h1; omega
 refine Ret.of (vs:=[v,.agg #[.int .i64 c.st,.slice T9 c.ts.length t9,kb,kn,kd]]) (n:=90) Tryz.func48 rfl rfl rfl rfl ?_
 have C0:Mod (ownL v) w w:=Mod.refl _ _
 refine W.sr<|L.box rfl rfl ?_
 intro g3 w1 D3
 replace ht:=ht.new D3;have hno_ho_g3:=own_ne_new ho D3;replace ho:=own_gs ho D3.mod;replace C0:=C0.tn D3;have E3:=D3.blk;clear D3
 refine L.b rfl<|L.z<|W.seq<|W.sr<|L.b rfl<|L.z<|W.block<|W.loop (ι:=Nat) (fun i=>[(0,v),(3,.pointer (some ⟨g3,0,none⟩)),(5,.int .i64 (i:Int))]) (fun i w_=>i≤c.ts.length∧AllNe l (vsOf c) i∧World.ownsRow w_ B 3 1 v n (ints l)∧Lay rdT (g3 :: (ownL v ++ N9)) w_ (.slice T9 c.ts.length t9) c.ts∧Blk w_ g3 42 #[.int .i64 c.st,.slice T9 c.ts.length t9,kb,kn,kd]∧Mod (ownL v) w w_) (fun i=>c.ts.length - i) 0 ?_ ?_ ?_
 · exact ⟨rfl,rfl,rfl,trivial⟩
 ·
  exact ⟨Nat.zero_le _,(fun a b _ hb=>by omega),ho,ht,E3,C0⟩
 rintro i w2 ⟨hi,hne,ho,ht,E3,C0⟩
 refine W.seq<|W.sr<|L.k rfl<|L.fA rfl tyF42_1<|L.lF rfl E3 rfl tyP37<|L.lL rfl ht Q37<|L.lt rfl rfl<|L.z<|W.cond rfl ?_ ?_
 ·
  intro J17
  try simp only [bq,ne_eq] at J17
  refine W.skip<|X.seq<|W.seq<|W.block<|W.sr<|L.b rfl<|L.z<|W.block<|W.loop (ι:=Nat) (fun k=>[(0,v),(3,.pointer (some ⟨g3,0,none⟩)),(5,.int .i64 (i:Int)),(6,.int .i64 (k:Int))]) (fun k w_=>k≤i∧(∀ a,a<k→∀ x y,(vsOf c)[a]?=some x→(vsOf c)[i]?=some y→lab l x≠lab l y)∧World.ownsRow w_ B 3 1 v n (ints l)∧Lay rdT (g3 :: (ownL v ++ N9)) w_ (.slice T9 c.ts.length t9) c.ts∧Blk w_ g3 42 #[.int .i64 c.st,.slice T9 c.ts.length t9,kb,kn,kd]∧Mod (ownL v) w w_) (fun k=>i - k) 0 ?_ ?_ ?_
  · repeat' constructor
  ·
   exact ⟨Nat.zero_le _,(fun a ha=>by omega),ho,ht,E3,C0⟩
  rintro k w3 ⟨hk,hnk,ho,ht,E3,C0⟩
  refine W.seq<|W.sr<|L.k rfl<|L.k rfl<|L.lt rfl rfl<|L.z<|W.cond rfl ?_ ?_
  ·
   intro J22
   try simp only [bq,ne_eq] at J22
   refine W.skip<|X.seq<|W.seq<|W.block<|W.seq<|W.drawW (T:=[]) rfl (by decide +kernel) (NoHang.then (NoHang.block (NoHang.then (NoHang.next (NoHang.block (NoHang.block (NoHang.then (NoHang.next (NoHang.block (NoHang.then NoHang.post)))))))))) (fun w4 C4=>?_)
   replace ht:=ht.gr C4;replace E3:=E3.gr C4;replace C0:=C0.trans (C4.mono (by simp));replace ho:=own_gs ho C4
   have G1:Mod [] w4 w4:=Mod.refl _ _
   clear C4;have hb3_s:=E3
   refine D.z 0 rfl (by kernel_rfl) rfl G1<|D.t 1 rfl (by kernel_rfl) (fun _ hS=>R1.fieldAt rfl tyF42_1) G1<|D.t 2 rfl (by kernel_rfl) (fun _ hS=>R1.loadFld rfl (hb3_s.gr hS) rfl tyP37) G1<|D.z 3 rfl (by kernel_rfl) rfl G1<|D.t 4 rfl (by kernel_rfl) (fun _ hS=>R1.atLay (j:=i) rfl rfl (Lay.gr ht hS) Q37 rfl (by omega)) G1<|D.t 5 rfl (by kernel_rfl) (fun _ hS=>R1.fieldAddr rfl tyF47_0) G1 ?_
   obtain ⟨z31,cs31,P31,V31,ds31,rfl,vn31,vd31,rfl,I31,H31⟩:=Lay.elemQ ht (j:=i) (by omega);obtain ⟨A31,c31,rfl⟩:=I31.form;obtain ⟨B31,e31,rfl⟩:=H31.form
   refine D.t 6 rfl (by kernel_rfl) (fun _ hS=>(R1.loadEF rfl (SlE.gr V31 hS) rfl tyP3).asV (v:=.int .i64 ((z31.v.toNat:Nat):Int)) (by have h9:=hv _ (List.mem_of_getElem? P31); congr 1; omega)) G1<|D.t 7 rfl (by kernel_rfl) (fun _ hS=>R1.atOwn (i:=z31.v.toNat) rfl rfl (own_gs ho hS) Q26 rfl (by have h9:=hv _ (List.mem_of_getElem? P31); omega)) G1<|D.t 8 rfl (by kernel_rfl) (fun _ hS=>R1.ldLab rfl (own_gs ho hS) (by have h9:=hv _ (List.mem_of_getElem? P31); omega) tyP3) G1<|D.z 9 rfl (by kernel_rfl) rfl G1<|D.t 10 rfl (by kernel_rfl) (fun _ hS=>R1.fieldAt rfl tyF42_1) G1<|D.t 11 rfl (by kernel_rfl) (fun _ hS=>R1.loadFld rfl (hb3_s.gr hS) rfl tyP37) G1<|D.z 12 rfl (by kernel_rfl) rfl G1<|D.t 13 rfl (by kernel_rfl) (fun _ hS=>R1.atLay (j:=k) rfl rfl (Lay.gr ht hS) Q37 rfl (by omega)) G1<|D.t 14 rfl (by kernel_rfl) (fun _ hS=>R1.fieldAddr rfl tyF47_0) G1 ?_
   obtain ⟨z40,cs40,P40,V40,ds40,rfl,vn40,vd40,rfl,I40,H40⟩:=Lay.elemQ ht (j:=k) (by omega);obtain ⟨A40,c40,rfl⟩:=I40.form;obtain ⟨B40,e40,rfl⟩:=H40.form
   refine D.t 15 rfl (by kernel_rfl) (fun _ hS=>(R1.loadEF rfl (SlE.gr V40 hS) rfl tyP3).asV (v:=.int .i64 ((z40.v.toNat:Nat):Int)) (by have h9:=hv _ (List.mem_of_getElem? P40); congr 1; omega)) G1<|D.t 16 rfl (by kernel_rfl) (fun _ hS=>R1.atOwn (i:=z40.v.toNat) rfl rfl (own_gs ho hS) Q26 rfl (by have h9:=hv _ (List.mem_of_getElem? P40); omega)) G1<|D.t 17 rfl (by kernel_rfl) (fun _ hS=>R1.ldLab rfl (own_gs ho hS) (by have h9:=hv _ (List.mem_of_getElem? P40); omega) tyP3) G1<|D.t 18 rfl (by kernel_rfl) (fun _ hS=>R1.eq rfl rfl) G1<|D.done (by decide +kernel) ?_ _
   refine X.seq<|W.cond rfl ?_ ?_
   ·
    intro J43
    try simp only [bq,ne_eq] at J43
    refine W.sr<|L.b rfl<|L.z<|W.ret<|X.blockRet<|X.thenRet<|X.nextRet<|X.blockRet<|X.blockRet ?_
    refine X.thenRet<|X.nextRet<|X.blockRet<|X.thenRet<|X.result1 rfl (.tmp rfl .nil) ?_
    have hko:=okW_false hl hvn (not_apart (by omega) (vs_get P40) (vs_get P31) (by unfold lab; omega))
    exact ⟨by rw [hko],by rw [hko]; exact ho,C0⟩
   intro J43
   try simp only [bq,ne_eq] at J43
   refine W.skip<|X.blockEnd<|X.seq<|W.region<|L.k rfl<|L.inc rfl rfl (by omega)<|L.b rfl<|L.nil<|X.next (k + 1) ?_ ?_ ?_
   · repeat' constructor
   ·
    refine ⟨by omega,(fun a ha x y hx hy=>?_),ho,ht,E3,C0⟩
    rcases Nat.lt_or_ge a k with h9 | h9
    · exact hnk a h9 x y hx hy
    obtain rfl:a=k:=by omega
    rw [vs_get P40] at hx; rw [vs_get P31] at hy; injection hx with hx; injection hy with hy; subst hx; subst hy; unfold lab; omega
   first | omega | (dsimp only; omega)
  intro J22
  try simp only [bq,ne_eq] at J22
  obtain rfl:i=k:=by omega
  refine W.exit<|X.thenExit<|X.nextExit<|X.here<|X.blockEnd<|X.seq<|W.region<|L.k rfl<|L.inc rfl rfl (by omega)<|L.b rfl<|L.nil ?_
  refine X.next (i + 1) ?_ ?_ ?_
  · exact ⟨rfl,rfl,rfl,trivial⟩
  ·
   refine ⟨by omega,(fun a b hab hb x y hx hy=>?_),ho,ht,E3,C0⟩
   rcases Nat.lt_or_ge b i with h9 | h9
   · exact hne a b hab h9 x y hx hy
   obtain rfl:b=i:=by omega
   exact hnk a (by omega) x y hx hy
  first | omega | (dsimp only; omega)
 intro J17
 try simp only [bq,ne_eq] at J17
 obtain rfl:i=c.ts.length:=by omega
 have hap:=apart_of (by rw [hvl]; exact hne);have hok:=(okW_apart hl hvn).2 hap
 refine W.brk<|W.seq<|W.sr<|L.b rfl<|L.z ?_
 refine W.block<|W.loop (ι:=Nat) (fun k=>[(0,v),(3,.pointer (some ⟨g3,0,none⟩)),(7,.int .i64 (k:Int))]) (fun k w_=>1≤k∧k≤max 1 c.ts.length∧Lab n (apW l ((vsOf c).take k))∧World.ownsRow w_ B 3 1 v n (ints (apW l ((vsOf c).take k)))∧Lay rdT (g3 :: (ownL v ++ N9)) w_ (.slice T9 c.ts.length t9) c.ts∧Blk w_ g3 42 #[.int .i64 c.st,.slice T9 c.ts.length t9,kb,kn,kd]∧Mod (ownL v) w w_) (fun k=>c.ts.length + 1 - k) 1 ?_ ?_ ?_
 · exact ⟨rfl,rfl,rfl,trivial⟩
 ·
  refine ⟨Nat.le_refl _,by omega,?_,?_,ht,E3,C0⟩
  · rw [(take_one_ap _ _).1]; exact hl
  rw [(take_one_ap _ _).1]; exact ho
 rintro k w5 ⟨hk1,hk2,hlk,ho,ht,E3,C0⟩
 refine W.seq<|W.sr<|L.k rfl<|L.fA rfl tyF42_1<|L.lF rfl E3 rfl tyP37<|L.lL rfl ht Q37<|L.lt rfl rfl<|L.z<|W.cond rfl ?_ ?_
 ·
  intro J48
  try simp only [bq,ne_eq] at J48
  refine W.skip<|X.seq<|W.seq<|W.block<|W.seq<|W.drawW (T:=[]) rfl (by decide +kernel) (NoHang.then (NoHang.block (NoHang.then (NoHang.next (NoHang.block (NoHang.then NoHang.post)))))) (fun w6 C6=>?_)
  replace ht:=ht.gr C6;replace E3:=E3.gr C6;replace C0:=C0.trans (C6.mono (by simp));replace ho:=own_gs ho C6
  have G2:Mod [] w6 w6:=Mod.refl _ _
  clear C6;have hb3_s:=E3
  refine D.z 0 rfl (by kernel_rfl) rfl G2<|D.t 1 rfl (by kernel_rfl) (fun _ hS=>R1.fieldAt rfl tyF42_1) G2<|D.t 2 rfl (by kernel_rfl) (fun _ hS=>R1.loadFld rfl (hb3_s.gr hS) rfl tyP37) G2<|D.t 3 rfl (by kernel_rfl) (fun _ hS=>R1.atLay (j:=0) rfl rfl (Lay.gr ht hS) Q37 rfl (by omega)) G2<|D.t 4 rfl (by kernel_rfl) (fun _ hS=>R1.fieldAddr rfl tyF47_0) G2 ?_
  obtain ⟨z56,cs56,P56,V56,ds56,rfl,vn56,vd56,rfl,I56,H56⟩:=Lay.elemQ ht (j:=0) (by omega);obtain ⟨A56,c56,rfl⟩:=I56.form;obtain ⟨B56,e56,rfl⟩:=H56.form
  refine D.t 5 rfl (by kernel_rfl) (fun _ hS=>(R1.loadEF rfl (SlE.gr V56 hS) rfl tyP3).asV (v:=.int .i64 ((z56.v.toNat:Nat):Int)) (by have h9:=hv _ (List.mem_of_getElem? P56); congr 1; omega)) G2<|D.t 6 rfl (by kernel_rfl) (fun _ hS=>R1.atOwn (i:=z56.v.toNat) rfl rfl (own_gs ho hS) Q26 rfl (by have h9:=hv _ (List.mem_of_getElem? P56); omega)) G2<|D.t 7 rfl (by kernel_rfl) (fun _ hS=>R1.ldLab rfl (own_gs ho hS) (by have h9:=hv _ (List.mem_of_getElem? P56); omega) tyP3) G2<|D.z 8 rfl (by kernel_rfl) rfl G2<|D.t 9 rfl (by kernel_rfl) (fun _ hS=>R1.fieldAt rfl tyF42_1) G2<|D.t 10 rfl (by kernel_rfl) (fun _ hS=>R1.loadFld rfl (hb3_s.gr hS) rfl tyP37) G2<|D.z 11 rfl (by kernel_rfl) rfl G2<|D.t 12 rfl (by kernel_rfl) (fun _ hS=>R1.atLay (j:=k) rfl rfl (Lay.gr ht hS) Q37 rfl (by omega)) G2<|D.t 13 rfl (by kernel_rfl) (fun _ hS=>R1.fieldAddr rfl tyF47_0) G2 ?_
  obtain ⟨z65,cs65,P65,V65,ds65,rfl,vn65,vd65,rfl,I65,H65⟩:=Lay.elemQ ht (j:=k) (by omega);obtain ⟨A65,c65,rfl⟩:=I65.form;obtain ⟨B65,e65,rfl⟩:=H65.form
  refine D.t 14 rfl (by kernel_rfl) (fun _ hS=>(R1.loadEF rfl (SlE.gr V65 hS) rfl tyP3).asV (v:=.int .i64 ((z65.v.toNat:Nat):Int)) (by have h9:=hv _ (List.mem_of_getElem? P65); congr 1; omega)) G2<|D.t 15 rfl (by kernel_rfl) (fun _ hS=>R1.atOwn (i:=z65.v.toNat) rfl rfl (own_gs ho hS) Q26 rfl (by have h9:=hv _ (List.mem_of_getElem? P65); omega)) G2<|D.t 16 rfl (by kernel_rfl) (fun _ hS=>R1.ldLab rfl (own_gs ho hS) (by have h9:=hv _ (List.mem_of_getElem? P65); omega) tyP3) G2<|D.t 17 rfl (by kernel_rfl) (fun _ hS=>R1.assign rfl) G2<|D.t 18 rfl (by kernel_rfl) (fun _ hS=>R1.assign rfl) G2<|D.done (by decide +kernel) ?_ _
  refine X.seq<|W.sr<|L.k rfl<|L.k rfl<|L.v ((R1.minI rfl rfl).as (j:=(((min (lab (apW l ((vsOf c).take k)) z56.v.toNat) (lab (apW l ((vsOf c).take k)) z65.v.toNat)):Nat):Int)) (by unfold lab; omega)) rfl<|L.k rfl<|L.k rfl<|L.v ((R1.maxI rfl rfl).as (j:=(((max (lab (apW l ((vsOf c).take k)) z56.v.toNat) (lab (apW l ((vsOf c).take k)) z65.v.toNat)):Nat):Int)) (by unfold lab; omega)) rfl<|L.b rfl<|L.b rfl ?_
  refine L.z<|W.sr<|L.b rfl<|L.z<|W.block ?_
  have hll:=hlk.len
  refine W.loop (ι:=Nat) (fun j=>[(0,v),(3,.pointer (some ⟨g3,0,none⟩)),(7,.int .i64 (k:Int)),(10,.int .i64 (((min (lab (apW l ((vsOf c).take k)) z56.v.toNat) (lab (apW l ((vsOf c).take k)) z65.v.toNat)):Nat):Int)),(11,.int .i64 (((max (lab (apW l ((vsOf c).take k)) z56.v.toNat) (lab (apW l ((vsOf c).take k)) z65.v.toNat)):Nat):Int)),(12,.int .i64 (j:Int))]) (fun j w_=>j≤n∧World.ownsRow w_ B 3 1 v n (ints (mapTo (apW l ((vsOf c).take k)) z56.v.toNat z65.v.toNat j))∧Lay rdT (g3 :: (ownL v ++ N9)) w_ (.slice T9 c.ts.length t9) c.ts∧Blk w_ g3 42 #[.int .i64 c.st,.slice T9 c.ts.length t9,kb,kn,kd]∧Mod (ownL v) w w_) (fun j=>n - j) 0 ?_ ?_ ?_
  · repeat' constructor
  ·
   exact ⟨Nat.zero_le _,by rw [mapTo_zero]; exact ho,ht,E3,C0⟩
  rintro j w7 ⟨hj,ho,ht,E3,C0⟩
  refine W.seq<|W.sr<|L.k rfl<|L.k rfl<|L.v (R1.lenOwn rfl ho Q26) rfl<|L.lt rfl rfl<|L.z<|W.cond rfl ?_ ?_
  ·
   intro J77
   try simp only [bq,ne_eq] at J77
   refine W.skip<|X.seq<|W.seq<|W.block<|W.sr<|L.k rfl<|L.k rfl<|L.v (R1.atOwn (i:=j) rfl rfl ho Q26 rfl (by omega)) rfl<|L.v (R1.ldLab rfl ho (by omega) tyP3) rfl<|L.k rfl ?_
   refine L.v (R1.eq rfl rfl) rfl<|L.z<|W.cond rfl ?_ ?_
   ·
    intro J85
    try simp only [bq,ne_eq] at J85
    refine W.region<|L.k rfl<|L.k rfl<|L.k rfl<|L.v (R1.atOwn (i:=j) rfl rfl ho Q26 rfl (by omega)) rfl<|L.storeLab rfl rfl ho (by omega) tyP3 ?_
    intro w8 ho' C8
    replace ht:=ht.mod C8 (by first | exact mem_own | (intro b hb; simp [hb]));replace E3:=Blk.ownfar E3 C8 hno_ho_g3;replace C0:=C0.trans C8;clear C8;replace ho:=ho'; clear ho'
    refine L.nil<|X.blockEnd<|X.seq<|W.region<|L.k rfl<|L.inc rfl rfl (by omega)<|L.b rfl<|L.nil<|X.next (j + 1) ?_ ?_ ?_
    · repeat' constructor
    ·
     have hmg:=mapTo_get (l:=(apW l ((vsOf c).take k))) (a:=z56.v.toNat) (b:=z65.v.toNat) (j:=j) (by omega)
     refine ⟨by omega,?_,ht,E3,C0⟩
     first | (rw [mapTo_set (by omega) (by omega)] at ho; exact ho) | (rw [← mapTo_skip (by omega) (by omega)]; exact ho)
    first | omega | (dsimp only; omega)
   intro J85
   try simp only [bq,ne_eq] at J85
   refine W.skip<|X.blockEnd<|X.seq<|W.region<|L.k rfl<|L.inc rfl rfl (by omega)<|L.b rfl<|L.nil<|X.next (j + 1) ?_ ?_ ?_
   · repeat' constructor
   ·
    have hmg:=mapTo_get (l:=(apW l ((vsOf c).take k))) (a:=z56.v.toNat) (b:=z65.v.toNat) (j:=j) (by omega)
    refine ⟨by omega,?_,ht,E3,C0⟩
    first | (rw [mapTo_set (by omega) (by omega)] at ho; exact ho) | (rw [← mapTo_skip (by omega) (by omega)]; exact ho)
   first | omega | (dsimp only; omega)
  intro J77
  try simp only [bq,ne_eq] at J77
  obtain rfl:n=j:=by omega
  refine W.exit<|X.thenExit<|X.nextExit<|X.here<|X.blockEnd<|X.seq<|W.region<|L.k rfl<|L.inc rfl rfl (by omega)<|L.b rfl<|L.nil ?_
  refine X.next (k + 1) ?_ ?_ ?_
  · exact ⟨rfl,rfl,rfl,trivial⟩
  ·
   have hst:=take_step (l:=l) hk1 (vs_get P56) (vs_get P65);have hll:=hlk.len
   refine ⟨by omega,by omega,?_,?_,ht,E3,C0⟩
   · rw [hst.1]; exact hlk.jn (by have h9:=hv _ (List.mem_of_getElem? P56); omega) (by have h9:=hv _ (List.mem_of_getElem? P65); omega)
   rw [hst.1,← mapTo_all,hll]; exact ho
  first | omega | (dsimp only; omega)
 intro J48
 try simp only [bq,ne_eq] at J48
 refine W.brk<|W.sr<|L.b rfl<|L.z<|W.ret ?_
 refine X.result1 rfl (.tmp rfl .nil) ?_
 have hfull:(vsOf c).take k=vsOf c:=List.take_of_length_le (by omega)
 rw [hfull] at ho
 exact ⟨by rw [hok],by rw [if_pos hok]; exact ho,C0⟩
end Go.Proofs.YthoooolflmbmbaaGreat
