/- Walks: what the functions compute. -/
import Derived.Test.YtedokfpoajfflaaGreatDeE
namespace Go.Proofs.YtedokfpoajfflaaGreat
open Go.RowKit
set_option linter.unusedVariables false
set_option linter.unusedSimpArgs false
set_option maxRecDepth 10000
def setlZ (n:Nat) (cs:List CR) (o:List Int):List Int:=setl n (wsOf n cs) (stS cs) o
def ordZ5 (cs:List CR):List Nat:=ordS cs.length (stS cs)
def ordI (cs:List CR):List Int:=(ordZ5 cs).map fun (k:Nat)=>(k:Int)
def passK (n:Nat) (cs:List CR) (k:Nat) (o:List Int):List Int:=turnL n (wsOf n cs) (stS cs) ((ordZ5 cs).take k) o
def passZ (n:Nat) (cs:List CR) (o:List Int):List Int:=passF n (wsOf n cs) (stS cs) o
theorem ordI_len (cs:List CR):(ordI cs).length=(ordZ5 cs).length:=by simp [ordI]
theorem ordI_get {cs:List CR} {k i:Nat} (h:(ordZ5 cs)[k]?=some i) (hk:k<(ordI cs).length):(ordI cs)[k]=(i:Int):=by
  obtain ⟨h1,rfl⟩:=List.getElem?_eq_some_iff.1 h
  simp [ordI]
theorem passK_full (n:Nat) (cs:List CR) (o:List Int):passK n cs (ordZ5 cs).length o=passZ n cs o:=by
  unfold passK passZ passF
  rw [List.take_length,ws_len]
  rfl
theorem passK_snoc {n k i:Nat} {cs:List CR} (o:List Int) (h:(ordZ5 cs)[k]?=some i):passK n cs (k + 1) o=if (passK n cs k o).getD i 0=-1 then enfZ n cs (passK n cs k o) i else passK n cs k o:=by
  obtain ⟨h1,rfl⟩:=List.getElem?_eq_some_iff.1 h
  unfold passK turnL
  rw [List.take_succ_eq_append_getElem h1,List.foldl_append]
  rfl
theorem ord_lt {cs:List CR} {k i:Nat} (h:(ordZ5 cs)[k]?=some i):i<cs.length:=(mem_ordS.1 (List.mem_of_getElem? h)).1
section
variable {n:Nat} {cs:List CR} {o os a:List Int} {nil:Bool}
theorem ChoZ.turns (h:ChoZ n cs o) (L:List Nat) (hL:∀ i∈L,i<cs.length):ChoZ n cs (turnL n (wsOf n cs) (stS cs) L o):=⟨(h.c.turns h.st L (fun i hi=>by rw [ws_len]; exact hL i hi)).1,h.all,h.m⟩
theorem passK_cho (h:ChoZ n cs o) (k:Nat):ChoZ n cs (passK n cs k o):=h.turns _ (fun i hi=>(mem_ordS.1 (List.mem_of_mem_take hi)).1)
theorem passZ_cho (h:ChoZ n cs o):ChoZ n cs (passZ n cs o):=⟨(h.c.pass h.st).1,h.all,h.m⟩
theorem setlZ_cho (h:ChoZ n cs o):ChoZ n cs (setlZ n cs o):=⟨(setl_spec h.st h.c).1,h.all,h.m⟩
def MUZ (n:Nat) (cs:List CR) (o a:List Int) (nil:Bool):Nat:=2 * wgO (wsOf n cs) (stS cs) o + (if nil=false∧a=o then 0 else 1)
structure SI (n:Nat) (cs:List CR) (os o a:List Int) (nil:Bool):Prop where
  c:ChoZ n cs o
  e:setlZ n cs o=setlZ n cs os
  p:nil=false→o=passZ n cs a
theorem SI.start (h:ChoZ n cs os):SI n cs os os [] true:=⟨h,rfl,fun h=>by cases h⟩
theorem SI.next (h:SI n cs os o a nil) (hne:nil=true∨a≠o):SI n cs os (passZ n cs o) o false∧MUZ n cs (passZ n cs o) o false<MUZ n cs o a nil:=by
  refine ⟨⟨passZ_cho h.c,by rw [← h.e]; exact setl_step h.c.st h.c.c,fun _=>rfl⟩,?_⟩
  have e1:MUZ n cs o a nil=2 * wgO (wsOf n cs) (stS cs) o + 1:=by
    unfold MUZ
    rw [if_neg]
    rintro ⟨h1,h2⟩
    rcases hne with h3 | h3
    · rw [h1] at h3; cases h3
    exact h3 h2
  rw [e1]
  unfold MUZ
  rcases (h.c.c.pass h.c.st).2 with ⟨h1,_⟩ | h1
  · rw [show passZ n cs o=o from h1,if_pos ⟨rfl,rfl⟩]; omega
  have h2:wgO (wsOf n cs) (stS cs) (passZ n cs o)<wgO (wsOf n cs) (stS cs) o:=h1
  split <;> omega
theorem SI.stop (h:SI n cs os o o false):o=setlZ n cs os:=by
  have h1:=h.p rfl
  rw [← h.e]
  exact (setl_same h1.symm).symm
end
def setZ (z:Int) (cs:List CR) (os:List Int):List Int:=if ChB z cs os=true then setlZ z.toNat cs os else os
theorem Lay.moreL {α:Type} {R:Rd α} {M:List Nat} {w:World} {v:Value} {as_:List α}:∀ {G:List Nat},Lay R M w v as_→(∀ g∈G,w.heap.size≤g)→Lay R (G ++ M) w v as_
  | [],h,_=>h
  | g :: G,h,hG=>(Lay.moreL (G:=G) h (fun x hx=>hG x (by simp [hx]))).more (hG g (by simp))
theorem Lay.of_Z2 {w:World} {B el k:Nat} {v v1 v2:Value} {zs:List Int} (h:w.ownsRow B el 1 v k (intsZ zs)) (h1:Away v1 v) (h2:Away v2 v):Lay rdI (ownL v1 ++ (ownL v2 ++ [])) w v zs:=Lay.of_Z h (fun g hg hm=>by
  simp only [List.mem_append,List.not_mem_nil,or_false,ownL,Option.mem_toList] at hm
  rcases hm with hm | hm
  · exact h1 g hm hg
  exact h2 g hm hg)
theorem Lay.of_ints2 {w:World} {B el k:Nat} {v v1 v2:Value} {l:List Nat} (h:w.ownsRow B el 1 v k (ints l)) (h1:Away v1 v) (h2:Away v2 v):Lay rdI (ownL v1 ++ (ownL v2 ++ [])) w v (l.map fun (x:Nat)=>(x:Int)):=Lay.of_ints h (fun g hg hm=>by
  simp only [List.mem_append,List.not_mem_nil,or_false,ownL,Option.mem_toList] at hm
  rcases hm with hm | hm
  · exact h1 g hm hg
  exact h2 g hm hg)
theorem grew_some {w w':World} {v v':Value} (hG:Grew v w v' w') (h:v.ownBlock.isSome=true):v'.ownBlock.isSome=true:=by
  rcases hG.at_ with h1 | h1 <;> rw [h1]
  · exact h
  rfl
theorem slice_some {A:Option Addr} {k c:Nat} (h:(Value.slice A k c).ownBlock.isSome=true):A.isNone=false:=by
  cases A with
  | none=>simp [Value.ownBlock] at h
  | some a=>rfl
theorem c_chosenS {M:List Nat} {w:World} {vl vo:Value} {cs:List CR} {os:List Int} {z0:Int} (hL:Lay rdC M w vl cs) (hO:Lay rdI M w vo os) (hbd:Bd M w) (hsm:∀ c∈cs,SmC 1099511627776 c):Ret Tryz.prog 36 #[vl,vo,.int .i64 z0] w (fun r w'=>∃ p,r=.tuple #[p,.bool (ChB z0 cs os)]∧(ChB z0 cs os=true→∃ (n g:Nat) (v1 v2:Value),z0=(n:Int)∧p=.pointer (some ⟨g,0,none⟩)∧Blk w' g 82 #[vl,v1,v2]∧w'.ownsRow w.heap.size 3 1 v1 cs.length (intsZ os)∧w'.ownsRow w.heap.size 3 1 v2 n (intsZ (byN n os))∧w.heap.size≤g∧v1.ownBlock≠some g∧v2.ownBlock≠some g∧Away v1 v2∧Lay rdC (g :: (ownL v1 ++ (ownL v2 ++ M))) w' vl cs∧ChoZ n cs os∧n≤64)∧Mod [] w w') :=
  (c_chosen hL hO hbd hsm).mono fun r w' ⟨p,h1,h2,h3⟩=>⟨p,h1,fun hC=>by
    obtain ⟨g,v1,v2,e1,hb,ho1,ho2,hge,hn1,hn2,haw⟩:=h2 hC;obtain ⟨b1,b2,b3,b4,_⟩:=ChB_true hC
    obtain ⟨n,rfl⟩:∃ n:Nat,z0=(n:Int):=⟨z0.toNat,by omega⟩
    simp only [Int.toNat_natCast] at ho2
    rw [byZ_byN] at ho2
    refine ⟨n,g,v1,v2,rfl,e1,hb,own_congr ho1 b4 rfl,ho2,hge,hn1,hn2,haw,?_,ChoZ.of hC,by omega⟩
    have hL1:=((hL.moreL (G:=ownL v2) (fun g hg=>(own_ge ho2 g (by unfold ownL at hg; simpa using hg)).1)).moreL (G:=ownL v1) (fun g hg=>(own_ge ho1 g (by unfold ownL at hg; simpa using hg)).1)).more hge
    exact hL1.gr h3,h3⟩
theorem c_Settle {M : List Nat} {w : World} {vl vo : Value} {cs : List CR} {os : List Int} {z0 : Int} (hL : Lay rdC M w vl cs) (hO : Lay rdI M w vo os) (hbd : Bd M w) (hsm : ∀ c ∈ cs, SmC 1099511627776 c) (hol : os.length ≤ 1000000) (hcl : cs.length ≤ 20) :
    Ret Tryz.prog 18 #[vl,vo,.int .i64 z0] w (fun r w'=>∃ v,r=.tuple #[v,.bool (ChB z0 cs os)]∧w'.ownsRow w.heap.size 3 1 v os.length (intsZ (setZ z0 cs os))∧Mod [] w w'):=by
 obtain ⟨TL,tL,rfl⟩:=hL.form;obtain ⟨TO,tO,rfl⟩:=hO.form;have hmaxL:=hL.max; unfold maxLen at hmaxL;have hmaxO:=hO.max; unfold maxLen at hmaxO
 refine Ret.of (vs:=[.slice TL cs.length tL,.slice TO os.length tO,.int .i64 z0]) (n:=78) Tryz.func18 rfl rfl rfl rfl ?_
 have hm0:Mod [] w w:=Mod.refl _ _
 refine W.seq<|W.region<|L.box rfl rfl ?_
 intro g3 w1 hN3
 replace hL:=hL.new hN3;replace hO:=hO.new hN3;replace hbd:=hbd.new hN3;have hge_g3:=New.ge hN3 hm0.size;replace hm0:=hm0.trans (hN3.mod.mono (by simp));have hb3:=hN3.blk;clear hN3
 refine L.a rfl rfl<|L.a rfl rfl<|L.nil<|X.seq<|W.seq<|W.region<|L.v (R1.loadFld rfl hb3 rfl tyP22) rfl<|L.m rfl rfl<|L.m rfl rfl ?_
 have hlt3:=Blk.lt hb3;have hsz1:=hm0.size
 refine L.call rfl (c_chosenS hL hO hbd hsm) rfl ?_
 rintro _ w2 ⟨p19,rfl,hch9,hm2⟩
 replace hL:=hL.gr hm2;replace hO:=hO.gr hm2;replace hbd:=hbd.gr hm2;replace hm0:=hm0.trans hm2;replace hb3:=Blk.gr hb3 hm2;clear hm2
 refine L.m rfl rfl<|L.v (R1.extract rfl rfl) rfl<|L.v (R1.extract rfl rfl) rfl<|L.a rfl rfl<|L.a rfl rfl<|L.nil<|X.seq<|W.seq<|W.seq<|W.region<|L.m rfl rfl ?_
 refine L.v (R1.not rfl) rfl<|L.nil<|X.seq<|W.cond rfl ?_ ?_
 ·
  intro hc23
  simp only [Bool.not_eq_true',Bool.not_eq_false'] at hc23
  refine W.seq<|W.region<|L.m rfl rfl<|L.call rfl (c_CloneI hO hol) rfl ?_
  rintro v25 w3 ⟨ho25,hm3⟩
  replace ho25:=own_less ho25 hm0.size;replace hm0:=hm0.trans hm3;clear hm3
  refine L.a rfl rfl<|L.a rfl rfl<|L.nil<|X.seq<|W.ret<|X.thenRet<|X.result2 rfl (.tmp rfl (.tmp rfl .nil)) ?_
  rw [hc23]
  refine ⟨_,rfl,own_congr ho25 rfl (by unfold setZ; rw [hc23]; rfl),hm0⟩
 intro hc23
 simp only [Bool.not_eq_true',Bool.not_eq_false'] at hc23
 obtain ⟨n,g,v1,v2,rfl,rfl,hb,ho1,ho2,hge_g,hno_ho1_g,hno_ho2_g,haw,hLx,hC0,hn64⟩:=hch9 hc23;clear hch9;replace hL:=hLx; clear hLx
 have hne_g3_g:g3≠g:=by omega
 have hno_ho1_g3:v1.ownBlock≠some g3:=fun h9=>by have:=(own_ge ho1 _ h9).1; omega
 have hno_ho2_g3:v2.ownBlock≠some g3:=fun h9=>by have:=(own_ge ho2 _ h9).1; omega
 replace ho1:=own_less ho1 hsz1;replace ho2:=own_less ho2 hsz1
 refine W.skip<|X.seq<|W.seq<|W.region<|L.a rfl rfl<|L.nil<|X.seq<|W.seq<|W.seq<|W.region<|L.v (R1.loadFld rfl hb3 rfl tyP22) rfl ?_
 refine L.v (R1.lenLay rfl hL tyS22) rfl<|L.m rfl rfl<|L.nil<|X.seq<|W.block<|W.loop (ι:=Nat × Value) (fun (i,u)=>[(3,.pointer (some ⟨g3,0,none⟩)),(8,.pointer (some ⟨g,0,none⟩)),(10,u),(27,.int .i64 ((cs.length:Nat):Int)),(28,.int .i64 ((i:Nat):Int))]) (fun (i,u) w_=>Blk w_ g 82 #[.slice TL cs.length tL,v1,v2]∧Lay rdC (ownL u ++ (g3 :: (ownL v1 ++ (ownL v2 ++ M)))) w_ (.slice TL cs.length tL) cs∧Blk w_ g3 22 #[.slice TL cs.length tL]∧w_.ownsRow w.heap.size 3 1 v1 cs.length (intsZ os)∧w_.ownsRow w.heap.size 3 1 v2 n (intsZ (byN n os))∧Away v1 v2∧w_.ownsRow w.heap.size 3 1 u i (ints (List.range i))∧Away v1 u∧Away v2 u∧u.ownBlock≠some g∧u.ownBlock≠some g3∧i≤cs.length∧Mod [] w w_) (fun (i,u)=>cs.length - i) (0,.slice none 0 0) ?_ ?_ ?_
 · exact ⟨rfl,rfl,rfl,rfl,rfl,trivial⟩
 ·
  exact ⟨hb,hL.su,hb3,ho1,ho2,haw,own_nil _ _ _ _,Away.nil _ _,Away.nil _ _,by simp [Value.ownBlock],by simp [Value.ownBlock],Nat.zero_le _,hm0⟩
 rintro ⟨i,u⟩ w4 ⟨hb,hL,hb3,ho1,ho2,haw,ho,haw1,haw2,hno_ho_g,hno_ho_g3,hi,hm0⟩
 refine W.seq<|W.region<|L.v (R1.lt rfl rfl) rfl<|L.nil<|X.seq<|W.seq<|W.cond rfl ?_ ?_
 ·
  intro hc29
  try simp only [bq,ne_eq] at hc29
  refine W.skip<|X.seq<|W.seq<|W.block<|W.seq<|W.region<|L.m rfl rfl<|L.a rfl rfl<|L.nil<|X.seq<|W.region ?_
  refine L.m rfl rfl<|L.m rfl rfl<|L.build1 rfl rfl tyS29 tyZ3 rfl ?_
  intro g33 w5 hN33
  replace hb:=Blk.gr hb hN33.mod;replace hL:=hL.gr hN33.mod;replace hb3:=Blk.gr hb3 hN33.mod;replace ho1:=own_gr ho1 hN33.mod (by simp);replace ho2:=own_gr ho2 hN33.mod (by simp);replace ho:=own_gr ho hN33.mod (by simp);replace hm0:=hm0.trans hN33.mod
  have hrow:Sl [] w5 1 (.slice (some ⟨g33,0,none⟩) 1 1) 1 [.int .i64 ((i:Nat):Int)]:=Sl.of_blk hN33.blk 0 (Nat.le_refl _) (by decide) rfl (by simp) (fun j hj=>by simp)
  clear hN33
  refine L.append rfl rfl ho hrow (by simp [Value.oneCell']) tyS29 tyZ3 (by omega) (by unfold maxLen; omega) hm0.size rfl ?_
  intro v34 w6 ho34' hG34
  have haw1_:=Away.grew haw1 hG34 ho1;have haw2_:=Away.grew haw2 hG34 ho2;have hnn_g:=hG34.ne hno_ho_g hb;replace hb:=Blk.grew hb hG34 hno_ho_g;replace hno_ho_g:=hnn_g;replace hL:=hL.grew2 hG34 (by first | exact mem_own | (intro b hb; simp [hb]));have hnn_g3:=hG34.ne hno_ho_g3 hb3;replace hb3:=Blk.grew hb3 hG34 hno_ho_g3;replace hno_ho_g3:=hnn_g3;replace ho1:=own_away (s':=1) (el':=0) (k':=0) (B':=0) (ys:=[]) ho1 hG34.mod (by first | assumption | exact Away.symm (by assumption));replace ho2:=own_away (s':=1) (el':=0) (k':=0) (B':=0) (ys:=[]) ho2 hG34.mod (by first | assumption | exact Away.symm (by assumption));replace hm0:=Mod.oldOwn hm0 hG34.mod ho;replace haw1:=haw1_; clear haw1_;replace haw2:=haw2_; clear haw2_;replace ho:=ho34'; clear ho34';clear hG34
  refine L.a rfl rfl<|L.nil<|X.blockEnd<|X.seq<|W.region<|L.v (R1.addI (b:=1) rfl rfl (by omega)) rfl<|L.m rfl rfl<|L.nil<|X.next (i + 1,v34) ?_ ?_ ?_
  · exact ⟨rfl,rfl,rfl,rfl,rfl,trivial⟩
  ·
   exact ⟨hb,hL.su,hb3,ho1,ho2,haw,own_congr ho rfl (by simp [ints,List.range_succ]),haw1,haw2,hno_ho_g,hno_ho_g3,by omega,hm0⟩
  first | omega | (dsimp only; omega)
 intro hc29
 try simp only [bq,ne_eq] at hc29
 obtain rfl:i=cs.length:=by omega
 refine W.exit<|X.thenExit<|X.nextExit<|X.here<|X.seq<|W.seq<|W.region<|L.m rfl rfl<|L.v (R1.makeFunc rfl rfl) rfl ?_
 have hT9:CmpT Tryz.prog _ 39 [.pointer (some ⟨g3,0,none⟩)] cs.length (stS cs) (ownL u):=fun w1 a b ha hb9 hm=>c_cmpF (Blk.ownfar hb3 hm hno_ho_g3) (hL.mod hm mem_own) ha hb9
 refine L.call rfl (c_SortStable ho hT9 hcl) rfl ?_
 rintro _ w7 ⟨L9,hL9,ho9,hm7⟩
 replace hb:=Blk.ownfar hb hm7 hno_ho_g;replace hL:=hL.mo hm7;replace hb3:=Blk.ownfar hb3 hm7 hno_ho_g3;replace ho1:=own_away (s':=1) (el':=0) (k':=0) (B':=0) (ys:=[]) ho1 hm7 (by first | assumption | exact Away.symm (by assumption));replace ho2:=own_away (s':=1) (el':=0) (k':=0) (B':=0) (ys:=[]) ho2 hm7 (by first | assumption | exact Away.symm (by assumption));replace hm0:=Mod.oldOwn hm0 hm7 ho;clear hm7;replace ho:=ho9;clear ho9
 obtain rfl:L9=ordZ5 cs:=hL9.eq (fun i hi=>by rw [stS_get (List.getElem?_eq_getElem hi)]; exact isC_st (hC0.all _ (List.getElem_mem hi)))
 refine L.nil<|X.seq<|W.seq<|W.seq<|W.region<|L.a rfl rfl<|L.nil<|X.seq<|W.block<|W.loop (ι:=List Int × List Int × Option Addr × Nat × Nat) (fun (o,a,A,l,c)=>[(8,.pointer (some ⟨g,0,none⟩)),(10,u),(12,.slice A l c)]) (fun (o,a,A,l,c) w_=>Blk w_ g 82 #[.slice TL cs.length tL,v1,v2]∧Lay rdC (ownL v1 ++ (ownL v2 ++ M)) w_ (.slice TL cs.length tL) cs∧Lay rdI (ownL v1 ++ (ownL v2 ++ [])) w_ u (ordI cs)∧w_.ownsRow w.heap.size 3 1 v1 cs.length (intsZ o)∧w_.ownsRow w.heap.size 3 1 v2 n (intsZ (byN n o))∧Away v1 v2∧(A.isNone=false→Lay rdI [] w_ (.slice A l c) a)∧SI n cs os o a A.isNone∧Mod [] w w_) (fun (o,a,A,l,c)=>MUZ n cs o a A.isNone) (os,[],none,0,0) ?_ ?_ ?_
 · exact ⟨rfl,rfl,rfl,trivial⟩
 ·
  have hOr:=Lay.of_ints2 ho haw1 haw2
  exact ⟨hb,hL.su,hOr.su,ho1,ho2,haw,(fun h=>by cases h),SI.start hC0,hm0⟩
 rintro ⟨o,a,A,l,c⟩ w8 ⟨hb,hL,hOr,ho1,ho2,haw,hA,hS,hm0⟩
 refine W.seq<|W.seq<|W.cut (ι:=Unit) (fun _=>[(8,.pointer (some ⟨g,0,none⟩)),(10,u),(12,.slice A l c),(49,.bool (decide (A.isNone=true∨a≠o)))]) (fun _ w_=>Blk w_ g 82 #[.slice TL cs.length tL,v1,v2]∧Lay rdC (ownL v1 ++ (ownL v2 ++ M)) w_ (.slice TL cs.length tL) cs∧Lay rdI (ownL v1 ++ (ownL v2 ++ [])) w_ u (ordI cs)∧w_.ownsRow w.heap.size 3 1 v1 cs.length (intsZ o)∧w_.ownsRow w.heap.size 3 1 v2 n (intsZ (byN n o))∧Away v1 v2∧Mod [] w w_) ?_ ?_
 ·
  refine W.region<|L.m rfl rfl<|L.v ((R1.nilSl rfl tyS29).asB (c:=A.isNone) (rfl)) rfl<|L.m rfl rfl ?_
  cases hgd41:A.isNone
  ·
   try simp only [bq,ne_eq] at hgd41
   refine L.on rfl rfl rfl (R1.move rfl) rfl<|L.on rfl rfl rfl (R1.move rfl) rfl<|L.on rfl rfl rfl (R1.nilCheck rfl) rfl<|L.on rfl rfl rfl (R1.fieldAt rfl tyF82_1) rfl<|L.on rfl rfl rfl ((R1.loadFld rfl hb rfl tyP29).asV (v:=v1) rfl) rfl<|L.callOn rfl rfl rfl rfl (c_EqualI (hA hgd41) (Lay.of_Z (M:=[]) ho1 (by simp))) rfl ?_
   rintro _ w9 ⟨rfl,hm9⟩
   replace hb:=Blk.gr hb hm9;replace hL:=hL.gr hm9;replace hOr:=hOr.gr hm9;replace ho1:=own_gr ho1 hm9 (by simp);replace ho2:=own_gr ho2 hm9 (by simp);replace hm0:=hm0.trans hm9;clear hm9
   refine L.on rfl rfl rfl (R1.not rfl) rfl<|L.v (R1.pickF rfl rfl) rfl<|L.nil<|X.join () ?_ ?_
   · exact ⟨rfl,rfl,rfl,congrArg (fun b=>some (Value.bool b)) (by simp),trivial⟩
   exact ⟨hb,hL.su,hOr.su,ho1,ho2,haw,hm0⟩
  try simp only [bq,ne_eq] at hgd41
  refine L.off rfl rfl rfl rfl rfl<|L.off rfl rfl rfl rfl rfl<|L.off rfl rfl rfl rfl rfl<|L.off rfl rfl rfl rfl rfl<|L.off rfl rfl rfl rfl rfl<|L.off rfl rfl rfl rfl rfl<|L.off rfl rfl rfl rfl rfl<|L.v (R1.pickT rfl rfl) rfl<|L.nil<|X.join () ?_ ?_
  · exact ⟨rfl,rfl,rfl,congrArg (fun b=>some (Value.bool b)) (by simp),trivial⟩
  exact ⟨hb,hL.su,hOr.su,ho1,ho2,haw,hm0⟩
 rintro _ wj ⟨hb,hL,hOr,ho1,ho2,haw,hm0⟩
 refine X.seq<|W.cond rfl ?_ ?_
 ·
  intro hc49
  try simp only [bq,ne_eq] at hc49
  refine W.skip<|X.seq<|W.block<|W.seq<|W.region<|L.buildEmpty tyS29 rfl ?_
  intro g50 w10 hN50
  have hoA:World.ownsRow w10 w.heap.size 3 1 (.slice (some ⟨g50,0,none⟩) 0 0) 0 []:=⟨rfl,.inr ⟨g50,0,#[],rfl,New.ge hN50 hm0.size,hN50.blk,Nat.le_refl _,by decide,rfl,rfl⟩⟩
  have hno_hoA_g:(Value.slice (some ⟨g50,0,none⟩) 0 0).ownBlock≠some g:=own_ne_new' (hb.ne_ hN50)
  replace hb:=Blk.gr hb hN50.mod;replace hL:=hL.new hN50;replace hOr:=hOr.new hN50
  have haw_ho1_hoA:Away _ (.slice (some ⟨g50,0,none⟩) 0 0):=own_away_new ho1 hN50
  replace ho1:=own_gr ho1 hN50.mod (by simp)
  have haw_ho2_hoA:Away _ (.slice (some ⟨g50,0,none⟩) 0 0):=own_away_new ho2 hN50
  replace ho2:=own_gr ho2 hN50.mod (by simp);replace hm0:=hm0.trans (hN50.mod.mono (by simp));clear hN50
  obtain ⟨v50,hv_v50⟩:∃ v,v=Value.slice (some ⟨g50,0,none⟩) 0 0:=⟨_,rfl⟩
  have hol_v50:ownL v50=[g50]:=by rw [hv_v50]; rfl
  have hsome_v50:v50.ownBlock.isSome=true:=by rw [hv_v50]; rfl
  rw [← hv_v50] at hoA ⊢
  rw [← hv_v50] at hno_hoA_g
  replace hL:=hL.sub (of_cons hol_v50);replace hOr:=hOr.sub (of_cons hol_v50)
  rw [← hv_v50] at haw_ho1_hoA
  rw [← hv_v50] at haw_ho2_hoA
  clear hv_v50 hol_v50
  refine L.m rfl rfl<|L.v (R1.nilCheck rfl) rfl<|L.v (R1.fieldAt rfl tyF82_1) rfl<|L.v ((R1.loadFld rfl hb rfl tyP29).asV (v:=v1) rfl) rfl ?_
  have hrow:=Lay.rowI (Lay.of_Z (M:=[]) ho1 (by simp));have hlo:=hS.c.len
  refine L.append rfl rfl hoA hrow (intsZ_one o) tyS29 tyZ3 (by omega) (by unfold maxLen; omega) hm0.size rfl ?_
  intro v55 w11 hoA' hG55
  have haw_ho1_hoA_:=Away.grew haw_ho1_hoA hG55 ho1;have haw_ho2_hoA_:=Away.grew haw_ho2_hoA hG55 ho2;have hnn_g:=hG55.ne hno_hoA_g hb;replace hb:=Blk.grew hb hG55 hno_hoA_g;replace hno_hoA_g:=hnn_g;replace hL:=hL.grew2 hG55 (by first | exact mem_own | (intro b hb; simp [hb]));replace hOr:=hOr.grew2 hG55 (by first | exact mem_own | (intro b hb; simp [hb]));replace ho1:=own_away (s':=1) (el':=0) (k':=0) (B':=0) (ys:=[]) ho1 hG55.mod (by first | assumption | exact Away.symm (by assumption));replace ho2:=own_away (s':=1) (el':=0) (k':=0) (B':=0) (ys:=[]) ho2 hG55.mod (by first | assumption | exact Away.symm (by assumption));replace hm0:=Mod.oldOwn hm0 hG55.mod hoA;replace haw_ho1_hoA:=haw_ho1_hoA_; clear haw_ho1_hoA_;replace haw_ho2_hoA:=haw_ho2_hoA_; clear haw_ho2_hoA_;replace hoA:=hoA'; clear hoA';have hgrew:=hG55;clear hG55;have hs55:=grew_some hgrew hsome_v50;obtain ⟨A55,k55,c55,rfl⟩:=own_form' hoA;have hn55:=slice_some hs55;have hA5:=Lay.of_Z2 (zs:=o) (own_congr hoA rfl rfl) haw_ho1_hoA haw_ho2_hoA
  refine L.a rfl rfl<|L.nil<|X.seq<|W.seq<|W.region<|L.m rfl rfl<|L.v (R1.lenLay rfl hOr tyS29) rfl<|L.m rfl rfl<|L.nil<|X.seq<|W.block ?_
  refine W.loop (ι:=Nat) (fun k=>[(8,.pointer (some ⟨g,0,none⟩)),(10,u),(12,.slice A55 k55 c55),(56,u),(57,.int .i64 (((ordI cs).length:Nat):Int)),(58,.int .i64 ((k:Nat):Int))]) (fun k w_=>Blk w_ g 82 #[.slice TL cs.length tL,v1,v2]∧Lay rdC (ownL v1 ++ (ownL v2 ++ M)) w_ (.slice TL cs.length tL) cs∧Lay rdI (ownL v1 ++ (ownL v2 ++ [])) w_ u (ordI cs)∧Lay rdI (ownL v1 ++ (ownL v2 ++ [])) w_ (.slice A55 k55 c55) o∧w_.ownsRow w.heap.size 3 1 v1 cs.length (intsZ (passK n cs k o))∧w_.ownsRow w.heap.size 3 1 v2 n (intsZ (byN n (passK n cs k o)))∧Away v1 v2∧k≤(ordZ5 cs).length∧Mod [] w w_) (fun k=>(ordZ5 cs).length - k) 0 ?_ ?_ ?_
  · exact ⟨rfl,rfl,rfl,rfl,rfl,rfl,trivial⟩
  ·
   exact ⟨hb,hL.su,hOr.su,hA5.su,ho1,ho2,haw,Nat.zero_le _,hm0⟩
  rintro k w12 ⟨hb,hL,hOr,hA5,ho1,ho2,haw,hk,hm0⟩
  refine W.seq<|W.region<|L.v (R1.lt rfl rfl) rfl<|L.nil<|X.seq<|W.seq<|W.cond rfl ?_ ?_
  ·
   intro hc59
   try simp only [bq,ne_eq] at hc59
   have hmax9:=hOr.max; unfold maxLen at hmax9
   obtain ⟨i,hip⟩:∃ i,(ordZ5 cs)[k]?=some i:=⟨_,List.getElem?_eq_getElem (by rw [ordI_len] at hc59; omega)⟩
   have hsn:=passK_snoc (n:=n) o hip
   refine W.skip<|X.seq<|W.seq<|W.block<|W.seq<|W.region<|L.v (R1.atLay (j:=k) rfl rfl hOr tyS29 rfl (by omega)) rfl<|L.v (R1.loadLI rfl hOr tyP3 (by omega) (ordI_get hip _)) rfl<|L.a rfl rfl<|L.nil<|X.seq ?_
   refine W.seq<|W.region<|L.m rfl rfl<|L.v (R1.nilCheck rfl) rfl<|L.v (R1.fieldAt rfl tyF82_1) rfl<|L.v ((R1.loadFld rfl hb rfl tyP29).asV (v:=v1) rfl) rfl<|L.m rfl rfl<|L.v (R1.atOwn (i:=i) rfl rfl ho1 tyS29 rfl (ord_lt hip)) rfl<|L.v (R1.ldZ rfl ho1 (ord_lt hip) tyP3) rfl<|L.v (R1.eq rfl rfl) rfl<|L.nil ?_
   refine X.seq<|W.cond rfl ?_ ?_
   ·
    intro hc69
    try simp only [bq,ne_eq] at hc69
    refine W.region<|L.m rfl rfl<|L.m rfl rfl<|L.call rfl (c_enforces hb (hL.su) ho1 ho2 haw hno_ho1_g hno_ho2_g (passK_cho hS.c k) (ord_lt hip) hc69) rfl ?_
    rintro _ w13 ⟨ho1x,ho2x,hm13⟩
    replace hb:=Blk.ownfar2 hb hm13 hno_ho1_g hno_ho2_g;replace hL:=hL.mod hm13 (by first | exact mem_own2 | (intro b hb; simp only [List.mem_append,List.mem_cons] at hb ⊢; grind));replace hOr:=hOr.mod hm13 (by first | exact mem_own2 | (intro b hb; simp only [List.mem_append,List.mem_cons] at hb ⊢; grind));replace hA5:=hA5.mod hm13 (by first | exact mem_own2 | (intro b hb; simp only [List.mem_append,List.mem_cons] at hb ⊢; grind));replace hm0:=Mod.oldOwn2 hm0 hm13 ho1 ho2;clear hm13;replace ho1:=ho1x;replace ho2:=ho2x;clear ho1x ho2x
    refine L.nil<|X.blockEnd<|X.seq<|W.region<|L.v (R1.addI (b:=1) rfl rfl (by omega)) rfl<|L.m rfl rfl<|L.nil<|X.next (k + 1) ?_ ?_ ?_
    · exact ⟨rfl,rfl,rfl,rfl,rfl,rfl,trivial⟩
    ·
     rw [if_pos hc69] at hsn
     exact ⟨hb,hL.su,hOr.su,hA5.su,by rw [hsn]; exact ho1,by rw [hsn]; exact ho2,haw,by rw [ordI_len] at hc59; omega,hm0⟩
    rw [ordI_len] at hc59; omega
   intro hc69
   try simp only [bq,ne_eq] at hc69
   refine W.skip<|X.blockEnd<|X.seq<|W.region<|L.v (R1.addI (b:=1) rfl rfl (by omega)) rfl<|L.m rfl rfl<|L.nil<|X.next (k + 1) ?_ ?_ ?_
   · exact ⟨rfl,rfl,rfl,rfl,rfl,rfl,trivial⟩
   ·
    rw [if_neg hc69] at hsn
    exact ⟨hb,hL.su,hOr.su,hA5.su,by rw [hsn]; exact ho1,by rw [hsn]; exact ho2,haw,by rw [ordI_len] at hc59; omega,hm0⟩
   rw [ordI_len] at hc59; omega
  intro hc59
  try simp only [bq,ne_eq] at hc59
  rw [ordI_len] at hc59
  obtain rfl:k=(ordZ5 cs).length:=by omega
  rw [passK_full] at ho1 ho2
  refine W.exit<|X.thenExit<|X.nextExit<|X.here<|X.blockEnd ?_
  obtain ⟨hS2,hmu⟩:=hS.next hc49
  refine X.next (passZ n cs o,o,A55,k55,c55) ?_ ?_ ?_
  · exact ⟨rfl,rfl,rfl,trivial⟩
  ·
   exact ⟨hb,hL.su,hOr.su,ho1,ho2,haw,(fun _=>hA5.sub (by simp)),by rw [hn55]; exact hS2,hm0⟩
  dsimp only; rw [hn55]; exact hmu
 intro hc49
 try simp only [bq,ne_eq] at hc49
 refine W.exit<|X.thenExit<|X.nextExit<|X.here<|X.seq<|W.seq<|W.region<|L.m rfl rfl<|L.v (R1.nilCheck rfl) rfl<|L.v (R1.fieldAt rfl tyF82_1) rfl<|L.v ((R1.loadFld rfl hb rfl tyP29).asV (v:=v1) rfl) rfl ?_
 refine L.a rfl rfl<|L.a rfl rfl<|L.nil<|X.seq<|W.ret<|X.result2 rfl (.tmp rfl (.tmp rfl .nil)) ?_
 rw [hc23]
 have hnn:A.isNone=false:=by cases h9:A.isNone with | false=>rfl | true=>exact absurd (.inl h9) hc49
 have hae:a=o:=by apply Classical.byContradiction; intro h9; exact hc49 (.inr h9)
 subst hae
 rw [hnn] at hS
 have hst:=hS.stop
 refine ⟨_,rfl,own_congr ho1 hC0.len.symm (by unfold setZ; rw [if_pos hc23,Int.toNat_natCast,← hst]),hm0⟩
def ordP (cs:List CR) (s i:Nat):List Nat:=((List.range s).flatMap fun (t:Nat)=>(List.range cs.length).filter fun j=>decide ((stS cs).getD j 0=(t:Int))) ++ (List.range i).filter fun j=>decide ((stS cs).getD j 0=(s:Int))
def passP (n:Nat) (cs:List CR) (s i:Nat) (o:List Int):List Int:=turnL n (wsOf n cs) (stS cs) (ordP cs s i) o
theorem passP_next (n:Nat) (cs:List CR) (s:Nat) (o:List Int):passP n cs s cs.length o=passP n cs (s + 1) 0 o:=by
  unfold passP
  congr 1
  unfold ordP
  rw [List.range_succ]
  simp
theorem passP_full (n:Nat) (cs:List CR) (o:List Int):passP n cs 5 0 o=passZ n cs o:=by
  unfold passP passZ passF
  rw [ws_len]
  congr 1
  unfold ordP ordS
  simp
theorem passP_snoc {n s i:Nat} {cs:List CR} {z:CR} (o:List Int) (h:cs[i]?=some z):passP n cs s (i + 1) o=if z.st=(s:Int) then (if (passP n cs s i o).getD i 0=-1 then enfZ n cs (passP n cs s i o) i else passP n cs s i o) else passP n cs s i o:=by
  unfold passP ordP
  rw [List.range_succ,List.filter_append,← List.append_assoc]
  by_cases e:z.st=(s:Int)
  · have e2:List.filter (fun j=>decide ((stS cs).getD j 0=(s:Int))) [i]=[i]:=by
      simp only [List.filter_cons,stS_get h,e,decide_true,if_true,List.filter_nil]
    rw [e2,if_pos e]
    unfold turnL
    rw [List.foldl_append]
    rfl
  have e2:List.filter (fun j=>decide ((stS cs).getD j 0=(s:Int))) [i]=[]:=by
    simp only [List.filter_cons,stS_get h,e,decide_false,List.filter_nil]; rfl
  rw [e2,if_neg e,List.append_nil]
section
variable {n:Nat} {cs:List CR} {o os a:List Int} {nil:Bool}
theorem passP_cho (h:ChoZ n cs o) {s i:Nat} (hi:i≤cs.length):ChoZ n cs (passP n cs s i o):=h.turns _ (fun j hj=>by
  unfold ordP at hj
  simp only [List.mem_append,List.mem_flatMap,List.mem_filter,List.mem_range] at hj
  rcases hj with ⟨_,_,h1,_⟩ | ⟨h1,_⟩ <;> omega)
theorem ChoZ.low (h:ChoZ n cs o) {i:Nat} (hi:i<cs.length):-1≤o.getD i 0:=by
  have hl:=h.len
  have hg:o[i]?=some (o.getD i 0):=by rw [List.getD_eq_getElem?_getD,List.getElem?_eq_getElem (by omega)]; rfl
  exact h.c.lo _ (List.mem_of_getElem? hg)
theorem SI.stop2 (h:SI n cs os o a nil) (e:o=passZ n cs o):o=setlZ n cs os:=by
  rw [← h.e]
  exact (setl_same e.symm).symm
theorem SI.next2 (h:SI n cs os o a nil) (e:o≠passZ n cs o):SI n cs os (passZ n cs o) [] true∧wgO (wsOf n cs) (stS cs) (passZ n cs o)<wgO (wsOf n cs) (stS cs) o:=by
  refine ⟨⟨passZ_cho h.c,by rw [← h.e]; exact setl_step h.c.st h.c.c,fun h=>by cases h⟩,?_⟩
  rcases (h.c.c.pass h.c.st).2 with ⟨h1,_⟩ | h1
  · exact absurd h1.symm e
  exact h1
end
theorem Lay.of_Z1 {w:World} {B el k:Nat} {v v1:Value} {zs:List Int} (h:w.ownsRow B el 1 v k (intsZ zs)) (h1:Away v1 v):Lay rdI (ownL v1 ++ []) w v zs:=Lay.of_Z h (fun g hg hm=>by
  simp only [List.append_nil,ownL,Option.mem_toList] at hm
  exact h1 g hm hg)
theorem c_r13_Settle {M : List Nat} {w : World} {vl vo : Value} {cs : List CR} {os : List Int} {z0 : Int} (hL : Lay rdC M w vl cs) (hO : Lay rdI M w vo os) (hbd : Bd M w) (hsm : ∀ c ∈ cs, SmC 1099511627776 c) (hol : os.length ≤ 1000000) :
    Ret Tryz.prog 23 #[vl,vo,.int .i64 z0] w (fun r w'=>∃ v,r=.tuple #[v,.bool (ChB z0 cs os)]∧w'.ownsRow w.heap.size 3 1 v os.length (intsZ (setZ z0 cs os))∧Mod [] w w'):=by
 obtain ⟨TL,tL,rfl⟩:=hL.form;obtain ⟨TO,tO,rfl⟩:=hO.form;have hmaxL:=hL.max; unfold maxLen at hmaxL;have hmaxO:=hO.max; unfold maxLen at hmaxO
 refine Ret.of (vs:=[.slice TL cs.length tL,.slice TO os.length tO,.int .i64 z0]) (n:=59) Tryz.func23 rfl rfl rfl rfl ?_
 have hm0:Mod [] w w:=Mod.refl _ _
 refine W.seq<|W.region<|L.a rfl rfl<|L.a rfl rfl<|L.nil<|X.seq<|W.seq<|W.seq<|W.region<|L.m rfl rfl<|L.m rfl rfl ?_
 refine L.m rfl rfl<|L.call rfl (c_r13_Is hL hO hbd hsm) rfl ?_
 rintro _ w1 ⟨rfl,hm1⟩
 replace hL:=hL.gr hm1;replace hO:=hO.gr hm1;replace hbd:=hbd.gr hm1;replace hm0:=hm0.trans hm1;clear hm1
 refine L.v (R1.not rfl) rfl<|L.nil<|X.seq<|W.cond rfl ?_ ?_
 ·
  intro hc16
  simp only [Bool.not_eq_true',Bool.not_eq_false'] at hc16
  refine W.seq<|W.region<|L.buildEmpty tyS29 rfl ?_
  intro g17 w2 hN17
  have ho1:World.ownsRow w2 w.heap.size 3 1 (.slice (some ⟨g17,0,none⟩) 0 0) 0 []:=⟨rfl,.inr ⟨g17,0,#[],rfl,New.ge hN17 hm0.size,hN17.blk,Nat.le_refl _,by decide,rfl,rfl⟩⟩
  replace hL:=hL.new hN17;replace hO:=hO.new hN17;replace hbd:=hbd.new hN17;replace hm0:=hm0.trans (hN17.mod.mono (by simp));clear hN17
  obtain ⟨v17,hv_v17⟩:∃ v,v=Value.slice (some ⟨g17,0,none⟩) 0 0:=⟨_,rfl⟩
  have hol_v17:ownL v17=[g17]:=by rw [hv_v17]; rfl
  rw [← hv_v17] at ho1 ⊢
  replace hL:=hL.sub (of_cons hol_v17);replace hO:=hO.sub (of_cons hol_v17);replace hbd:=hbd.sub (of_cons hol_v17);clear hv_v17 hol_v17
  refine L.m rfl rfl ?_
  have hrow:=Lay.rowI hO
  refine L.append rfl rfl ho1 hrow (intsZ_one _) tyS29 tyZ3 (by omega) (by unfold maxLen; omega) hm0.size rfl ?_
  intro v19 w3 ho1' hG19
  replace hL:=hL.grew2 hG19 (by first | exact mem_own | (intro b hb; simp [hb]));replace hO:=hO.grew2 hG19 (by first | exact mem_own | (intro b hb; simp [hb]));replace hbd:=hbd.grew2 hG19 (by first | exact mem_own | (intro b hb; simp [hb]));replace hm0:=Mod.oldOwn hm0 hG19.mod ho1;replace ho1:=ho1'; clear ho1';clear hG19
  refine L.a rfl rfl<|L.a rfl rfl<|L.nil<|X.seq<|W.ret<|X.thenRet<|X.result2 rfl (.tmp rfl (.tmp rfl .nil)) ?_
  rw [hc16]
  refine ⟨_,rfl,own_congr ho1 (by simp) (by unfold setZ; rw [hc16]; simp),hm0⟩
 intro hc16
 simp only [Bool.not_eq_true',Bool.not_eq_false'] at hc16
 obtain ⟨b1,b2,b3,b4,_⟩:=ChB_true hc16
 obtain ⟨n,rfl⟩:∃ n:Nat,z0=(n:Int):=⟨z0.toNat,by omega⟩
 have hC0:ChoZ n cs os:=ChoZ.of hc16
 have hn64:n≤64:=by omega
 refine W.skip<|X.seq<|W.seq<|W.region<|L.buildEmpty tyS29 rfl ?_
 intro g20 w4 hN20
 have ho1:World.ownsRow w4 w.heap.size 3 1 (.slice (some ⟨g20,0,none⟩) 0 0) 0 []:=⟨rfl,.inr ⟨g20,0,#[],rfl,New.ge hN20 hm0.size,hN20.blk,Nat.le_refl _,by decide,rfl,rfl⟩⟩
 replace hL:=hL.new hN20;replace hO:=hO.new hN20;replace hm0:=hm0.trans (hN20.mod.mono (by simp));clear hN20
 obtain ⟨v20,hv_v20⟩:∃ v,v=Value.slice (some ⟨g20,0,none⟩) 0 0:=⟨_,rfl⟩
 have hol_v20:ownL v20=[g20]:=by rw [hv_v20]; rfl
 rw [← hv_v20] at ho1 ⊢
 replace hL:=hL.sub (of_cons hol_v20);replace hO:=hO.sub (of_cons hol_v20);clear hv_v20 hol_v20
 refine L.m rfl rfl ?_
 have hrow:=Lay.rowI hO
 refine L.append rfl rfl ho1 hrow (intsZ_one _) tyS29 tyZ3 (by omega) (by unfold maxLen; omega) hm0.size rfl ?_
 intro v22 w5 ho1' hG22
 replace hL:=hL.grew2 hG22 (by first | exact mem_own | (intro b hb; simp [hb]));replace hO:=hO.grew2 hG22 (by first | exact mem_own | (intro b hb; simp [hb]));replace hm0:=Mod.oldOwn hm0 hG22.mod ho1;replace ho1:=ho1'; clear ho1';clear hG22
 refine L.a rfl rfl<|L.nil<|X.seq<|W.block<|W.loop (ι:=List Int) (fun o=>[(0,.slice TL cs.length tL),(2,.int .i64 ((n:Nat):Int)),(8,v22)]) (fun o w_=>Lay rdC (ownL v22 ++ M) w_ (.slice TL cs.length tL) cs∧w_.ownsRow w.heap.size 3 1 v22 cs.length (intsZ o)∧SI n cs os o [] true∧Mod [] w w_) (fun o=>wgO (wsOf n cs) (stS cs) o) os ?_ ?_ ?_
 · exact ⟨rfl,rfl,rfl,trivial⟩
 ·
  exact ⟨hL.su,own_congr ho1 (by simp; omega) (by simp),SI.mk hC0 rfl (fun h=>by cases h),hm0⟩
 rintro o w6 ⟨hL,ho1,hS,hm0⟩
 refine W.block<|W.seq<|W.region<|L.buildEmpty tyS29 rfl ?_
 intro g23 w7 hN23
 have hoA:World.ownsRow w7 w.heap.size 3 1 (.slice (some ⟨g23,0,none⟩) 0 0) 0 []:=⟨rfl,.inr ⟨g23,0,#[],rfl,New.ge hN23 hm0.size,hN23.blk,Nat.le_refl _,by decide,rfl,rfl⟩⟩
 replace hL:=hL.new hN23
 have haw_ho1_hoA:Away _ (.slice (some ⟨g23,0,none⟩) 0 0):=own_away_new ho1 hN23
 replace ho1:=own_gr ho1 hN23.mod (by simp);replace hm0:=hm0.trans (hN23.mod.mono (by simp));clear hN23
 obtain ⟨v23,hv_v23⟩:∃ v,v=Value.slice (some ⟨g23,0,none⟩) 0 0:=⟨_,rfl⟩
 have hol_v23:ownL v23=[g23]:=by rw [hv_v23]; rfl
 rw [← hv_v23] at hoA ⊢
 replace hL:=hL.sub (of_cons hol_v23)
 rw [← hv_v23] at haw_ho1_hoA
 clear hv_v23 hol_v23
 refine L.m rfl rfl ?_
 have hlo:=hS.c.len;have hrow:=Lay.rowI (Lay.of_Z (M:=[]) ho1 (by simp))
 refine L.append rfl rfl hoA hrow (intsZ_one _) tyS29 tyZ3 (by omega) (by unfold maxLen; omega) hm0.size rfl ?_
 intro v25 w8 hoA' hG25
 have haw_ho1_hoA_:=Away.grew haw_ho1_hoA hG25 ho1;replace hL:=hL.grew2 hG25 (by first | exact mem_own | (intro b hb; simp [hb]));replace ho1:=own_away (s':=1) (el':=0) (k':=0) (B':=0) (ys:=[]) ho1 hG25.mod (by first | assumption | exact Away.symm (by assumption));replace hm0:=Mod.oldOwn hm0 hG25.mod hoA;replace haw_ho1_hoA:=haw_ho1_hoA_; clear haw_ho1_hoA_;replace hoA:=hoA'; clear hoA';clear hG25;have hA5:=Lay.of_Z1 (zs:=o) (own_congr hoA rfl rfl) haw_ho1_hoA
 refine L.a rfl rfl<|L.nil<|X.seq<|W.seq<|W.seq<|W.region<|L.a rfl rfl<|L.nil<|X.seq<|W.block<|W.loop (ι:=Nat) (fun s=>[(0,.slice TL cs.length tL),(2,.int .i64 ((n:Nat):Int)),(8,v22),(9,v25),(10,.int .i64 ((s:Nat):Int))]) (fun s w_=>Lay rdC (ownL v22 ++ M) w_ (.slice TL cs.length tL) cs∧Lay rdI (ownL v22 ++ []) w_ v25 o∧w_.ownsRow w.heap.size 3 1 v22 cs.length (intsZ (passP n cs s 0 o))∧s≤5∧Mod [] w w_) (fun s=>5 - s) 0 ?_ ?_ ?_
 · exact ⟨rfl,rfl,rfl,rfl,rfl,trivial⟩
 ·
  exact ⟨hL.su,hA5.su,ho1,Nat.zero_le _,hm0⟩
 rintro s w9 ⟨hL,hA5,ho1,hs,hm0⟩
 refine W.seq<|W.seq<|W.region<|L.m rfl rfl<|L.v (R1.le rfl rfl) rfl<|L.nil<|X.seq<|W.cond rfl ?_ ?_
 ·
  intro hc27
  try simp only [bq,ne_eq] at hc27
  refine W.skip<|X.seq<|W.seq<|W.block<|W.seq<|W.region<|L.a rfl rfl<|L.nil<|X.seq<|W.block<|W.loop (ι:=Nat) (fun i=>[(0,.slice TL cs.length tL),(2,.int .i64 ((n:Nat):Int)),(8,v22),(9,v25),(10,.int .i64 ((s:Nat):Int)),(11,.int .i64 ((i:Nat):Int))]) (fun i w_=>Lay rdC (ownL v22 ++ M) w_ (.slice TL cs.length tL) cs∧Lay rdI (ownL v22 ++ []) w_ v25 o∧w_.ownsRow w.heap.size 3 1 v22 cs.length (intsZ (passP n cs s i o))∧i≤cs.length∧Mod [] w w_) (fun i=>cs.length - i) 0 ?_ ?_ ?_
  · exact ⟨rfl,rfl,rfl,rfl,rfl,rfl,trivial⟩
  ·
   exact ⟨hL.su,hA5.su,ho1,Nat.zero_le _,hm0⟩
  rintro i w10 ⟨hL,hA5,ho1,hi,hm0⟩
  refine W.seq<|W.seq<|W.region<|L.m rfl rfl<|L.m rfl rfl<|L.v (R1.lenLay rfl hL tyS22) rfl<|L.v (R1.lt rfl rfl) rfl<|L.nil<|X.seq<|W.cond rfl ?_ ?_
  ·
   intro hc33
   try simp only [bq,ne_eq] at hc33
   refine W.skip<|X.seq<|W.seq<|W.block<|W.seq<|W.region<|L.m rfl rfl<|L.m rfl rfl<|L.v (R1.atLay (j:=i) rfl rfl hL tyS22 rfl (by omega)) rfl<|L.v (R1.fieldAddr rfl tyF47_0) rfl ?_
   obtain ⟨z40,cs40,hz40,hE40,vt40,ds40,rfl,ht40,vn40,vd40,rfl,hn40,hd40⟩:=Lay.elemQ hL (j:=i) (by omega);obtain ⟨T40,t40,rfl⟩:=ht40.form;obtain ⟨A40,c40,rfl⟩:=hn40.form;obtain ⟨B40,e40,rfl⟩:=hd40.form
   refine L.v (R1.loadEF rfl hE40 rfl tyP3) rfl ?_
   have hsn:=passP_snoc (n:=n) (s:=s) o hz40
   refine L.m rfl rfl<|L.v ((R1.eq rfl rfl).asB (c:=(decide (z40.st=(s:Int)))) (rfl)) rfl<|L.m rfl rfl ?_
   cases hgd43:(decide (z40.st=(s:Int)))
   ·
    try simp only [bq,ne_eq] at hgd43
    refine L.off rfl rfl rfl rfl rfl<|L.off rfl rfl rfl rfl rfl<|L.off rfl rfl rfl rfl rfl<|L.off rfl rfl rfl rfl rfl<|L.off rfl rfl rfl rfl rfl<|L.v (R1.pickF rfl rfl) rfl<|L.nil<|X.seq<|W.condF rfl<|W.skip<|X.blockEnd ?_
    refine X.seq<|W.region<|L.m rfl rfl<|L.v (R1.addI (b:=1) rfl rfl (by omega)) rfl<|L.a rfl rfl<|L.nil<|X.next (i + 1) ?_ ?_ ?_
    · exact ⟨rfl,rfl,rfl,rfl,rfl,rfl,trivial⟩
    ·
     rw [if_neg hgd43] at hsn
     exact ⟨hL.su,hA5.su,by rw [hsn]; exact ho1,by omega,hm0⟩
    first | omega | (dsimp only; omega)
   try simp only [bq,ne_eq] at hgd43
   refine L.on rfl rfl rfl (R1.move rfl) rfl<|L.on rfl rfl rfl (R1.move rfl) rfl<|L.on rfl rfl rfl (R1.atOwn (i:=i) rfl rfl ho1 tyS29 rfl (by omega)) rfl<|L.on rfl rfl rfl (R1.ldZ rfl ho1 (by omega) tyP3) rfl<|L.on rfl rfl rfl ((R1.lt rfl rfl).asB (c:=(decide ((passP n cs s i o).getD i 0<0))) (rfl)) rfl<|L.v (R1.pickT rfl rfl) rfl<|L.nil<|X.seq<|W.cond rfl ?_ ?_
   ·
    intro hc49
    try simp only [bq,ne_eq] at hc49
    refine W.region<|L.m rfl rfl<|L.m rfl rfl<|L.m rfl rfl<|L.m rfl rfl ?_
    have hC9:=passP_cho (s:=s) hS.c hi;have hlow9:=hC9.low (show i<cs.length by omega)
    have hno9:(passP n cs s i o).getD i 0=-1:=by omega
    refine L.call rfl (c_r13_enforce hL ho1 hC9 (show i<cs.length by omega) hno9 hn64) rfl ?_
    rintro _ w11 ⟨ho1x,hm11⟩
    replace hL:=hL.mo hm11;replace hA5:=hA5.mo hm11;replace hm0:=Mod.oldOwn hm0 hm11 ho1;replace ht40:=ht40.mo hm11;replace hn40:=hn40.mo hm11;replace hd40:=hd40.mo hm11;clear hm11;replace ho1:=ho1x;clear ho1x
    refine L.nil<|X.blockEnd<|X.seq<|W.region<|L.m rfl rfl<|L.v (R1.addI (b:=1) rfl rfl (by omega)) rfl<|L.a rfl rfl<|L.nil<|X.next (i + 1) ?_ ?_ ?_
    · exact ⟨rfl,rfl,rfl,rfl,rfl,rfl,trivial⟩
    ·
     rw [if_pos hgd43,if_pos hno9] at hsn
     exact ⟨hL.su,hA5.su,by rw [hsn]; exact ho1,by omega,hm0⟩
    first | omega | (dsimp only; omega)
   intro hc49
   try simp only [bq,ne_eq] at hc49
   refine W.skip<|X.blockEnd<|X.seq<|W.region<|L.m rfl rfl<|L.v (R1.addI (b:=1) rfl rfl (by omega)) rfl<|L.a rfl rfl<|L.nil<|X.next (i + 1) ?_ ?_ ?_
   · exact ⟨rfl,rfl,rfl,rfl,rfl,rfl,trivial⟩
   ·
    rw [if_pos hgd43,if_neg (by omega)] at hsn
    exact ⟨hL.su,hA5.su,by rw [hsn]; exact ho1,by omega,hm0⟩
   first | omega | (dsimp only; omega)
  intro hc33
  try simp only [bq,ne_eq] at hc33
  obtain rfl:i=cs.length:=by omega
  rw [passP_next] at ho1
  refine W.exit<|X.thenExit<|X.nextExit<|X.here<|X.blockEnd<|X.seq<|W.region<|L.m rfl rfl<|L.v (R1.addI (b:=1) rfl rfl (by omega)) rfl<|L.a rfl rfl<|L.nil ?_
  refine X.next (s + 1) ?_ ?_ ?_
  · exact ⟨rfl,rfl,rfl,rfl,rfl,trivial⟩
  ·
   exact ⟨hL.su,hA5.su,ho1,by omega,hm0⟩
  first | omega | (dsimp only; omega)
 intro hc27
 try simp only [bq,ne_eq] at hc27
 obtain rfl:s=5:=by omega
 rw [passP_full] at ho1
 refine W.exit<|X.thenExit<|X.nextExit<|X.here<|X.seq<|W.seq<|W.region<|L.m rfl rfl<|L.m rfl rfl<|L.call rfl (c_same hA5 (Lay.of_Z (M:=[]) ho1 (by simp)) (by rw [hS.c.len,(passZ_cho hS.c).len])) rfl ?_
 rintro _ w12 ⟨rfl,hm12⟩
 replace hL:=hL.gr hm12;replace ho1:=own_gr ho1 hm12 (by simp);replace hm0:=hm0.trans hm12;clear hm12
 refine L.nil<|X.seq<|W.cond rfl ?_ ?_
 ·
  intro hc57
  try simp only [bq,ne_eq] at hc57
  refine W.seq<|W.region<|L.m rfl rfl<|L.a rfl rfl<|L.a rfl rfl<|L.nil<|X.seq<|W.ret<|X.blockRet<|X.nextRet<|X.blockRet ?_
  refine X.result2 rfl (.tmp rfl (.tmp rfl .nil)) ?_
  rw [hc16]
  have hst:=hS.stop2 hc57
  refine ⟨_,rfl,own_congr ho1 hC0.len.symm (by unfold setZ; rw [if_pos hc16,Int.toNat_natCast,← hst,← hc57]),hm0⟩
 intro hc57
 try simp only [bq,ne_eq] at hc57
 refine W.skip<|X.blockEnd ?_
 obtain ⟨hS2,hmu⟩:=hS.next2 hc57
 refine X.next (passZ n cs o) ?_ ?_ ?_
 · exact ⟨rfl,rfl,rfl,trivial⟩
 ·
  exact ⟨hL.su,ho1,hS2,hm0⟩
 exact hmu
def walZ (z:Int) (cs:List CR) (os:List Int):List Int:=if ChB z cs os=true then (List.range z.toNat).map (strZ z.toNat cs os) else []
def blkZ (z:Int) (cs:List CR) (os:List Int) (i:Int):Bool:=decide (ChB z cs os=true∧0≤i∧i<(cs.length:Int)∧os.getD i.toNat 0=-1∧wkZ z.toNat cs os i.toNat []=none)
theorem strs_snoc (f:Nat→Int) (v:Nat):intsZ ((List.range v).map f) ++ [Value.int .i64 (f v)]=intsZ ((List.range (v + 1)).map f):=by simp [intsZ,List.range_succ]
theorem c_r13_Walk {M : List Nat} {w : World} {vl vo : Value} {cs : List CR} {os : List Int} {z0 : Int} (hL : Lay rdC M w vl cs) (hO : Lay rdI M w vo os) (hbd : Bd M w) (hsm : ∀ c ∈ cs, SmC 1099511627776 c) :
    Ret Tryz.prog 10 #[vl,vo,.int .i64 z0] w (fun r w'=>w'.ownsRow w.heap.size 3 1 r (walZ z0 cs os).length (intsZ (walZ z0 cs os))∧Mod [] w w'):=by
 obtain ⟨TL,tL,rfl⟩:=hL.form;obtain ⟨TO,tO,rfl⟩:=hO.form;have hmaxL:=hL.max; unfold maxLen at hmaxL;have hmaxO:=hO.max; unfold maxLen at hmaxO
 refine Ret.of (vs:=[.slice TL cs.length tL,.slice TO os.length tO,.int .i64 z0]) (n:=27) Tryz.func10 rfl rfl rfl rfl ?_
 have hm0:Mod [] w w:=Mod.refl _ _
 refine W.seq<|W.region<|L.a rfl rfl<|L.nil<|X.seq<|W.seq<|W.seq<|W.region<|L.m rfl rfl<|L.m rfl rfl<|L.m rfl rfl ?_
 refine L.call rfl (c_r13_Is hL hO hbd hsm) rfl ?_
 rintro _ w1 ⟨rfl,hm1⟩
 replace hL:=hL.gr hm1;replace hO:=hO.gr hm1;replace hm0:=hm0.trans hm1;clear hm1
 refine L.v (R1.not rfl) rfl<|L.nil<|X.seq<|W.cond rfl ?_ ?_
 ·
  intro hc13
  simp only [Bool.not_eq_true',Bool.not_eq_false'] at hc13
  refine W.seq<|W.region<|L.a rfl rfl<|L.nil<|X.seq<|W.ret<|X.thenRet<|X.result1 rfl (.tmp rfl .nil) ?_
  have e9:walZ z0 cs os=[]:=by unfold walZ; rw [hc13]; rfl
  rw [e9]
  exact ⟨own_nil _ _ _ _,hm0⟩
 intro hc13
 simp only [Bool.not_eq_true',Bool.not_eq_false'] at hc13
 obtain ⟨b1,b2,b3,b4,_⟩:=ChB_true hc13
 obtain ⟨n,rfl⟩:∃ n:Nat,z0=(n:Int):=⟨z0.toNat,by omega⟩
 have hC0:ChoZ n cs os:=ChoZ.of hc13
 have hn64:n≤64:=by omega
 refine W.skip<|X.seq<|W.seq<|W.region<|L.a rfl rfl<|L.nil<|X.seq<|W.seq<|W.seq<|W.region<|L.a rfl rfl ?_
 refine L.nil<|X.seq<|W.block<|W.loop (ι:=Nat × Value) (fun (v,u)=>[(0,.slice TL cs.length tL),(1,.slice TO os.length tO),(2,.int .i64 ((n:Nat):Int)),(7,u),(8,.int .i64 ((v:Nat):Int))]) (fun (v,u) w_=>Lay rdC (ownL u ++ M) w_ (.slice TL cs.length tL) cs∧Lay rdI (ownL u ++ M) w_ (.slice TO os.length tO) os∧w_.ownsRow w.heap.size 3 1 u v (intsZ ((List.range v).map (strZ n cs os)))∧v≤n∧Mod [] w w_) (fun (v,u)=>n - v) (0,.slice none 0 0) ?_ ?_ ?_
 · exact ⟨rfl,rfl,rfl,rfl,rfl,trivial⟩
 ·
  exact ⟨hL.su,hO.su,own_nil _ _ _ _,Nat.zero_le _,hm0⟩
 rintro ⟨v,u⟩ w2 ⟨hL,hO,ho,hv,hm0⟩
 refine W.seq<|W.seq<|W.region<|L.m rfl rfl<|L.m rfl rfl<|L.v (R1.lt rfl rfl) rfl<|L.nil<|X.seq<|W.cond rfl ?_ ?_
 ·
  intro hc16
  try simp only [bq,ne_eq] at hc16
  refine W.skip<|X.seq<|W.seq<|W.block<|W.region<|L.m rfl rfl<|L.m rfl rfl<|L.m rfl rfl<|L.m rfl rfl<|L.call rfl (c_walk hL hO hC0 (show v<n by omega)) rfl ?_
  rintro _ w3 ⟨rfl,hm3⟩
  replace hL:=hL.gr hm3;replace hO:=hO.gr hm3;replace ho:=own_gr ho hm3 (by simp);replace hm0:=hm0.trans hm3;clear hm3
  refine L.build1 rfl rfl tyS29 tyZ3 rfl ?_
  intro g24 w4 hN24
  replace hL:=hL.gr hN24.mod;replace hO:=hO.gr hN24.mod;replace ho:=own_gr ho hN24.mod (by simp);replace hm0:=hm0.trans hN24.mod
  have hrow:Sl [] w4 1 (.slice (some ⟨g24,0,none⟩) 1 1) 1 [.int .i64 (strZ n cs os v)]:=Sl.of_blk hN24.blk 0 (Nat.le_refl _) (by decide) rfl (by simp) (fun j hj=>by simp)
  clear hN24
  refine L.append rfl rfl ho hrow (by simp [Value.oneCell']) tyS29 tyZ3 (by omega) (by unfold maxLen; omega) hm0.size rfl ?_
  intro v25 w5 ho25' hG25
  replace hL:=hL.grew2 hG25 (by first | exact mem_own | (intro b hb; simp [hb]));replace hO:=hO.grew2 hG25 (by first | exact mem_own | (intro b hb; simp [hb]));replace hm0:=Mod.oldOwn hm0 hG25.mod ho;replace ho:=ho25'; clear ho25';clear hG25
  refine L.a rfl rfl<|L.nil<|X.blockEnd<|X.seq<|W.region<|L.m rfl rfl<|L.v (R1.addI (b:=1) rfl rfl (by omega)) rfl<|L.a rfl rfl<|L.nil<|X.next (v + 1,v25) ?_ ?_ ?_
  · exact ⟨rfl,rfl,rfl,rfl,rfl,trivial⟩
  ·
   exact ⟨hL.su,hO.su,own_congr ho rfl (strs_snoc _ _),by omega,hm0⟩
  first | omega | (dsimp only; omega)
 intro hc16
 try simp only [bq,ne_eq] at hc16
 obtain rfl:n=v:=by omega
 refine W.exit<|X.thenExit<|X.nextExit<|X.here<|X.seq<|W.seq<|W.region<|L.m rfl rfl<|L.a rfl rfl<|L.nil<|X.seq ?_
 refine W.ret<|X.result1 rfl (.tmp rfl .nil) ?_
 have e9:walZ (n:Int) cs os=(List.range n).map (strZ n cs os):=by unfold walZ; rw [if_pos hc13,Int.toNat_natCast]
 rw [e9]
 exact ⟨own_congr ho (by simp) rfl,hm0⟩
end Go.Proofs.YtedokfpoajfflaaGreat
