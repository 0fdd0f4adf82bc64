/- Walks: what the functions compute. -/
import Derived.Test.YthoooolflmbmbaaGreatDeE
namespace Go.Proofs.YthoooolflmbmbaaGreat
open Go.RowKit
set_option linter.unusedVariables false
set_option linter.unusedSimpArgs false
set_option maxRecDepth 10000
def setlZ (n:Nat) (cs:List CR) (o:List Int):List Int:=setl n (wsOf n cs) (stS cs) o
def ordZ5 (cs:List CR):List Nat:=ordS cs.length (stS cs)
def ordI (cs:List CR):List Int:=(ordZ5 cs).map fun (k:Nat)=>(k:Int)
def passK (n:Nat) (cs:List CR) (k:Nat) (o:List Int):List Int:=turnL n (wsOf n cs) (stS cs) ((ordZ5 cs).take k) o
def passZ (n:Nat) (cs:List CR) (o:List Int):List Int:=passF n (wsOf n cs) (stS cs) o
theorem ordI_len (cs:List CR):(ordI cs).length=(ordZ5 cs).length:=by simp [ordI]
theorem ordI_get {cs:List CR} {k i:Nat} (h:(ordZ5 cs)[k]?=some i) (hk:k<(ordI cs).length):(ordI cs)[k]=(i:Int):=by
  obtain ⟨h1,rfl⟩:=List.getElem?_eq_some_iff.1 h
  simp [ordI]
theorem passK_full (n:Nat) (cs:List CR) (o:List Int):passK n cs (ordZ5 cs).length o=passZ n cs o:=by
  unfold passK passZ passF
  rw [List.take_length,ws_len]
  rfl
theorem passK_snoc {n k i:Nat} {cs:List CR} (o:List Int) (h:(ordZ5 cs)[k]?=some i):passK n cs (k + 1) o=if (passK n cs k o).getD i 0=-1 then enfZ n cs (passK n cs k o) i else passK n cs k o:=by
  obtain ⟨h1,rfl⟩:=List.getElem?_eq_some_iff.1 h
  unfold passK turnL
  rw [List.take_succ_eq_append_getElem h1,List.foldl_append]
  rfl
theorem ord_lt {cs:List CR} {k i:Nat} (h:(ordZ5 cs)[k]?=some i):i<cs.length:=(mem_ordS.1 (List.mem_of_getElem? h)).1
section
variable {n:Nat} {cs:List CR} {o os a:List Int} {nil:Bool}
theorem ChoZ.turns (h:ChoZ n cs o) (L:List Nat) (hL:∀ i∈L,i<cs.length):ChoZ n cs (turnL n (wsOf n cs) (stS cs) L o):=⟨(h.c.turns h.st L (fun i hi=>by rw [ws_len]; exact hL i hi)).1,h.all,h.m⟩
theorem passK_cho (h:ChoZ n cs o) (k:Nat):ChoZ n cs (passK n cs k o):=h.turns _ (fun i hi=>(mem_ordS.1 (List.mem_of_mem_take hi)).1)
theorem passZ_cho (h:ChoZ n cs o):ChoZ n cs (passZ n cs o):=⟨(h.c.pass h.st).1,h.all,h.m⟩
theorem setlZ_cho (h:ChoZ n cs o):ChoZ n cs (setlZ n cs o):=⟨(setl_spec h.st h.c).1,h.all,h.m⟩
def MUZ (n:Nat) (cs:List CR) (o a:List Int) (nil:Bool):Nat:=2 * wgO (wsOf n cs) (stS cs) o + (if nil=false∧a=o then 0 else 1)
structure SI (n:Nat) (cs:List CR) (os o a:List Int) (nil:Bool):Prop where
  c:ChoZ n cs o
  e:setlZ n cs o=setlZ n cs os
  p:nil=false→o=passZ n cs a
theorem SI.start (h:ChoZ n cs os):SI n cs os os [] true:=⟨h,rfl,fun h=>by cases h⟩
theorem SI.next (h:SI n cs os o a nil) (hne:nil=true∨a≠o):SI n cs os (passZ n cs o) o false∧MUZ n cs (passZ n cs o) o false<MUZ n cs o a nil:=by
  refine ⟨⟨passZ_cho h.c,by rw [← h.e]; exact setl_step h.c.st h.c.c,fun _=>rfl⟩,?_⟩
  have e1:MUZ n cs o a nil=2 * wgO (wsOf n cs) (stS cs) o + 1:=by
    unfold MUZ
    rw [if_neg]
    rintro ⟨h1,h2⟩
    rcases hne with h3 | h3
    · rw [h1] at h3; cases h3
    exact h3 h2
  rw [e1]
  unfold MUZ
  rcases (h.c.c.pass h.c.st).2 with ⟨h1,_⟩ | h1
  · rw [show passZ n cs o=o from h1,if_pos ⟨rfl,rfl⟩]; omega
  have h2:wgO (wsOf n cs) (stS cs) (passZ n cs o)<wgO (wsOf n cs) (stS cs) o:=h1
  split <;> omega
theorem SI.stop (h:SI n cs os o o false):o=setlZ n cs os:=by
  have h1:=h.p rfl
  rw [← h.e]
  exact (setl_same h1.symm).symm
end
def setZ (z:Int) (cs:List CR) (os:List Int):List Int:=if ChB z cs os=true then setlZ z.toNat cs os else os
theorem Lay.moreL {α:Type} {R:Rd α} {M:List Nat} {w:World} {v:Value} {as_:List α}:∀ {G:List Nat},Lay R M w v as_→(∀ g∈G,w.heap.size≤g)→Lay R (G ++ M) w v as_
  | [],h,_=>h
  | g :: G,h,hG=>(Lay.moreL (G:=G) h (fun x hx=>hG x (by simp [hx]))).more (hG g (by simp))
theorem Lay.of_Z2 {w:World} {B el k:Nat} {v v1 v2:Value} {zs:List Int} (h:w.ownsRow B el 1 v k (intsZ zs)) (h1:Away v1 v) (h2:Away v2 v):Lay rdI (ownL v1 ++ (ownL v2 ++ [])) w v zs:=Lay.of_Z h (fun g hg hm=>by
  simp only [List.mem_append,List.not_mem_nil,or_false,ownL,Option.mem_toList] at hm
  rcases hm with hm | hm
  · exact h1 g hm hg
  exact h2 g hm hg)
theorem Lay.of_ints2 {w:World} {B el k:Nat} {v v1 v2:Value} {l:List Nat} (h:w.ownsRow B el 1 v k (ints l)) (h1:Away v1 v) (h2:Away v2 v):Lay rdI (ownL v1 ++ (ownL v2 ++ [])) w v (l.map fun (x:Nat)=>(x:Int)):=Lay.of_ints h (fun g hg hm=>by
  simp only [List.mem_append,List.not_mem_nil,or_false,ownL,Option.mem_toList] at hm
  rcases hm with hm | hm
  · exact h1 g hm hg
  exact h2 g hm hg)
theorem grew_some {w w':World} {v v':Value} (hG:Grew v w v' w') (h:v.ownBlock.isSome=true):v'.ownBlock.isSome=true:=by
  rcases hG.at_ with h1 | h1 <;> rw [h1]
  · exact h
  rfl
theorem slice_some {A:Option Addr} {k c:Nat} (h:(Value.slice A k c).ownBlock.isSome=true):A.isNone=false:=by
  cases A with
  | none=>simp [Value.ownBlock] at h
  | some a=>rfl
theorem c_chosenS {M:List Nat} {w:World} {vl vo:Value} {cs:List CR} {os:List Int} {z0:Int} (hL:Lay rdC M w vl cs) (hO:Lay rdI M w vo os) (hbd:Bd M w) (hsm:∀ c∈cs,SmC 1099511627776 c):Ret Tryz.prog 33 #[vl,vo,.int .i64 z0] w (fun r w'=>∃ p,r=.tuple #[p,.bool (ChB z0 cs os)]∧(ChB z0 cs os=true→∃ (n g:Nat) (v1 v2:Value),z0=(n:Int)∧p=.pointer (some ⟨g,0,none⟩)∧Blk w' g 78 #[vl,v1,v2]∧w'.ownsRow w.heap.size 3 1 v1 cs.length (intsZ os)∧w'.ownsRow w.heap.size 3 1 v2 n (intsZ (byN n os))∧w.heap.size≤g∧v1.ownBlock≠some g∧v2.ownBlock≠some g∧Away v1 v2∧Lay rdC (g :: (ownL v1 ++ (ownL v2 ++ M))) w' vl cs∧ChoZ n cs os∧n≤64)∧Mod [] w w') :=
  (c_chosen hL hO hbd hsm).mono fun r w' ⟨p,h1,h2,h3⟩=>⟨p,h1,fun hC=>by
    obtain ⟨g,v1,v2,e1,hb,O1,O2,hge,I1,I2,haw⟩:=h2 hC;obtain ⟨b1,b2,b3,b4,_⟩:=ChB_true hC
    obtain ⟨n,rfl⟩:∃ n:Nat,z0=(n:Int):=⟨z0.toNat,by omega⟩
    simp only [Int.toNat_natCast] at O2
    rw [byZ_byN] at O2
    refine ⟨n,g,v1,v2,rfl,e1,hb,own_congr O1 b4 rfl,O2,hge,I1,I2,haw,?_,ChoZ.of hC,by omega⟩
    have hL1:=((hL.moreL (G:=ownL v2) (fun g hg=>(own_ge O2 g (by unfold ownL at hg; simpa using hg)).1)).moreL (G:=ownL v1) (fun g hg=>(own_ge O1 g (by unfold ownL at hg; simpa using hg)).1)).more hge
    exact hL1.gr h3,h3⟩
theorem c_Settle {M : List Nat} {w : World} {vl vo : Value} {cs : List CR} {os : List Int} {z0 : Int} (hL : Lay rdC M w vl cs) (hO : Lay rdI M w vo os) (hbd : Bd M w) (hsm : ∀ c ∈ cs, SmC 1099511627776 c) (hol : os.length ≤ 1000000) (hcl : cs.length ≤ 20) :
    Ret Tryz.prog 16 #[vl,vo,.int .i64 z0] w (fun r w'=>∃ v,r=.tuple #[v,.bool (ChB z0 cs os)]∧w'.ownsRow w.heap.size 3 1 v os.length (intsZ (setZ z0 cs os))∧Mod [] w w'):=by
 obtain ⟨TL,tL,rfl⟩:=hL.form;obtain ⟨TO,tO,rfl⟩:=hO.form;have hmaxL:=hL.max; unfold maxLen at hmaxL;have hmaxO:=hO.max; unfold maxLen at hmaxO
 refine Ret.of (vs:=[.slice TL cs.length tL,.slice TO os.length tO,.int .i64 z0]) (n:=78) Tryz.func16 rfl rfl rfl rfl ?_
 have C0:Mod [] w w:=Mod.refl _ _
 refine W.sr<|L.box rfl rfl ?_
 intro g3 w1 D3
 replace hL:=hL.new D3;replace hO:=hO.new D3;replace hbd:=hbd.new D3;have K3:=New.ge D3 C0.size;replace C0:=C0.tn D3;have E3:=D3.blk;clear D3
 refine L.b rfl<|L.b rfl<|L.z<|W.sr<|L.lF rfl E3 rfl tyP22<|L.k rfl<|L.k rfl ?_
 have hlt3:=Blk.lt E3;have hsz1:=C0.size
 refine L.c rfl (c_chosenS hL hO hbd hsm) ?_
 rintro _ w2 ⟨p19,rfl,hch9,C2⟩
 replace hL:=hL.gr C2;replace hO:=hO.gr C2;replace hbd:=hbd.gr C2;replace C0:=C0.trans C2;replace E3:=E3.gr C2;clear C2
 refine L.k rfl<|L.ex rfl rfl<|L.ex rfl rfl<|L.b rfl<|L.b rfl<|L.z<|W.seq<|W.sr<|L.k rfl ?_
 refine L.v (R1.not rfl) rfl<|L.z<|W.cond rfl ?_ ?_
 ·
  intro J23
  simp only [Bool.not_eq_true',Bool.not_eq_false'] at J23
  refine W.sr<|L.k rfl<|L.c rfl (c_CloneI hO hol) ?_
  rintro v25 w3 ⟨O25,C3⟩
  replace O25:=own_less O25 C0.size;replace C0:=C0.trans C3;clear C3
  refine L.b rfl<|L.b rfl<|L.z<|W.ret<|X.thenRet<|X.result2 rfl (.tmp rfl (.tmp rfl .nil)) ?_
  rw [J23]
  refine ⟨_,rfl,own_congr O25 rfl (by unfold setZ; rw [J23]; rfl),C0⟩
 intro J23
 simp only [Bool.not_eq_true',Bool.not_eq_false'] at J23
 obtain ⟨n,g,v1,v2,rfl,rfl,hb,O1,O2,hge_g,hno_ho1_g,hno_ho2_g,haw,hLx,hC0,I64⟩:=hch9 J23;clear hch9;replace hL:=hLx; clear hLx
 have hne_g3_g:g3≠g:=by omega
 have hno_ho1_g3:v1.ownBlock≠some g3:=fun h9=>by have:=(own_ge O1 _ h9).1; omega
 have hno_ho2_g3:v2.ownBlock≠some g3:=fun h9=>by have:=(own_ge O2 _ h9).1; omega
 replace O1:=own_less O1 hsz1;replace O2:=own_less O2 hsz1
 refine W.skip<|X.seq<|W.sr<|L.b rfl<|L.z<|W.seq<|W.sr<|L.lF rfl E3 rfl tyP22 ?_
 refine L.lL rfl hL Q22<|L.k rfl<|L.z<|W.block<|W.loop (ι:=Nat × Value) (fun (i,u)=>[(3,.pointer (some ⟨g3,0,none⟩)),(8,.pointer (some ⟨g,0,none⟩)),(10,u),(27,.int .i64 ((cs.length:Nat):Int)),(28,.int .i64 ((i:Nat):Int))]) (fun (i,u) w_=>Blk w_ g 78 #[.slice TL cs.length tL,v1,v2]∧Lay rdC (ownL u ++ (g3 :: (ownL v1 ++ (ownL v2 ++ M)))) w_ (.slice TL cs.length tL) cs∧Blk w_ g3 22 #[.slice TL cs.length tL]∧w_.ownsRow w.heap.size 3 1 v1 cs.length (intsZ os)∧w_.ownsRow w.heap.size 3 1 v2 n (intsZ (byN n os))∧Away v1 v2∧w_.ownsRow w.heap.size 3 1 u i (ints (List.range i))∧Away v1 u∧Away v2 u∧u.ownBlock≠some g∧u.ownBlock≠some g3∧i≤cs.length∧Mod [] w w_) (fun (i,u)=>cs.length - i) (0,.slice none 0 0) ?_ ?_ ?_
 · repeat' constructor
 ·
  exact ⟨hb,hL.su,E3,O1,O2,haw,own_nil _ _ _ _,Away.nil _ _,Away.nil _ _,by simp [Value.ownBlock],by simp [Value.ownBlock],Nat.zero_le _,C0⟩
 rintro ⟨i,u⟩ w4 ⟨hb,hL,E3,O1,O2,haw,ho,haw1,haw2,hno_ho_g,hno_ho_g3,hi,C0⟩
 refine W.sr<|L.lt rfl rfl<|L.z<|W.seq<|W.cond rfl ?_ ?_
 ·
  intro J29
  try simp only [bq,ne_eq] at J29
  refine W.skip<|X.seq<|W.seq<|W.block<|W.sr<|L.k rfl<|L.b rfl<|L.z<|W.region ?_
  refine L.k rfl<|L.k rfl<|L.build1 rfl rfl Q26 tyZ3 rfl ?_
  intro g33 w5 D33
  replace hb:=hb.gr D33.mod;replace hL:=hL.gr D33.mod;replace E3:=E3.gr D33.mod;replace O1:=own_gs O1 D33.mod;replace O2:=own_gs O2 D33.mod;replace ho:=own_gs ho D33.mod;replace C0:=C0.trans D33.mod
  have hrow:Sl [] w5 1 (.slice (some ⟨g33,0,none⟩) 1 1) 1 [.int .i64 ((i:Nat):Int)]:=Sl.of_blk D33.blk 0 (Nat.le_refl _) (by decide) rfl (by simp) (fun j hj=>by simp)
  clear D33
  refine L.append rfl rfl ho hrow (by simp [Value.oneCell']) Q26 tyZ3 (by omega) (by unfold maxLen; omega) C0.size rfl ?_
  intro v34 w6 O34' X34
  have haw1_:=Away.grew haw1 X34 O1;have haw2_:=Away.grew haw2 X34 O2;have hnn_g:=X34.ne hno_ho_g hb;replace hb:=Blk.grew hb X34 hno_ho_g;replace hno_ho_g:=hnn_g;replace hL:=hL.gw X34;have hnn_g3:=X34.ne hno_ho_g3 E3;replace E3:=Blk.grew E3 X34 hno_ho_g3;replace hno_ho_g3:=hnn_g3;replace O1:=own_away (s':=1) (el':=0) (k':=0) (B':=0) (ys:=[]) O1 X34.mod (by first | assumption | exact Away.symm (by assumption));replace O2:=own_away (s':=1) (el':=0) (k':=0) (B':=0) (ys:=[]) O2 X34.mod (by first | assumption | exact Away.symm (by assumption));replace C0:=Mod.oldOwn C0 X34.mod ho;replace haw1:=haw1_; clear haw1_;replace haw2:=haw2_; clear haw2_;replace ho:=O34'; clear O34';clear X34
  refine L.b rfl<|L.nil<|X.blockEnd<|X.seq<|W.region<|L.inc rfl rfl (by omega)<|L.k rfl<|L.nil<|X.next (i + 1,v34) ?_ ?_ ?_
  · repeat' constructor
  ·
   exact ⟨hb,hL.su,E3,O1,O2,haw,own_congr ho rfl (by simp [ints,List.range_succ]),haw1,haw2,hno_ho_g,hno_ho_g3,by omega,C0⟩
  first | omega | (dsimp only; omega)
 intro J29
 try simp only [bq,ne_eq] at J29
 obtain rfl:i=cs.length:=by omega
 refine W.brk<|W.sr<|L.k rfl<|L.v (R1.makeFunc rfl rfl) rfl ?_
 have hT9:CmpT Tryz.prog _ 36 [.pointer (some ⟨g3,0,none⟩)] cs.length (stS cs) (ownL u):=fun w1 a b ha E9 hm=>c_cmpF (Blk.ownfar E3 hm hno_ho_g3) (hL.mod hm mem_own) ha E9
 refine L.c rfl (c_SortStable ho hT9 hcl) ?_
 rintro _ w7 ⟨L9,hL9,O9,C7⟩
 replace hb:=Blk.ownfar hb C7 hno_ho_g;replace hL:=hL.mo C7;replace E3:=Blk.ownfar E3 C7 hno_ho_g3;replace O1:=own_away (s':=1) (el':=0) (k':=0) (B':=0) (ys:=[]) O1 C7 (by first | assumption | exact Away.symm (by assumption));replace O2:=own_away (s':=1) (el':=0) (k':=0) (B':=0) (ys:=[]) O2 C7 (by first | assumption | exact Away.symm (by assumption));replace C0:=Mod.oldOwn C0 C7 ho;clear C7;replace ho:=O9;clear O9
 obtain rfl:L9=ordZ5 cs:=hL9.eq (fun i hi=>by rw [stS_get (List.getElem?_eq_getElem hi)]; exact isC_st (hC0.all _ (List.getElem_mem hi)))
 refine L.z<|W.seq<|W.sr<|L.b rfl<|L.z<|W.block<|W.loop (ι:=List Int × List Int × Option Addr × Nat × Nat) (fun (o,a,A,l,c)=>[(8,.pointer (some ⟨g,0,none⟩)),(10,u),(12,.slice A l c)]) (fun (o,a,A,l,c) w_=>Blk w_ g 78 #[.slice TL cs.length tL,v1,v2]∧Lay rdC (ownL v1 ++ (ownL v2 ++ M)) w_ (.slice TL cs.length tL) cs∧Lay rdI (ownL v1 ++ (ownL v2 ++ [])) w_ u (ordI cs)∧w_.ownsRow w.heap.size 3 1 v1 cs.length (intsZ o)∧w_.ownsRow w.heap.size 3 1 v2 n (intsZ (byN n o))∧Away v1 v2∧(A.isNone=false→Lay rdI [] w_ (.slice A l c) a)∧SI n cs os o a A.isNone∧Mod [] w w_) (fun (o,a,A,l,c)=>MUZ n cs o a A.isNone) (os,[],none,0,0) ?_ ?_ ?_
 · exact ⟨rfl,rfl,rfl,trivial⟩
 ·
  have hOr:=Lay.of_ints2 ho haw1 haw2
  exact ⟨hb,hL.su,hOr.su,O1,O2,haw,(fun h=>by cases h),SI.start hC0,C0⟩
 rintro ⟨o,a,A,l,c⟩ w8 ⟨hb,hL,hOr,O1,O2,haw,hA,hS,C0⟩
 refine W.seq<|W.seq<|W.cut (ι:=Unit) (fun _=>[(8,.pointer (some ⟨g,0,none⟩)),(10,u),(12,.slice A l c),(49,.bool (decide (A.isNone=true∨a≠o)))]) (fun _ w_=>Blk w_ g 78 #[.slice TL cs.length tL,v1,v2]∧Lay rdC (ownL v1 ++ (ownL v2 ++ M)) w_ (.slice TL cs.length tL) cs∧Lay rdI (ownL v1 ++ (ownL v2 ++ [])) w_ u (ordI cs)∧w_.ownsRow w.heap.size 3 1 v1 cs.length (intsZ o)∧w_.ownsRow w.heap.size 3 1 v2 n (intsZ (byN n o))∧Away v1 v2∧Mod [] w w_) ?_ ?_
 ·
  refine W.region<|L.k rfl<|L.v ((R1.nilSl rfl Q26).asB (c:=A.isNone) (rfl)) rfl<|L.k rfl ?_
  cases W41:A.isNone
  ·
   try simp only [bq,ne_eq] at W41
   refine L.p rfl (R1.move rfl)<|L.p rfl (R1.move rfl)<|L.p rfl (R1.nilCheck rfl)<|L.p rfl (R1.fieldAt rfl tyF78_1)<|L.p rfl ((R1.loadFld rfl hb rfl tyP26).asV (v:=v1) rfl)<|L.callOn rfl rfl rfl rfl (c_EqualI (hA W41) (Lay.of_Z (M:=[]) O1 (by simp))) rfl ?_
   rintro _ w9 ⟨rfl,C9⟩
   replace hb:=hb.gr C9;replace hL:=hL.gr C9;replace hOr:=hOr.gr C9;replace O1:=own_gs O1 C9;replace O2:=own_gs O2 C9;replace C0:=C0.trans C9;clear C9
   refine L.p rfl (R1.not rfl)<|L.pF rfl rfl<|L.nil<|X.join () ?_ ?_
   · exact ⟨rfl,rfl,rfl,congrArg (fun b=>some (Value.bool b)) (by simp),trivial⟩
   exact ⟨hb,hL.su,hOr.su,O1,O2,haw,C0⟩
  try simp only [bq,ne_eq] at W41
  refine L.o rfl<|L.o rfl<|L.o rfl<|L.o rfl<|L.o rfl<|L.o rfl<|L.o rfl<|L.pT rfl rfl<|L.nil<|X.join () ?_ ?_
  · exact ⟨rfl,rfl,rfl,congrArg (fun b=>some (Value.bool b)) (by simp),trivial⟩
  exact ⟨hb,hL.su,hOr.su,O1,O2,haw,C0⟩
 rintro _ wj ⟨hb,hL,hOr,O1,O2,haw,C0⟩
 refine X.seq<|W.cond rfl ?_ ?_
 ·
  intro J49
  try simp only [bq,ne_eq] at J49
  refine W.skip<|X.seq<|W.block<|W.sr<|L.buildEmpty Q26 rfl ?_
  intro g50 w10 D50
  have hoA:World.ownsRow w10 w.heap.size 3 1 (.slice (some ⟨g50,0,none⟩) 0 0) 0 []:=⟨rfl,.inr ⟨g50,0,#[],rfl,New.ge D50 C0.size,D50.blk,Nat.le_refl _,by decide,rfl,rfl⟩⟩
  have hno_hoA_g:(Value.slice (some ⟨g50,0,none⟩) 0 0).ownBlock≠some g:=own_ne_new' (hb.ne_ D50)
  replace hb:=hb.gr D50.mod;replace hL:=hL.new D50;replace hOr:=hOr.new D50
  have haw_ho1_hoA:Away _ (.slice (some ⟨g50,0,none⟩) 0 0):=own_away_new O1 D50
  replace O1:=own_gs O1 D50.mod
  have haw_ho2_hoA:Away _ (.slice (some ⟨g50,0,none⟩) 0 0):=own_away_new O2 D50
  replace O2:=own_gs O2 D50.mod;replace C0:=C0.tn D50;clear D50
  obtain ⟨v50,hv_v50⟩:∃ v,v=Value.slice (some ⟨g50,0,none⟩) 0 0:=⟨_,rfl⟩
  have hol_v50:ownL v50=[g50]:=by rw [hv_v50]; rfl
  have hsome_v50:v50.ownBlock.isSome=true:=by rw [hv_v50]; rfl
  rw [← hv_v50] at hoA ⊢
  rw [← hv_v50] at hno_hoA_g
  replace hL:=hL.sub (of_cons hol_v50);replace hOr:=hOr.sub (of_cons hol_v50)
  rw [← hv_v50] at haw_ho1_hoA
  rw [← hv_v50] at haw_ho2_hoA
  clear hv_v50 hol_v50
  refine L.k rfl<|L.v (R1.nilCheck rfl) rfl<|L.fA rfl tyF78_1<|L.v ((R1.loadFld rfl hb rfl tyP26).asV (v:=v1) rfl) rfl ?_
  have hrow:=Lay.rowI (Lay.of_Z (M:=[]) O1 (by simp));have hlo:=hS.c.len
  refine L.append rfl rfl hoA hrow (intsZ_one o) Q26 tyZ3 (by omega) (by unfold maxLen; omega) C0.size rfl ?_
  intro v55 w11 hoA' X55
  have haw_ho1_hoA_:=Away.grew haw_ho1_hoA X55 O1;have haw_ho2_hoA_:=Away.grew haw_ho2_hoA X55 O2;have hnn_g:=X55.ne hno_hoA_g hb;replace hb:=Blk.grew hb X55 hno_hoA_g;replace hno_hoA_g:=hnn_g;replace hL:=hL.gw X55;replace hOr:=hOr.gw X55;replace O1:=own_away (s':=1) (el':=0) (k':=0) (B':=0) (ys:=[]) O1 X55.mod (by first | assumption | exact Away.symm (by assumption));replace O2:=own_away (s':=1) (el':=0) (k':=0) (B':=0) (ys:=[]) O2 X55.mod (by first | assumption | exact Away.symm (by assumption));replace C0:=Mod.oldOwn C0 X55.mod hoA;replace haw_ho1_hoA:=haw_ho1_hoA_; clear haw_ho1_hoA_;replace haw_ho2_hoA:=haw_ho2_hoA_; clear haw_ho2_hoA_;replace hoA:=hoA'; clear hoA';have hgrew:=X55;clear X55;have hs55:=grew_some hgrew hsome_v50;obtain ⟨A55,k55,c55,rfl⟩:=own_form' hoA;have I55:=slice_some hs55;have hA5:=Lay.of_Z2 (zs:=o) (own_congr hoA rfl rfl) haw_ho1_hoA haw_ho2_hoA
  refine L.b rfl<|L.z<|W.sr<|L.k rfl<|L.lL rfl hOr Q26<|L.k rfl<|L.z<|W.block ?_
  refine W.loop (ι:=Nat) (fun k=>[(8,.pointer (some ⟨g,0,none⟩)),(10,u),(12,.slice A55 k55 c55),(56,u),(57,.int .i64 (((ordI cs).length:Nat):Int)),(58,.int .i64 ((k:Nat):Int))]) (fun k w_=>Blk w_ g 78 #[.slice TL cs.length tL,v1,v2]∧Lay rdC (ownL v1 ++ (ownL v2 ++ M)) w_ (.slice TL cs.length tL) cs∧Lay rdI (ownL v1 ++ (ownL v2 ++ [])) w_ u (ordI cs)∧Lay rdI (ownL v1 ++ (ownL v2 ++ [])) w_ (.slice A55 k55 c55) o∧w_.ownsRow w.heap.size 3 1 v1 cs.length (intsZ (passK n cs k o))∧w_.ownsRow w.heap.size 3 1 v2 n (intsZ (byN n (passK n cs k o)))∧Away v1 v2∧k≤(ordZ5 cs).length∧Mod [] w w_) (fun k=>(ordZ5 cs).length - k) 0 ?_ ?_ ?_
  · repeat' constructor
  ·
   exact ⟨hb,hL.su,hOr.su,hA5.su,O1,O2,haw,Nat.zero_le _,C0⟩
  rintro k w12 ⟨hb,hL,hOr,hA5,O1,O2,haw,hk,C0⟩
  refine W.sr<|L.lt rfl rfl<|L.z<|W.seq<|W.cond rfl ?_ ?_
  ·
   intro J59
   try simp only [bq,ne_eq] at J59
   have hmax9:=hOr.max; unfold maxLen at hmax9
   obtain ⟨i,hip⟩:∃ i,(ordZ5 cs)[k]?=some i:=⟨_,List.getElem?_eq_getElem (by rw [ordI_len] at J59; omega)⟩
   have hsn:=passK_snoc (n:=n) o hip
   refine W.skip<|X.seq<|W.seq<|W.block<|W.sr<|L.aL (j:=k) rfl rfl hOr Q26 rfl (by omega)<|L.v (R1.loadLI rfl hOr tyP3 (by omega) (ordI_get hip _)) rfl<|L.b rfl<|L.z ?_
   refine W.sr<|L.k rfl<|L.v (R1.nilCheck rfl) rfl<|L.fA rfl tyF78_1<|L.v ((R1.loadFld rfl hb rfl tyP26).asV (v:=v1) rfl) rfl<|L.k rfl<|L.v (R1.atOwn (i:=i) rfl rfl O1 Q26 rfl (ord_lt hip)) rfl<|L.v (R1.ldZ rfl O1 (ord_lt hip) tyP3) rfl<|L.v (R1.eq rfl rfl) rfl<|L.nil ?_
   refine X.seq<|W.cond rfl ?_ ?_
   ·
    intro J69
    try simp only [bq,ne_eq] at J69
    refine W.region<|L.k rfl<|L.k rfl<|L.c rfl (c_enforces hb (hL.su) O1 O2 haw hno_ho1_g hno_ho2_g (passK_cho hS.c k) (ord_lt hip) J69) ?_
    rintro _ w13 ⟨ho1x,ho2x,C13⟩
    replace hb:=Blk.ownfar2 hb C13 hno_ho1_g hno_ho2_g;replace hL:=hL.mod C13 (by first | exact mem_own2 | (intro b hb; simp only [List.mem_append,List.mem_cons] at hb ⊢; grind));replace hOr:=hOr.mod C13 (by first | exact mem_own2 | (intro b hb; simp only [List.mem_append,List.mem_cons] at hb ⊢; grind));replace hA5:=hA5.mod C13 (by first | exact mem_own2 | (intro b hb; simp only [List.mem_append,List.mem_cons] at hb ⊢; grind));replace C0:=Mod.oldOwn2 C0 C13 O1 O2;clear C13;replace O1:=ho1x;replace O2:=ho2x;clear ho1x ho2x
    refine L.nil<|X.blockEnd<|X.seq<|W.region<|L.inc rfl rfl (by omega)<|L.k rfl<|L.nil<|X.next (k + 1) ?_ ?_ ?_
    · repeat' constructor
    ·
     rw [if_pos J69] at hsn
     exact ⟨hb,hL.su,hOr.su,hA5.su,by rw [hsn]; exact O1,by rw [hsn]; exact O2,haw,by rw [ordI_len] at J59; omega,C0⟩
    rw [ordI_len] at J59; omega
   intro J69
   try simp only [bq,ne_eq] at J69
   refine W.skip<|X.blockEnd<|X.seq<|W.region<|L.inc rfl rfl (by omega)<|L.k rfl<|L.nil<|X.next (k + 1) ?_ ?_ ?_
   · repeat' constructor
   ·
    rw [if_neg J69] at hsn
    exact ⟨hb,hL.su,hOr.su,hA5.su,by rw [hsn]; exact O1,by rw [hsn]; exact O2,haw,by rw [ordI_len] at J59; omega,C0⟩
   rw [ordI_len] at J59; omega
  intro J59
  try simp only [bq,ne_eq] at J59
  rw [ordI_len] at J59
  obtain rfl:k=(ordZ5 cs).length:=by omega
  rw [passK_full] at O1 O2
  refine W.exit<|X.thenExit<|X.nextExit<|X.here<|X.blockEnd ?_
  obtain ⟨G2,hmu⟩:=hS.next J49
  refine X.next (passZ n cs o,o,A55,k55,c55) ?_ ?_ ?_
  · exact ⟨rfl,rfl,rfl,trivial⟩
  ·
   exact ⟨hb,hL.su,hOr.su,O1,O2,haw,(fun _=>hA5.sub (by simp)),by rw [I55]; exact G2,C0⟩
  dsimp only; rw [I55]; exact hmu
 intro J49
 try simp only [bq,ne_eq] at J49
 refine W.brk<|W.sr<|L.k rfl<|L.v (R1.nilCheck rfl) rfl<|L.fA rfl tyF78_1<|L.v ((R1.loadFld rfl hb rfl tyP26).asV (v:=v1) rfl) rfl ?_
 refine L.b rfl<|L.b rfl<|L.z<|W.ret<|X.result2 rfl (.tmp rfl (.tmp rfl .nil)) ?_
 rw [J23]
 have hnn:A.isNone=false:=by cases h9:A.isNone with | false=>rfl | true=>exact absurd (.inl h9) J49
 have hae:a=o:=by apply Classical.byContradiction; intro h9; exact J49 (.inr h9)
 subst hae
 rw [hnn] at hS
 have hst:=hS.stop
 refine ⟨_,rfl,own_congr O1 hC0.len.symm (by unfold setZ; rw [if_pos J23,Int.toNat_natCast,← hst]),C0⟩
def ordP (cs:List CR) (s i:Nat):List Nat:=((List.range s).flatMap fun (t:Nat)=>(List.range cs.length).filter fun j=>decide ((stS cs).getD j 0=(t:Int))) ++ (List.range i).filter fun j=>decide ((stS cs).getD j 0=(s:Int))
def passP (n:Nat) (cs:List CR) (s i:Nat) (o:List Int):List Int:=turnL n (wsOf n cs) (stS cs) (ordP cs s i) o
theorem passP_next (n:Nat) (cs:List CR) (s:Nat) (o:List Int):passP n cs s cs.length o=passP n cs (s + 1) 0 o:=by
  unfold passP
  congr 1
  unfold ordP
  rw [List.range_succ]
  simp
theorem passP_full (n:Nat) (cs:List CR) (o:List Int):passP n cs 5 0 o=passZ n cs o:=by
  unfold passP passZ passF
  rw [ws_len]
  congr 1
  unfold ordP ordS
  simp
theorem passP_snoc {n s i:Nat} {cs:List CR} {z:CR} (o:List Int) (h:cs[i]?=some z):passP n cs s (i + 1) o=if z.st=(s:Int) then (if (passP n cs s i o).getD i 0=-1 then enfZ n cs (passP n cs s i o) i else passP n cs s i o) else passP n cs s i o:=by
  unfold passP ordP
  rw [List.range_succ,List.filter_append,← List.append_assoc]
  by_cases e:z.st=(s:Int)
  · have e2:List.filter (fun j=>decide ((stS cs).getD j 0=(s:Int))) [i]=[i]:=by
      simp only [List.filter_cons,stS_get h,e,decide_true,if_true,List.filter_nil]
    rw [e2,if_pos e]
    unfold turnL
    rw [List.foldl_append]
    rfl
  have e2:List.filter (fun j=>decide ((stS cs).getD j 0=(s:Int))) [i]=[]:=by
    simp only [List.filter_cons,stS_get h,e,decide_false,List.filter_nil]; rfl
  rw [e2,if_neg e,List.append_nil]
section
variable {n:Nat} {cs:List CR} {o os a:List Int} {nil:Bool}
theorem passP_cho (h:ChoZ n cs o) {s i:Nat} (hi:i≤cs.length):ChoZ n cs (passP n cs s i o):=h.turns _ (fun j hj=>by
  unfold ordP at hj
  simp only [List.mem_append,List.mem_flatMap,List.mem_filter,List.mem_range] at hj
  rcases hj with ⟨_,_,h1,_⟩ | ⟨h1,_⟩ <;> omega)
theorem ChoZ.low (h:ChoZ n cs o) {i:Nat} (hi:i<cs.length):-1≤o.getD i 0:=by
  have hl:=h.len
  have hg:o[i]?=some (o.getD i 0):=by rw [List.getD_eq_getElem?_getD,List.getElem?_eq_getElem (by omega)]; rfl
  exact h.c.lo _ (List.mem_of_getElem? hg)
theorem SI.stop2 (h:SI n cs os o a nil) (e:o=passZ n cs o):o=setlZ n cs os:=by
  rw [← h.e]
  exact (setl_same e.symm).symm
theorem SI.next2 (h:SI n cs os o a nil) (e:o≠passZ n cs o):SI n cs os (passZ n cs o) [] true∧wgO (wsOf n cs) (stS cs) (passZ n cs o)<wgO (wsOf n cs) (stS cs) o:=by
  refine ⟨⟨passZ_cho h.c,by rw [← h.e]; exact setl_step h.c.st h.c.c,fun h=>by cases h⟩,?_⟩
  rcases (h.c.c.pass h.c.st).2 with ⟨h1,_⟩ | h1
  · exact absurd h1.symm e
  exact h1
end
theorem Lay.of_Z1 {w:World} {B el k:Nat} {v v1:Value} {zs:List Int} (h:w.ownsRow B el 1 v k (intsZ zs)) (h1:Away v1 v):Lay rdI (ownL v1 ++ []) w v zs:=Lay.of_Z h (fun g hg hm=>by
  simp only [List.append_nil,ownL,Option.mem_toList] at hm
  exact h1 g hm hg)
theorem c_r13_Settle {M : List Nat} {w : World} {vl vo : Value} {cs : List CR} {os : List Int} {z0 : Int} (hL : Lay rdC M w vl cs) (hO : Lay rdI M w vo os) (hbd : Bd M w) (hsm : ∀ c ∈ cs, SmC 1099511627776 c) (hol : os.length ≤ 1000000) :
    Ret Tryz.prog 21 #[vl,vo,.int .i64 z0] w (fun r w'=>∃ v,r=.tuple #[v,.bool (ChB z0 cs os)]∧w'.ownsRow w.heap.size 3 1 v os.length (intsZ (setZ z0 cs os))∧Mod [] w w'):=by
 obtain ⟨TL,tL,rfl⟩:=hL.form;obtain ⟨TO,tO,rfl⟩:=hO.form;have hmaxL:=hL.max; unfold maxLen at hmaxL;have hmaxO:=hO.max; unfold maxLen at hmaxO
 refine Ret.of (vs:=[.slice TL cs.length tL,.slice TO os.length tO,.int .i64 z0]) (n:=59) Tryz.func21 rfl rfl rfl rfl ?_
 have C0:Mod [] w w:=Mod.refl _ _
 refine W.sr<|L.b rfl<|L.b rfl<|L.z<|W.seq<|W.sr<|L.k rfl<|L.k rfl ?_
 refine L.k rfl<|L.c rfl (c_r13_Is hL hO hbd hsm) ?_
 rintro _ w1 ⟨rfl,C1⟩
 replace hL:=hL.gr C1;replace hO:=hO.gr C1;replace hbd:=hbd.gr C1;replace C0:=C0.trans C1;clear C1
 refine L.v (R1.not rfl) rfl<|L.z<|W.cond rfl ?_ ?_
 ·
  intro J16
  simp only [Bool.not_eq_true',Bool.not_eq_false'] at J16
  refine W.sr<|L.buildEmpty Q26 rfl ?_
  intro g17 w2 D17
  have O1:World.ownsRow w2 w.heap.size 3 1 (.slice (some ⟨g17,0,none⟩) 0 0) 0 []:=⟨rfl,.inr ⟨g17,0,#[],rfl,New.ge D17 C0.size,D17.blk,Nat.le_refl _,by decide,rfl,rfl⟩⟩
  replace hL:=hL.new D17;replace hO:=hO.new D17;replace hbd:=hbd.new D17;replace C0:=C0.tn D17;clear D17
  obtain ⟨v17,hv_v17⟩:∃ v,v=Value.slice (some ⟨g17,0,none⟩) 0 0:=⟨_,rfl⟩
  have hol_v17:ownL v17=[g17]:=by rw [hv_v17]; rfl
  rw [← hv_v17] at O1 ⊢
  replace hL:=hL.sub (of_cons hol_v17);replace hO:=hO.sub (of_cons hol_v17);replace hbd:=hbd.sub (of_cons hol_v17);clear hv_v17 hol_v17
  refine L.k rfl ?_
  have hrow:=Lay.rowI hO
  refine L.append rfl rfl O1 hrow (intsZ_one _) Q26 tyZ3 (by omega) (by unfold maxLen; omega) C0.size rfl ?_
  intro v19 w3 O1' X19
  replace hL:=hL.gw X19;replace hO:=hO.gw X19;replace hbd:=hbd.gw X19;replace C0:=Mod.oldOwn C0 X19.mod O1;replace O1:=O1'; clear O1';clear X19
  refine L.b rfl<|L.b rfl<|L.z<|W.ret<|X.thenRet<|X.result2 rfl (.tmp rfl (.tmp rfl .nil)) ?_
  rw [J16]
  refine ⟨_,rfl,own_congr O1 (by simp) (by unfold setZ; rw [J16]; simp),C0⟩
 intro J16
 simp only [Bool.not_eq_true',Bool.not_eq_false'] at J16
 obtain ⟨b1,b2,b3,b4,_⟩:=ChB_true J16
 obtain ⟨n,rfl⟩:∃ n:Nat,z0=(n:Int):=⟨z0.toNat,by omega⟩
 have hC0:ChoZ n cs os:=ChoZ.of J16
 have I64:n≤64:=by omega
 refine W.skip<|X.seq<|W.sr<|L.buildEmpty Q26 rfl ?_
 intro g20 w4 D20
 have O1:World.ownsRow w4 w.heap.size 3 1 (.slice (some ⟨g20,0,none⟩) 0 0) 0 []:=⟨rfl,.inr ⟨g20,0,#[],rfl,New.ge D20 C0.size,D20.blk,Nat.le_refl _,by decide,rfl,rfl⟩⟩
 replace hL:=hL.new D20;replace hO:=hO.new D20;replace C0:=C0.tn D20;clear D20
 obtain ⟨v20,hv_v20⟩:∃ v,v=Value.slice (some ⟨g20,0,none⟩) 0 0:=⟨_,rfl⟩
 have hol_v20:ownL v20=[g20]:=by rw [hv_v20]; rfl
 rw [← hv_v20] at O1 ⊢
 replace hL:=hL.sub (of_cons hol_v20);replace hO:=hO.sub (of_cons hol_v20);clear hv_v20 hol_v20
 refine L.k rfl ?_
 have hrow:=Lay.rowI hO
 refine L.append rfl rfl O1 hrow (intsZ_one _) Q26 tyZ3 (by omega) (by unfold maxLen; omega) C0.size rfl ?_
 intro v22 w5 O1' X22
 replace hL:=hL.gw X22;replace hO:=hO.gw X22;replace C0:=Mod.oldOwn C0 X22.mod O1;replace O1:=O1'; clear O1';clear X22
 refine L.b rfl<|L.z<|W.block<|W.loop (ι:=List Int) (fun o=>[(0,.slice TL cs.length tL),(2,.int .i64 ((n:Nat):Int)),(8,v22)]) (fun o w_=>Lay rdC (ownL v22 ++ M) w_ (.slice TL cs.length tL) cs∧w_.ownsRow w.heap.size 3 1 v22 cs.length (intsZ o)∧SI n cs os o [] true∧Mod [] w w_) (fun o=>wgO (wsOf n cs) (stS cs) o) os ?_ ?_ ?_
 · exact ⟨rfl,rfl,rfl,trivial⟩
 ·
  exact ⟨hL.su,own_congr O1 (by simp; omega) (by simp),SI.mk hC0 rfl (fun h=>by cases h),C0⟩
 rintro o w6 ⟨hL,O1,hS,C0⟩
 refine W.block<|W.sr<|L.buildEmpty Q26 rfl ?_
 intro g23 w7 D23
 have hoA:World.ownsRow w7 w.heap.size 3 1 (.slice (some ⟨g23,0,none⟩) 0 0) 0 []:=⟨rfl,.inr ⟨g23,0,#[],rfl,New.ge D23 C0.size,D23.blk,Nat.le_refl _,by decide,rfl,rfl⟩⟩
 replace hL:=hL.new D23
 have haw_ho1_hoA:Away _ (.slice (some ⟨g23,0,none⟩) 0 0):=own_away_new O1 D23
 replace O1:=own_gs O1 D23.mod;replace C0:=C0.tn D23;clear D23
 obtain ⟨v23,hv_v23⟩:∃ v,v=Value.slice (some ⟨g23,0,none⟩) 0 0:=⟨_,rfl⟩
 have hol_v23:ownL v23=[g23]:=by rw [hv_v23]; rfl
 rw [← hv_v23] at hoA ⊢
 replace hL:=hL.sub (of_cons hol_v23)
 rw [← hv_v23] at haw_ho1_hoA
 clear hv_v23 hol_v23
 refine L.k rfl ?_
 have hlo:=hS.c.len;have hrow:=Lay.rowI (Lay.of_Z (M:=[]) O1 (by simp))
 refine L.append rfl rfl hoA hrow (intsZ_one _) Q26 tyZ3 (by omega) (by unfold maxLen; omega) C0.size rfl ?_
 intro v25 w8 hoA' X25
 have haw_ho1_hoA_:=Away.grew haw_ho1_hoA X25 O1;replace hL:=hL.gw X25;replace O1:=own_away (s':=1) (el':=0) (k':=0) (B':=0) (ys:=[]) O1 X25.mod (by first | assumption | exact Away.symm (by assumption));replace C0:=Mod.oldOwn C0 X25.mod hoA;replace haw_ho1_hoA:=haw_ho1_hoA_; clear haw_ho1_hoA_;replace hoA:=hoA'; clear hoA';clear X25;have hA5:=Lay.of_Z1 (zs:=o) (own_congr hoA rfl rfl) haw_ho1_hoA
 refine L.b rfl<|L.z<|W.seq<|W.sr<|L.b rfl<|L.z<|W.block<|W.loop (ι:=Nat) (fun s=>[(0,.slice TL cs.length tL),(2,.int .i64 ((n:Nat):Int)),(8,v22),(9,v25),(10,.int .i64 ((s:Nat):Int))]) (fun s w_=>Lay rdC (ownL v22 ++ M) w_ (.slice TL cs.length tL) cs∧Lay rdI (ownL v22 ++ []) w_ v25 o∧w_.ownsRow w.heap.size 3 1 v22 cs.length (intsZ (passP n cs s 0 o))∧s≤5∧Mod [] w w_) (fun s=>5 - s) 0 ?_ ?_ ?_
 · repeat' constructor
 ·
  exact ⟨hL.su,hA5.su,O1,Nat.zero_le _,C0⟩
 rintro s w9 ⟨hL,hA5,O1,hs,C0⟩
 refine W.seq<|W.sr<|L.k rfl<|L.v (R1.le rfl rfl) rfl<|L.z<|W.cond rfl ?_ ?_
 ·
  intro J27
  try simp only [bq,ne_eq] at J27
  refine W.skip<|X.seq<|W.seq<|W.block<|W.sr<|L.b rfl<|L.z<|W.block<|W.loop (ι:=Nat) (fun i=>[(0,.slice TL cs.length tL),(2,.int .i64 ((n:Nat):Int)),(8,v22),(9,v25),(10,.int .i64 ((s:Nat):Int)),(11,.int .i64 ((i:Nat):Int))]) (fun i w_=>Lay rdC (ownL v22 ++ M) w_ (.slice TL cs.length tL) cs∧Lay rdI (ownL v22 ++ []) w_ v25 o∧w_.ownsRow w.heap.size 3 1 v22 cs.length (intsZ (passP n cs s i o))∧i≤cs.length∧Mod [] w w_) (fun i=>cs.length - i) 0 ?_ ?_ ?_
  · repeat' constructor
  ·
   exact ⟨hL.su,hA5.su,O1,Nat.zero_le _,C0⟩
  rintro i w10 ⟨hL,hA5,O1,hi,C0⟩
  refine W.seq<|W.sr<|L.k rfl<|L.k rfl<|L.lL rfl hL Q22<|L.lt rfl rfl<|L.z<|W.cond rfl ?_ ?_
  ·
   intro J33
   try simp only [bq,ne_eq] at J33
   refine W.skip<|X.seq<|W.seq<|W.block<|W.sr<|L.k rfl<|L.k rfl<|L.aL (j:=i) rfl rfl hL Q22 rfl (by omega)<|L.v (R1.fieldAddr rfl tyF42_0) rfl ?_
   obtain ⟨z40,cs40,P40,V40,vt40,ds40,rfl,Y40,vn40,vd40,rfl,I40,H40⟩:=Lay.elemQ hL (j:=i) (by omega);obtain ⟨T40,t40,rfl⟩:=Y40.form;obtain ⟨A40,c40,rfl⟩:=I40.form;obtain ⟨B40,e40,rfl⟩:=H40.form
   refine L.v (R1.loadEF rfl V40 rfl tyP3) rfl ?_
   have hsn:=passP_snoc (n:=n) (s:=s) o P40
   refine L.k rfl<|L.v ((R1.eq rfl rfl).asB (c:=(decide (z40.st=(s:Int)))) (rfl)) rfl<|L.k rfl ?_
   cases W43:(decide (z40.st=(s:Int)))
   ·
    try simp only [bq,ne_eq] at W43
    refine L.o rfl<|L.o rfl<|L.o rfl<|L.o rfl<|L.o rfl<|L.pF rfl rfl<|L.z<|W.condF rfl<|W.skip<|X.blockEnd ?_
    refine X.seq<|W.region<|L.k rfl<|L.inc rfl rfl (by omega)<|L.b rfl<|L.nil<|X.next (i + 1) ?_ ?_ ?_
    · repeat' constructor
    ·
     rw [if_neg W43] at hsn
     exact ⟨hL.su,hA5.su,by rw [hsn]; exact O1,by omega,C0⟩
    first | omega | (dsimp only; omega)
   try simp only [bq,ne_eq] at W43
   refine L.p rfl (R1.move rfl)<|L.p rfl (R1.move rfl)<|L.p rfl (R1.atOwn (i:=i) rfl rfl O1 Q26 rfl (by omega))<|L.p rfl (R1.ldZ rfl O1 (by omega) tyP3)<|L.p rfl ((R1.lt rfl rfl).asB (c:=(decide ((passP n cs s i o).getD i 0<0))) (rfl))<|L.pT rfl rfl<|L.z<|W.cond rfl ?_ ?_
   ·
    intro J49
    try simp only [bq,ne_eq] at J49
    refine W.region<|L.k rfl<|L.k rfl<|L.k rfl<|L.k rfl ?_
    have hC9:=passP_cho (s:=s) hS.c hi;have hlow9:=hC9.low (show i<cs.length by omega)
    have hno9:(passP n cs s i o).getD i 0=-1:=by omega
    refine L.c rfl (c_r13_enforce hL O1 hC9 (show i<cs.length by omega) hno9 I64) ?_
    rintro _ w11 ⟨ho1x,C11⟩
    replace hL:=hL.mo C11;replace hA5:=hA5.mo C11;replace C0:=Mod.oldOwn C0 C11 O1;replace Y40:=Y40.mo C11;replace I40:=I40.mo C11;replace H40:=H40.mo C11;clear C11;replace O1:=ho1x;clear ho1x
    refine L.nil<|X.blockEnd<|X.seq<|W.region<|L.k rfl<|L.inc rfl rfl (by omega)<|L.b rfl<|L.nil<|X.next (i + 1) ?_ ?_ ?_
    · repeat' constructor
    ·
     rw [if_pos W43,if_pos hno9] at hsn
     exact ⟨hL.su,hA5.su,by rw [hsn]; exact O1,by omega,C0⟩
    first | omega | (dsimp only; omega)
   intro J49
   try simp only [bq,ne_eq] at J49
   refine W.skip<|X.blockEnd<|X.seq<|W.region<|L.k rfl<|L.inc rfl rfl (by omega)<|L.b rfl<|L.nil<|X.next (i + 1) ?_ ?_ ?_
   · repeat' constructor
   ·
    rw [if_pos W43,if_neg (by omega)] at hsn
    exact ⟨hL.su,hA5.su,by rw [hsn]; exact O1,by omega,C0⟩
   first | omega | (dsimp only; omega)
  intro J33
  try simp only [bq,ne_eq] at J33
  obtain rfl:i=cs.length:=by omega
  rw [passP_next] at O1
  refine W.exit<|X.thenExit<|X.nextExit<|X.here<|X.blockEnd<|X.seq<|W.region<|L.k rfl<|L.inc rfl rfl (by omega)<|L.b rfl<|L.nil ?_
  refine X.next (s + 1) ?_ ?_ ?_
  · repeat' constructor
  ·
   exact ⟨hL.su,hA5.su,O1,by omega,C0⟩
  first | omega | (dsimp only; omega)
 intro J27
 try simp only [bq,ne_eq] at J27
 obtain rfl:s=5:=by omega
 rw [passP_full] at O1
 refine W.brk<|W.sr<|L.k rfl<|L.k rfl<|L.c rfl (c_same hA5 (Lay.of_Z (M:=[]) O1 (by simp)) (by rw [hS.c.len,(passZ_cho hS.c).len])) ?_
 rintro _ w12 ⟨rfl,C12⟩
 replace hL:=hL.gr C12;replace O1:=own_gs O1 C12;replace C0:=C0.trans C12;clear C12
 refine L.z<|W.cond rfl ?_ ?_
 ·
  intro J57
  try simp only [bq,ne_eq] at J57
  refine W.sr<|L.k rfl<|L.b rfl<|L.b rfl<|L.z<|W.ret<|X.blockRet<|X.nextRet<|X.blockRet ?_
  refine X.result2 rfl (.tmp rfl (.tmp rfl .nil)) ?_
  rw [J16]
  have hst:=hS.stop2 J57
  refine ⟨_,rfl,own_congr O1 hC0.len.symm (by unfold setZ; rw [if_pos J16,Int.toNat_natCast,← hst,← J57]),C0⟩
 intro J57
 try simp only [bq,ne_eq] at J57
 refine W.skip<|X.blockEnd ?_
 obtain ⟨G2,hmu⟩:=hS.next2 J57
 refine X.next (passZ n cs o) ?_ ?_ ?_
 · exact ⟨rfl,rfl,rfl,trivial⟩
 ·
  exact ⟨hL.su,O1,G2,C0⟩
 exact hmu
def walZ (z:Int) (cs:List CR) (os:List Int):List Int:=if ChB z cs os=true then (List.range z.toNat).map (strZ z.toNat cs os) else []
def blkZ (z:Int) (cs:List CR) (os:List Int) (i:Int):Bool:=decide (ChB z cs os=true∧0≤i∧i<(cs.length:Int)∧os.getD i.toNat 0=-1∧wkZ z.toNat cs os i.toNat []=none)
theorem ChoZ.wk_no {n i:Nat} {cs:List CR} {o:List Int} {z:CR} (h:ChoZ n cs o) (hz:cs[i]?=some z):wkZ n cs o i []=none↔∀ t∈z.ts,strZ n cs o t.v.toNat≤z.st:=by
  constructor
  · intro h1 t ht
    have h2:=wk_none h1 t.v.toNat (by rw [ws_getD h.all hz]; exact List.mem_map.2 ⟨t,ht,rfl⟩) (by simp)
    rw [stS_get hz] at h2; exact h2
  intro h1
  refine wk_none_of (fun u hu _=>?_)
  rw [ws_getD h.all hz] at hu
  obtain ⟨t,ht,rfl⟩:=List.mem_map.1 hu
  rw [stS_get hz]; exact h1 t ht
end Go.Proofs.YthoooolflmbmbaaGreat
