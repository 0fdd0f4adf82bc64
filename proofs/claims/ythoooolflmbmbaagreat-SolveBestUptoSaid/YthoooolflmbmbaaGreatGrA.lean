/- Walks: what the functions compute. -/
import Derived.Test.YthoooolflmbmbaaGreatAff
import Derived.Test.YthoooolflmbmbaaGreatOwnI
import Derived.Test.YthoooolflmbmbaaGreatGraph
namespace Go.Proofs.YthoooolflmbmbaaGreat
open Go.RowKit
set_option linter.unusedVariables false
set_option linter.unusedSimpArgs false
set_option maxRecDepth 10000
def vsOf (c:CR):List Nat:=c.ts.map fun t=>t.v.toNat
def wOf (n:Nat) (c:CR):List Nat:=if isC c (n:Int)=true then vsOf c else []
def wsOf (n:Nat) (cs:List CR):List (List Nat):=cs.map (wOf n)
def fi:Option Nat→Int
  | none=>-1
  | some k=>(k:Int)
def comb (F:Option Nat) (ok:Bool) (i:Nat):Option Nat:=match F with
  | some k=>some k
  | none=>if ok=true then none else some i
def held (z:Int):Nat:=(min (max z 0) 64).toNat
theorem held_le (z:Int):held z≤64:=by unfold held; omega
theorem isT_all {n:Int}:∀ {ts:List TR} {least:Int},isT n least ts=true→0≤least→∀ t∈ts,0≤t.v∧t.v<n
  | [],_,_,_,t,ht=>by cases ht
  | x :: r,least,h,h0,t,ht=>by
    simp only [isT,Bool.and_eq_true,decide_eq_true_eq] at h
    rcases List.mem_cons.1 ht with rfl | ht
    · omega
    exact isT_all h.2.2.2.2 (by omega) t ht
theorem isC_all {c:CR} {n:Int} (h:isC c n=true):∀ t∈c.ts,0≤t.v∧t.v<n:=by
  unfold isC at h
  simp only [Bool.and_eq_true] at h
  exact isT_all h.2.2.2 (Int.le_refl _)
theorem vsOf_lt {c:CR} {n:Nat} (h:isC c (n:Int)=true):∀ v∈vsOf c,v<n:=fun v hv=>by
  obtain ⟨t,ht,rfl⟩:=List.mem_map.1 hv
  have:=isC_all h t ht
  omega
theorem wOf_lt {c:CR} {n:Nat}:∀ v∈wOf n c,v<n:=fun v hv=>by
  unfold wOf at hv
  split at hv
  · rename_i h; exact vsOf_lt h v hv
  cases hv
theorem wsOf_in (n:Nat) (cs:List CR):InW n (wsOf n cs):=fun w hw v hv=>by
  obtain ⟨c,_,rfl⟩:=List.mem_map.1 hw
  exact wOf_lt v hv
theorem ws_take {n:Nat} {cs:List CR} {i:Nat} {z:CR} (hz:cs[i]?=some z):(wsOf n cs).take (i + 1)=(wsOf n cs).take i ++ [wOf n z]:=by
  obtain ⟨hi,rfl⟩:=List.getElem?_eq_some_iff.1 hz
  unfold wsOf
  rw [← List.map_take,← List.map_take,List.take_succ_eq_append_getElem hi,List.map_append]
  rfl
theorem firstW_snoc {n:Nat} {cs:List CR} {i:Nat} {z:CR} (hz:cs[i]?=some z) (l:List Nat):firstW l ((wsOf n cs).take (i + 1)) 0=comb (firstW l ((wsOf n cs).take i) 0) (okW (apAll l ((wsOf n cs).take i)) (wOf n z)) i:=by
  have hi:=(List.getElem?_eq_some_iff.1 hz).1
  rw [ws_take hz,firstW_append]
  have e:((wsOf n cs).take i).length=i:=by simp [wsOf]; omega
  unfold comb
  cases firstW l ((wsOf n cs).take i) 0 with
  | some k=>rfl
  | none=>simp only [firstW,e,Nat.zero_add]
theorem comb_true (F:Option Nat) (i:Nat):comb F true i=F:=by unfold comb; cases F <;> rfl
theorem take_one_ap (l w:List Nat):apW l (w.take 1)=l∧okW l (w.take 1)=true:=by
  cases w with
  | nil=>exact ⟨rfl,rfl⟩
  | cons a r=>exact ⟨rfl,rfl⟩
theorem take_step {l w : List Nat} {k a b : Nat} (hk : 1 ≤ k) (ha : w[0]? = some a) (hb : w[k]? = some b) :
    apW l (w.take (k + 1))=jn (apW l (w.take k)) a b∧okW l (w.take (k + 1))=(okW l (w.take k) && decide (lab (apW l (w.take k)) a≠lab (apW l (w.take k)) b)):=by
  obtain ⟨hk2,rfl⟩:=List.getElem?_eq_some_iff.1 hb
  rw [List.take_succ_eq_append_getElem hk2]
  cases w with
  | nil=>simp at ha
  | cons x r =>
    simp at ha; subst ha
    obtain ⟨j,rfl⟩:∃ j,k=j + 1:=⟨k - 1,by omega⟩
    simp only [List.take_succ_cons,List.cons_append,apW,okW]
    exact ⟨apS_snoc _ _ _ _,okS_snoc _ _ _ _⟩
theorem comb_step1 {F:Option Nat} {o d:Bool} {i:Nat} (hd:d=true):comb F (o && d) i=comb F o i:=by subst hd; simp
theorem comb_step2 {F:Option Nat} {o d:Bool} {i:Nat} (hd:d=false) (h:fi (comb F o i)<0):comb F (o && d) i=some i:=by
  subst hd
  unfold comb at *
  cases F with
  | some k=>simp [fi] at h; omega
  | none=>simp
theorem comb_step3 {F:Option Nat} {o d:Bool} {i:Nat} (hd:d=false) (h:¬ fi (comb F o i)<0):comb F (o && d) i=comb F o i:=by
  subst hd
  unfold comb at *
  cases F with
  | some k=>rfl
  | none=>cases o with
    | true=>simp [fi] at h
    | false=>rfl
theorem fill_step {N i:Nat} (hi:i<N):(List.range i ++ List.replicate (N - i) 0).set i i=List.range (i + 1) ++ List.replicate (N - (i + 1)) 0:=by
  apply List.ext_getElem (by simp; omega)
  intro j h1 h2
  rw [List.getElem_set,List.getElem_append,List.getElem_append]
  simp
  split <;> split <;> (try split) <;> omega
theorem vs_get {c:CR} {i:Nat} {z:TR} (hz:c.ts[i]?=some z):(vsOf c)[i]?=some z.v.toNat:=by unfold vsOf; rw [List.getElem?_map,hz]; rfl
theorem c_root {w : World} {B n : Nat} {v : Value} {r l : List Nat} (ho : w.ownsRow B 3 1 v n (ints r)) (hu : UF n r l) (hn : n ≤ 64) {k : Nat} (hk : k < n) :
    Ret Tryz.prog 104 #[v,.int .i64 (k:Int)] w (fun x w'=>x=.int .i64 ((lab l k:Nat):Int)∧∃ r',w'.ownsRow B 3 1 v n (ints r')∧UF n r' l∧Mod (ownL v) w w'):=by
 refine Ret.of (vs:=[v,.int .i64 (k:Int)]) (n:=26) Tryz.func104 rfl rfl rfl rfl ?_
 have C0:Mod (ownL v) w w:=Mod.refl _ _
 refine W.sr<|L.b rfl<|L.z<|W.seq<|W.block<|W.loop (ι:=List Nat × Nat) (fun (r,k1)=>[(0,v),(1,.int .i64 (k1:Int))]) (fun (r,k1) w_=>k1<n∧lab l k1=lab l k∧World.ownsRow w_ B 3 1 v n (ints r)∧UF n r l∧Mod (ownL v) w w_) (fun (r,k1)=>k1) (r,k) ?_ ?_ ?_
 · exact ⟨rfl,rfl,trivial⟩
 ·
  exact ⟨hk,rfl,ho,hu,C0⟩
 rintro ⟨r,k1⟩ w1 ⟨hk1,he,ho,hu,C0⟩
 have hle:r.getD k1 0≤k1:=hu.le k1 hk1
 have hrl:=hu.len
 have hle2:r.getD (r.getD k1 0) 0≤r.getD k1 0:=hu.le (r.getD k1 0) (by omega)
 have hle3:=hle2; have hset:(r.set k1 (lab r (lab r k1))).getD k1 0=lab r (lab r k1):=by have:=lab_set (l:=r) (i:=k1) (v:=k1) (x:=lab r (lab r k1)) (by omega); rw [if_pos rfl] at this; exact this
 refine W.seq<|W.sr<|L.k rfl<|L.k rfl<|L.v (R1.atOwn (i:=k1) rfl rfl ho Q67 rfl hk1) rfl<|L.v (R1.ldLab rfl ho hk1 tyP3) rfl<|L.k rfl<|L.v (R1.ne rfl rfl) rfl<|L.z ?_
 refine W.cond rfl ?_ ?_
 ·
  intro J10
  simp only [bq] at J10
  have hne:lab r k1≠k1:=by unfold lab; omega
  refine W.skip<|X.seq<|W.block<|W.sr<|L.k rfl<|L.k rfl<|L.k rfl<|L.k rfl<|L.k rfl<|L.v (R1.atOwn (i:=k1) rfl rfl ho Q67 rfl hk1) rfl ?_
  refine L.v (R1.ldLab rfl ho hk1 tyP3) rfl<|L.v (R1.atOwn (i:=(r.getD k1 0)) rfl rfl ho Q67 rfl (by omega)) rfl<|L.v (R1.ldLab rfl ho (by omega) tyP3) rfl<|L.v (R1.atOwn (i:=k1) rfl rfl ho Q67 rfl hk1) rfl<|L.storeLab rfl rfl ho hk1 tyP3 ?_
  intro w2 ho' C2
  replace C0:=C0.trans C2;clear C2;replace ho:=ho'; clear ho'
  refine L.z<|W.region<|L.k rfl<|L.k rfl<|L.v (R1.atOwn (i:=k1) rfl rfl ho Q67 rfl hk1) rfl<|L.v (R1.ldLab rfl ho hk1 tyP3) rfl<|L.b rfl<|L.nil<|X.blockEnd<|X.next (r.set k1 (lab r (lab r k1)),lab (r.set k1 (lab r (lab r k1))) k1) ?_ ?_ ?_
  · exact ⟨rfl,rfl,trivial⟩
  ·
   have hu2:=hu.half hk1 hne
   refine ⟨?_,?_,ho,hu2,C0⟩
   · show (r.set k1 (lab r (lab r k1))).getD k1 0<n; rw [hset]; unfold lab; omega
   show lab l ((r.set k1 (lab r (lab r k1))).getD k1 0)=_; rw [hset,hu.same _ (by unfold lab; omega),hu.same _ hk1,he]
  show (r.set k1 (lab r (lab r k1))).getD k1 0<k1; rw [hset]; unfold lab at hne ⊢; omega
 intro J10
 simp only [bq] at J10
 have heq:lab r k1=k1:=by unfold lab; omega
 refine W.brk<|W.sr<|L.k rfl<|L.b rfl<|L.z ?_
 refine W.ret<|X.result1 rfl (.tmp rfl .nil)<|⟨?_,r,ho,hu,C0⟩
 rw [← he,hu.root k1 hk1 heq]
theorem c_joins {w : World} {B n : Nat} {v : Value} {r l : List Nat} (ho : w.ownsRow B 3 1 v n (ints r)) (hu : UF n r l) (hn : n ≤ 64) {a b : Nat} (ha : a < n) (hb : b < n) :
    Ret Tryz.prog 67 #[v,.int .i64 (a:Int),.int .i64 (b:Int)] w (fun x w'=>x=.bool (decide (lab l a≠lab l b))∧∃ r',w'.ownsRow B 3 1 v n (ints r')∧UF n r' (jn l a b)∧Mod (ownL v) w w'):=by
 have hla:=hu.ok.lt ha;have hlb:=hu.ok.lt hb
 refine Ret.of (vs:=[v,.int .i64 (a:Int),.int .i64 (b:Int)]) (n:=24) Tryz.func67 rfl rfl rfl rfl ?_
 have C0:Mod (ownL v) w w:=Mod.refl _ _
 refine W.sr<|L.b rfl<|L.z<|W.sr<|L.k rfl<|L.k rfl<|L.c rfl (c_root ho hu hn ha) ?_
 rintro _ w1 ⟨rfl,r9,O9,hu9,C1⟩
 replace C0:=C0.trans C1;clear C1;replace ho:=O9;clear O9
 refine L.k rfl<|L.k rfl<|L.c rfl (c_root ho hu9 hn hb) ?_
 rintro _ w2 ⟨rfl,r12,O12,hu12,C2⟩
 replace C0:=C0.trans C2;clear C2;replace ho:=O12;clear O12
 refine L.b rfl<|L.b rfl<|L.z<|W.sr<|L.k rfl<|L.k rfl<|L.k rfl<|L.v ((R1.maxI rfl rfl).as (j:=(((max (lab l a) (lab l b)):Nat):Int)) (by omega)) rfl<|L.k rfl ?_
 refine L.k rfl<|L.v ((R1.minI rfl rfl).as (j:=(((min (lab l a) (lab l b)):Nat):Int)) (by omega)) rfl<|L.v (R1.atOwn (i:=(max (lab l a) (lab l b))) rfl rfl ho Q67 rfl (by omega)) rfl<|L.storeLab rfl rfl ho (by omega) tyP3 ?_
 intro w3 ho' C3
 replace C0:=C0.trans C3;clear C3;replace ho:=ho'; clear ho'
 refine L.z<|W.sr<|L.k rfl<|L.k rfl<|L.v ((R1.ne rfl rfl).asB (c:=(decide (lab l a≠lab l b))) (by congr 1; apply propext; omega)) rfl<|L.b rfl<|L.z<|W.ret ?_
 refine X.result1 rfl (.tmp rfl .nil) ?_
 exact ⟨rfl,_,ho,hu12.join ha hb,C0⟩
theorem c_joined {M N9 : List Nat} {w : World} {vl : Value} {cs : List CR} {z0 : Int} (hL : Lay rdC N9 w vl cs) (hbd : Bd M w) (hsm : ∀ c ∈ cs, SmC 1099511627776 c) :
    Ret Tryz.prog 32 #[vl,.int .i64 z0] w (fun x w'=>∃ v r,x=.tuple #[v,.int .i64 (fi (firstW (List.range (held z0)) (wsOf (held z0) cs) 0))]∧w'.ownsRow w.heap.size 3 1 v (held z0) (ints r)∧UF (held z0) r (apAll (List.range (held z0)) (wsOf (held z0) cs))∧Mod [] w w'):=by
 obtain ⟨TL,tL,rfl⟩:=hL.form;have D0:=held_le z0
 obtain ⟨N,hN⟩:∃ N,N=held z0:=⟨_,rfl⟩
 rw [← hN] at D0 ⊢
 have hmax:=hL.max; unfold maxLen at hmax
 refine Ret.of (vs:=[.slice TL cs.length tL,.int .i64 z0]) (n:=67) Tryz.func32 rfl rfl rfl rfl ?_
 have C0:Mod [] w w:=Mod.refl _ _
 refine W.sr<|L.b rfl<|L.b rfl<|L.z<|W.sr<|L.k rfl<|L.v (R1.maxI rfl rfl) rfl<|L.v ((R1.minI rfl rfl).as (j:=((N:Nat):Int)) (by rw [hN]; unfold held; omega)) rfl ?_
 refine L.b rfl<|L.z<|W.sr<|L.k rfl<|L.makeSlice (m:=N) rfl rfl rfl rfl Q67 tyZ3 (by omega) (by unfold maxLen; omega) rfl ?_
 intro g16 w1 D16
 have ho:=own_made (B:=w.heap.size) D16 C0.size (by unfold maxLen; omega);replace hL:=hL.new D16;replace hbd:=hbd.new D16;replace C0:=C0.tn D16;clear D16
 obtain ⟨v16,hv_v16⟩:∃ v,v=Value.slice (some ⟨g16,0,none⟩) N N:=⟨_,rfl⟩
 have hol_v16:ownL v16=[g16]:=by rw [hv_v16]; rfl
 rw [← hv_v16] at ho ⊢
 replace hL:=hL.sub (of_cons hol_v16);replace hbd:=hbd.sub (of_cons hol_v16);clear hv_v16 hol_v16
 refine L.b rfl<|L.z<|W.seq<|W.sr<|L.k rfl<|L.v (R1.lenOwn rfl ho Q67) rfl<|L.k rfl<|L.z ?_
 refine W.block<|W.loop (ι:=Nat) (fun j=>[(0,.slice TL cs.length tL),(1,.int .i64 (N:Int)),(6,v16),(18,.int .i64 (N:Int)),(19,.int .i64 (j:Int))]) (fun j w_=>j≤N∧World.ownsRow w_ w.heap.size 3 1 v16 N (ints (List.range j ++ List.replicate (N - j) 0))∧Lay rdC (ownL v16 ++ N9) w_ (.slice TL cs.length tL) cs∧Bd (ownL v16 ++ M) w_∧Mod [] w w_) (fun j=>N - j) 0 ?_ ?_ ?_
 · repeat' constructor
 ·
  exact ⟨Nat.zero_le _,by simpa using ho,hL,hbd,C0⟩
 rintro j w2 ⟨hj,ho,hL,hbd,C0⟩
 refine W.sr<|L.lt rfl rfl<|L.z<|W.seq<|W.cond rfl ?_ ?_
 ·
  intro J20
  try simp only [bq,ne_eq] at J20
  refine W.skip<|X.seq<|W.seq<|W.block<|W.sr<|L.k rfl<|L.b rfl<|L.z<|W.region ?_
  refine L.k rfl<|L.k rfl<|L.k rfl<|L.v (R1.atOwn (i:=j) rfl rfl ho Q67 rfl (by omega)) rfl<|L.storeLab rfl rfl ho (by omega) tyP3 ?_
  intro w3 ho' C3
  replace hL:=hL.mod C3 (by first | exact mem_own | (intro b hb; simp [hb]));replace hbd:=hbd.gr C3;replace C0:=Mod.oldOwn C0 C3 ho;clear C3;replace ho:=ho'; clear ho'
  refine L.nil<|X.blockEnd<|X.seq<|W.region<|L.inc rfl rfl (by omega)<|L.k rfl<|L.nil<|X.next (j + 1) ?_ ?_ ?_
  · repeat' constructor
  ·
   rw [fill_step (by omega)] at ho
   exact ⟨by omega,ho,hL,hbd,C0⟩
  first | omega | (dsimp only; omega)
 intro J20
 try simp only [bq,ne_eq] at J20
 obtain rfl:N=j:=by omega
 refine W.brk<|W.sr<|L.b rfl<|L.z<|W.seq ?_
 refine W.sr<|L.k rfl<|L.lL rfl hL Q22<|L.k rfl<|L.z<|W.block<|W.loop (ι:=Nat × List Nat) (fun (i,r)=>[(1,.int .i64 (N:Int)),(6,v16),(27,.slice TL cs.length tL),(28,.int .i64 (cs.length:Int)),(29,.int .i64 (i:Int)),(8,.int .i64 (fi (firstW (List.range N) ((wsOf N cs).take i) 0)))]) (fun (i,r) w_=>i≤cs.length∧World.ownsRow w_ w.heap.size 3 1 v16 N (ints r)∧UF N r (apAll (List.range N) ((wsOf N cs).take i))∧Lay rdC (ownL v16 ++ N9) w_ (.slice TL cs.length tL) cs∧Bd (ownL v16 ++ M) w_∧Mod [] w w_) (fun (i,r)=>cs.length - i) (0,List.range N) ?_ ?_ ?_
 · repeat' constructor
 ·
  refine ⟨Nat.zero_le _,by simpa using ho,?_,hL,hbd,C0⟩
  simpa [apAll] using UF.start N
 rintro ⟨i,r⟩ w4 ⟨hi,ho,hu,hL,hbd,C0⟩
 refine W.sr<|L.lt rfl rfl<|L.z<|W.seq<|W.cond rfl ?_ ?_
 ·
  intro J30
  try simp only [bq,ne_eq] at J30
  refine W.skip<|X.seq<|W.seq<|W.block<|W.sr<|L.k rfl<|L.aL (j:=i) rfl rfl hL Q22 rfl (by omega) ?_
  obtain ⟨z33,cs33,P33,V33,vt33,ds33,rfl,Y33,vn33,vd33,rfl,I33,H33⟩:=Lay.elemQ hL (j:=i) (by omega);obtain ⟨T33,t33,rfl⟩:=Y33.form;obtain ⟨A33,c33,rfl⟩:=I33.form;obtain ⟨B33,e33,rfl⟩:=H33.form
  refine L.v (R1.loadE rfl V33 tyG42) rfl<|L.alloc tyZ42 rfl ?_
  intro g10 w5 D10
  replace hL:=hL.new D10;replace hbd:=hbd.new D10;have K10:=New.ge D10 C0.size;replace C0:=C0.tn D10;have hno_ho_g10:=own_ne_new ho D10;replace ho:=own_gs ho D10.mod;replace Y33:=Y33.new D10;replace I33:=I33.new D10;replace H33:=H33.new D10;have E10:=D10.blk;clear D10
  refine L.b rfl<|L.storeBox rfl rfl E10 rfl rfl tyG42 ?_
  intro w6 E10' C6
  replace hL:=hL.ms C6;replace hbd:=hbd.gr C6;replace C0:=C0.old1 C6 K10;replace ho:=own_far ho C6 hno_ho_g10;replace Y33:=Y33.ms C6;replace I33:=I33.ms C6;replace H33:=H33.ms C6;clear C6;replace E10:=E10'; clear E10'
  refine L.z<|W.seq<|W.sr<|L.v (R1.loadBox rfl E10 tyG42) rfl<|L.k rfl<|L.c rfl (c_aff_Is Y33 I33 H33 (n:=(N:Int)) (by omega) hbd (hsm _ (List.mem_of_getElem? P33))) ?_
  rintro _ w7 ⟨rfl,C7⟩
  replace hL:=hL.gr C7;replace hbd:=hbd.gr C7;replace C0:=C0.trans C7;replace ho:=own_gs ho C7;replace Y33:=Y33.gr C7;replace E10:=E10.gr C7;clear C7
  refine L.v (R1.not rfl) rfl<|L.z<|W.cond rfl ?_ ?_
  ·
   intro J37
   simp only [Bool.not_eq_true',Bool.not_eq_false'] at J37
   refine W.exit<|X.thenExit<|X.here<|X.seq<|W.region<|L.inc rfl rfl (by omega)<|L.k rfl<|L.nil<|X.next (i + 1,r) ?_ ?_ ?_
   · refine ⟨rfl,rfl,rfl,rfl,rfl,?_,trivial⟩; first | (simp only [lk,Nat.beq,cond_true,cond_false]; rw [firstW_snoc P33,wOf,if_pos hC1,hfull]) | (simp only [lk,Nat.beq,cond_true,cond_false]; rw [firstW_snoc P33,wOf,if_neg (by rw [J37]; decide)]; rw [show okW _ ([]:List Nat)=true from rfl,comb_true])
   ·
    refine ⟨by omega,ho,?_,(hL.sub (by intro b hb; simp only [List.mem_cons]; exact .inr hb)),(fun m hm=>hbd m (by simp only [List.mem_cons]; exact .inr hm)),C0⟩
    rw [ws_take P33,apAll_snoc,wOf]
    first | (rw [hfull] at hu; rw [if_pos hC1]; exact hu) | (rw [if_neg (by rw [J37]; decide)]; exact hu)
   first | omega | (dsimp only; omega)
  intro J37
  simp only [Bool.not_eq_true',Bool.not_eq_false'] at J37
  refine W.skip<|X.seq<|W.sr<|L.b rfl<|L.z<|W.block ?_
  have hC1:isC z33 (N:Int)=true:=J37
  have hmx:=Y33.max; unfold maxLen at hmx
  refine W.loop (ι:=Nat × List Nat) (fun (k,r)=>[(1,.int .i64 (N:Int)),(6,v16),(27,.slice TL cs.length tL),(28,.int .i64 (cs.length:Int)),(29,.int .i64 (i:Int)),(9,.int .i64 (i:Int)),(10,.pointer (some ⟨g10,0,none⟩)),(11,.int .i64 (k:Int)),(8,.int .i64 (fi (comb (firstW (List.range N) ((wsOf N cs).take i) 0) (okW (apAll (List.range N) ((wsOf N cs).take i)) ((vsOf z33).take k)) i)))]) (fun (k,r) w_=>1≤k∧k≤max 1 z33.ts.length∧World.ownsRow w_ w.heap.size 3 1 v16 N (ints r)∧UF N r (apW (apAll (List.range N) ((wsOf N cs).take i)) ((vsOf z33).take k))∧Lay rdC (g10 :: (ownL v16 ++ N9)) w_ (.slice TL cs.length tL) cs∧Bd (g10 :: (ownL v16 ++ M)) w_∧Blk w_ g10 42 #[.int .i64 z33.st,.slice T33 z33.ts.length t33,.bool z33.k.s,.slice A33 z33.k.n.length c33,.slice B33 z33.k.d.length e33]∧Lay rdT (g10 :: (ownL v16 ++ N9)) w_ (.slice T33 z33.ts.length t33) z33.ts∧Mod [] w w_) (fun (k,r)=>z33.ts.length + 1 - k) (1,r) ?_ ?_ ?_
  · refine ⟨rfl,rfl,rfl,rfl,rfl,rfl,rfl,rfl,?_,trivial⟩; simp only [lk,Nat.beq,cond_true,cond_false]; rw [(take_one_ap _ _).2,comb_true]
  ·
   refine ⟨Nat.le_refl _,by omega,ho,?_,hL,hbd,E10,Y33,C0⟩
   rw [(take_one_ap _ _).1]; exact hu
  rintro ⟨k,r⟩ w8 ⟨hk1,hk2,ho,hu,hL,hbd,E10,Y33,C0⟩
  refine W.seq<|W.sr<|L.k rfl<|L.fA rfl tyF42_1<|L.lF rfl E10 rfl tyP37<|L.lL rfl Y33 Q37<|L.lt rfl rfl<|L.z<|W.cond rfl ?_ ?_
  ·
   intro J42
   try simp only [bq,ne_eq] at J42
   refine W.skip<|X.seq<|W.seq<|W.block<|W.seq<|W.drawW (T:=[12,13,14,15,16,17]) rfl (by decide +kernel) (NoHang.then (NoHang.block (NoHang.then (NoHang.next (NoHang.block (NoHang.block (NoHang.then (NoHang.next (NoHang.block (NoHang.then NoHang.post)))))))))) (fun w9 C9=>?_)
   replace hL:=hL.gr C9;replace hbd:=hbd.gr C9;replace E10:=E10.gr C9;replace Y33:=Y33.gr C9;replace C0:=C0.trans C9;replace ho:=own_gs ho C9
   have G1:Mod [] w9 w9:=Mod.refl _ _
   clear C9;have hb10_s:=E10
   refine D.z 0 rfl (by kernel_rfl) rfl G1<|D.t 1 rfl (by kernel_rfl) (fun _ hS=>R1.fieldAt rfl tyF42_1) G1<|D.t 2 rfl (by kernel_rfl) (fun _ hS=>R1.loadFld rfl (hb10_s.gr hS) rfl tyP37) G1<|D.t 3 rfl (by kernel_rfl) (fun _ hS=>R1.atLay (j:=0) rfl rfl (Lay.gr Y33 hS) Q37 rfl (by omega)) G1<|D.t 4 rfl (by kernel_rfl) (fun _ hS=>R1.fieldAddr rfl tyF47_0) G1 ?_
   obtain ⟨z50,cs50,P50,V50,ds50,rfl,vn50,vd50,rfl,I50,H50⟩:=Lay.elemQ Y33 (j:=0) (by omega);obtain ⟨A50,c50,rfl⟩:=I50.form;obtain ⟨B50,e50,rfl⟩:=H50.form
   refine D.t 5 rfl (by kernel_rfl) (fun _ hS=>(R1.loadEF rfl (SlE.gr V50 hS) rfl tyP3).asV (v:=.int .i64 ((z50.v.toNat:Nat):Int)) (by have h9:=isC_all hC1 _ (List.mem_of_getElem? P50); congr 1; omega)) G1<|D.t 6 rfl (by kernel_rfl) (fun _ hS=>R1.fieldAt rfl tyF42_1) G1<|D.t 7 rfl (by kernel_rfl) (fun _ hS=>R1.loadFld rfl (hb10_s.gr hS) rfl tyP37) G1<|D.z 8 rfl (by kernel_rfl) rfl G1<|D.t 9 rfl (by kernel_rfl) (fun _ hS=>R1.atLay (j:=k) rfl rfl (Lay.gr Y33 hS) Q37 rfl (by omega)) G1<|D.t 10 rfl (by kernel_rfl) (fun _ hS=>R1.fieldAddr rfl tyF47_0) G1 ?_
   obtain ⟨z56,cs56,P56,V56,ds56,rfl,vn56,vd56,rfl,I56,H56⟩:=Lay.elemQ Y33 (j:=k) (by omega);obtain ⟨A56,c56,rfl⟩:=I56.form;obtain ⟨B56,e56,rfl⟩:=H56.form
   refine D.t 11 rfl (by kernel_rfl) (fun _ hS=>(R1.loadEF rfl (SlE.gr V56 hS) rfl tyP3).asV (v:=.int .i64 ((z56.v.toNat:Nat):Int)) (by have h9:=isC_all hC1 _ (List.mem_of_getElem? P56); congr 1; omega)) G1<|D.one 12 rfl (by kernel_rfl) (fun hX=>?_)
   refine L.c rfl (c_joins ho hu D0 (a:=z50.v.toNat) (b:=z56.v.toNat) (by have h9:=isC_all hC1 _ (List.mem_of_getElem? P50); omega) (by have h9:=isC_all hC1 _ (List.mem_of_getElem? P56); omega)) ?_
   rintro _ w10 ⟨rfl,r57,O57,hu57,C10⟩
   replace hL:=hL.mod C10 (by first | exact mem_own | (intro b hb; simp [hb]));replace hbd:=hbd.gr C10;replace E10:=Blk.ownfar E10 C10 hno_ho_g10;replace Y33:=Y33.mod C10 (by first | exact mem_own | (intro b hb; simp [hb]));replace C0:=Mod.oldOwn C0 C10 ho;replace I50:=I50.mod C10 (by first | exact mem_own | (intro b hb; simp [hb]));replace H50:=H50.mod C10 (by first | exact mem_own | (intro b hb; simp [hb]));replace I56:=I56.mod C10 (by first | exact mem_own | (intro b hb; simp [hb]));replace H56:=H56.mod C10 (by first | exact mem_own | (intro b hb; simp [hb]));clear C10;replace ho:=O57;clear O57
   refine L.nil (hX _ _ ⟨.inl rfl,?_⟩)
   refine D.one 13 rfl (by kernel_rfl) (fun hX=>?_)
   refine L.v (R1.not rfl) rfl (L.nil (hX _ _ ⟨.inl rfl,?_⟩))
   refine D.one 14 rfl (by kernel_rfl) (fun hX=>?_)
   refine L.m rfl rfl (L.nil (hX _ _ ⟨.inl rfl,?_⟩))
   cases W59:(!(decide (lab (apW (apAll (List.range N) ((wsOf N cs).take i)) ((vsOf z33).take k)) z50.v.toNat≠lab (apW (apAll (List.range N) ((wsOf N cs).take i)) ((vsOf z33).take k)) z56.v.toNat)))
   ·
    simp only [Bool.not_eq_true',Bool.not_eq_false'] at W59
    refine D.one 15 rfl (by kernel_rfl) (fun hX=>?_)
    refine L.off rfl rfl rfl rfl rfl (L.nil (hX _ _ ⟨.inl rfl,?_⟩))
    refine D.one 16 rfl (by kernel_rfl) (fun hX=>?_)
    refine L.off rfl rfl rfl rfl rfl (L.nil (hX _ _ ⟨.inl rfl,?_⟩))
    refine D.one 17 rfl (by kernel_rfl) (fun hX=>?_)
    refine L.pF rfl rfl (L.nil (hX _ _ ⟨.inl rfl,?_⟩))
    refine D.done (by decide +kernel) ?_ _
    refine X.seq<|W.condF rfl<|W.skip<|X.blockEnd<|X.seq<|W.region<|L.k rfl<|L.inc rfl rfl (by omega)<|L.b rfl<|L.nil<|X.next (k + 1,r57) ?_ ?_ ?_
    · refine ⟨rfl,rfl,rfl,rfl,rfl,rfl,rfl,rfl,?_,trivial⟩; simp only [lk,Nat.beq,cond_true,cond_false]; rw [(take_step (l:=(apAll (List.range N) ((wsOf N cs).take i))) hk1 (vs_get P50) (vs_get P56)).2]; first | rw [comb_step1 W59] | rw [comb_step2 W59 J62]; rfl | rw [comb_step3 W59 (by omega)]
    ·
     have hst:=take_step (l:=(apAll (List.range N) ((wsOf N cs).take i))) hk1 (vs_get P50) (vs_get P56)
     refine ⟨by omega,by omega,ho,?_,hL,hbd,E10,Y33,C0⟩
     rw [hst.1]; exact hu57
    first | omega | (dsimp only; omega)
   simp only [Bool.not_eq_true',Bool.not_eq_false'] at W59
   refine D.one 15 rfl (by kernel_rfl) (fun hX=>?_)
   refine L.p rfl (R1.move rfl) (L.nil (hX _ _ ⟨.inl rfl,?_⟩))
   refine D.one 16 rfl (by kernel_rfl) (fun hX=>?_)
   refine L.p rfl ((R1.lt rfl rfl).asB (c:=(decide (fi (comb (firstW (List.range N) ((wsOf N cs).take i) 0) (okW (apAll (List.range N) ((wsOf N cs).take i)) ((vsOf z33).take k)) i)<0))) (rfl)) (L.nil (hX _ _ ⟨.inl rfl,?_⟩))
   refine D.one 17 rfl (by kernel_rfl) (fun hX=>?_)
   refine L.pT rfl rfl (L.nil (hX _ _ ⟨.inl rfl,?_⟩))
   refine D.done (by decide +kernel) ?_ _
   refine X.seq<|W.cond rfl ?_ ?_
   ·
    intro J62
    simp only [bq] at J62
    refine W.region<|L.k rfl<|L.b rfl<|L.nil<|X.blockEnd<|X.seq<|W.region<|L.k rfl<|L.inc rfl rfl (by omega)<|L.b rfl<|L.nil ?_
    refine X.next (k + 1,r57) ?_ ?_ ?_
    · refine ⟨rfl,rfl,rfl,rfl,rfl,rfl,rfl,rfl,?_,trivial⟩; simp only [lk,Nat.beq,cond_true,cond_false]; rw [(take_step (l:=(apAll (List.range N) ((wsOf N cs).take i))) hk1 (vs_get P50) (vs_get P56)).2]; first | rw [comb_step1 W59] | rw [comb_step2 W59 J62]; rfl | rw [comb_step3 W59 (by omega)]
    ·
     have hst:=take_step (l:=(apAll (List.range N) ((wsOf N cs).take i))) hk1 (vs_get P50) (vs_get P56)
     refine ⟨by omega,by omega,ho,?_,hL,hbd,E10,Y33,C0⟩
     rw [hst.1]; exact hu57
    first | omega | (dsimp only; omega)
   intro J62
   simp only [bq] at J62
   refine W.skip<|X.blockEnd<|X.seq<|W.region<|L.k rfl<|L.inc rfl rfl (by omega)<|L.b rfl<|L.nil<|X.next (k + 1,r57) ?_ ?_ ?_
   · refine ⟨rfl,rfl,rfl,rfl,rfl,rfl,rfl,rfl,?_,trivial⟩; simp only [lk,Nat.beq,cond_true,cond_false]; rw [(take_step (l:=(apAll (List.range N) ((wsOf N cs).take i))) hk1 (vs_get P50) (vs_get P56)).2]; first | rw [comb_step1 W59] | rw [comb_step2 W59 J62]; rfl | rw [comb_step3 W59 (by omega)]
   ·
    have hst:=take_step (l:=(apAll (List.range N) ((wsOf N cs).take i))) hk1 (vs_get P50) (vs_get P56)
    refine ⟨by omega,by omega,ho,?_,hL,hbd,E10,Y33,C0⟩
    rw [hst.1]; exact hu57
   first | omega | (dsimp only; omega)
  intro J42
  try simp only [bq,ne_eq] at J42
  have hfull:((vsOf z33).take k)=vsOf z33:=List.take_of_length_le (by simp [vsOf]; omega)
  refine W.exit<|X.thenExit<|X.nextExit<|X.here<|X.blockEnd<|X.seq<|W.region<|L.inc rfl rfl (by omega)<|L.k rfl<|L.nil<|X.next (i + 1,r) ?_ ?_ ?_
  · refine ⟨rfl,rfl,rfl,rfl,rfl,?_,trivial⟩; first | (simp only [lk,Nat.beq,cond_true,cond_false]; rw [firstW_snoc P33,wOf,if_pos hC1,hfull]) | (simp only [lk,Nat.beq,cond_true,cond_false]; rw [firstW_snoc P33,wOf,if_neg (by rw [J37]; decide)]; rw [show okW _ ([]:List Nat)=true from rfl,comb_true])
  ·
   refine ⟨by omega,ho,?_,(hL.sub (by intro b hb; simp only [List.mem_cons]; exact .inr hb)),(fun m hm=>hbd m (by simp only [List.mem_cons]; exact .inr hm)),C0⟩
   rw [ws_take P33,apAll_snoc,wOf]
   first | (rw [hfull] at hu; rw [if_pos hC1]; exact hu) | (rw [if_neg (by rw [J37]; decide)]; exact hu)
  first | omega | (dsimp only; omega)
 intro J30
 try simp only [bq,ne_eq] at J30
 obtain rfl:i=cs.length:=by omega
 refine W.brk<|W.sr<|L.k rfl<|L.k rfl<|L.b rfl<|L.b rfl ?_
 refine L.z<|W.ret<|X.result2 rfl (.tmp rfl (.tmp rfl .nil))<|⟨v16,r,?_,ho,?_,C0⟩
 · rw [List.take_of_length_le (by simp [wsOf])]
 rw [List.take_of_length_le (by simp [wsOf])] at hu; exact hu
end Go.Proofs.YthoooolflmbmbaaGreat
