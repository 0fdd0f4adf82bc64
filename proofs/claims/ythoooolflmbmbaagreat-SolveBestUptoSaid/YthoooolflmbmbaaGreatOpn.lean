/- Walks: what the functions compute. -/
import Derived.Test.YthoooolflmbmbaaGreatSzA
import Derived.Test.YthoooolflmbmbaaGreatLift
namespace Go.Proofs.YthoooolflmbmbaaGreat
open Go.RowKit
set_option linter.unusedVariables false
set_option linter.unusedSimpArgs false
set_option maxRecDepth 10000
open Go.ChangeShapes Go.WideShapes Go.ChangeAt Go.RowKit Go.Joins
theorem bulk_pos {H:Type} (d:DataW H):1≤Rows.uptoBulk d:=by
  cases d with
  | lit l=>cases l <;> simp [Rows.uptoBulk]
  | _=>simp [Rows.uptoBulk]
theorem bulk_len {H:Type}:∀ l:List (DataW H),l.length≤Rows.uptoBulkAll l
  | []=>by simp [Rows.uptoBulkAll]
  | x :: r=>by have h1:=bulk_pos x; have h2:=bulk_len r; simp only [Rows.uptoBulkAll,List.length_cons]; omega
theorem small_all {H:Type} {l:List (DataW H)} (hk:Rows.uptoSmall H l=true):Rows.uptoBulkAll l≤1048576:=of_decide_eq_true hk
section
variable {H:Type} {enc:TypeId × Value→H} {W:World}
theorem op_U32 {n:Nat} {c:Value} {x:DataW H × List MemPlace} (h:DataW.trod enc Tryz.prog W 0 (fun _=>true) true n 38 [c]=some x):∃ xs,U32 [] W c xs∧xs.length≤Rows.uptoBulk x.1:=by
  rcases open_ints Tryz.underlying38 Tryz.underlying90 (by kernel_rfl) h with ⟨hcs,hx⟩ | ⟨a,len,cap,zs,hcs,hb,hl,hm,hz,hx,hcell,hws⟩
  · simp only [List.cons.injEq,and_true] at hcs
    subst hcs
    exact ⟨[],U32.nil,by simp⟩
  simp only [List.cons.injEq,and_true] at hcs
  subst hcs
  simp only [if_true] at hz
  have hwf:∀ z∈zs,0≤z∧z≤4294967295:=fun z P9=>by
    have:=hws z P9
    simpa [Lit.wf,IntKind.min,IntKind.max,IntKind.signed,IntKind.bits] using this
  have hlen:((zs.take len).map Int.toNat).length=len:=by simp; omega
  refine ⟨(zs.take len).map Int.toNat,⟨⟨some a,cap,by rw [hlen],by omega,hm,by simp,(fun h=>by cases h),fun ad had=>?_⟩,?_⟩,?_⟩
  · injection had with had; subst had
    refine ⟨(fun _ h=>by cases h),fun j u hu=>?_⟩
    rw [List.map_map,List.getElem?_map,Option.map_eq_some_iff] at hu
    obtain ⟨z,P2,rfl⟩:=hu
    have hj:j<(zs.take len).length:=(List.getElem?_eq_some_iff.1 P2).1
    have hj2:j<zs.length:=by simp at hj; omega
    have hc:=hcell j hj2
    rw [List.getElem?_take,if_pos (by simp at hj; omega)] at P2
    rw [hc]
    have e:zs.getD j 0=z:=by simp [List.getD,P2]
    have h0:=hwf z (List.mem_of_getElem? P2)
    rw [e]
    simp; omega
  · intro x hx9
    obtain ⟨z,P9,rfl⟩:=List.mem_map.1 hx9
    have:=hwf z (List.mem_of_mem_take P9)
    omega
  subst hx
  have h1:=bulk_len (lits (H:=H) .u32 (zs.take len))
  simp only [Rows.uptoBulk]
  have e:(lits (H:=H) .u32 (zs.take len)).length=(zs.take len).length:=by simp [lits]
  rw [List.length_map]
  omega
theorem op_Q {n:Nat} {cs:List Value} {x:DataW H × List MemPlace} (h:DataW.trod enc Tryz.prog W 0 (fun _=>true) true n 40 cs=some x):∃ q,rdQ.rd [] W cs q∧szQ q≤Rows.uptoBulk x.1:=by
  obtain ⟨y0,y1,y2,m,rfl,hl,h0,h1,h2⟩:=Go.Deep.trod_struct3 Tryz.underlying40 h
  have e:Tryz.prog.cellsOf 40=3:=by kernel_rfl
  have e0:Tryz.prog.cellsOf 4=1:=by kernel_rfl
  have e1:Tryz.prog.cellsOf 38=1:=by kernel_rfl
  rw [e] at hl
  match cs,hl with
  | [c0,c1,c2],_ =>
    rw [e0] at h0; rw [e1] at h1 h2
    obtain ⟨s,hs,_⟩:=DataW.trod_bool Tryz.underlying4 h0;obtain ⟨xs,g1,b1⟩:=op_U32 (c:=c1) h1;obtain ⟨ys,g2,b2⟩:=op_U32 (c:=c2) h2
    have hs':[c0]=[.bool s]:=hs
    injection hs' with hs' _; subst hs'
    refine ⟨⟨s,xs,ys⟩,⟨c1,c2,rfl,g1,g2⟩,?_⟩
    simp only [Rows.uptoBulk,Rows.uptoBulkAll,szQ]
    omega
theorem op_I {n:Nat} {cs:List Value} {x:DataW H × List MemPlace} (h:DataW.trod enc Tryz.prog W 0 (fun _=>true) true n 3 cs=some x):∃ z,cs=[.int .i64 z]∧1≤Rows.uptoBulk x.1:=by
  obtain ⟨z,h1,_,_⟩:=DataW.trod_int Tryz.underlying3 h
  exact ⟨z,h1,bulk_pos _⟩
theorem op_T {n:Nat} {cs:List Value} {x:DataW H × List MemPlace} (h:DataW.trod enc Tryz.prog W 0 (fun _=>true) true n 47 cs=some x):∃ t,rdT.rd [] W cs t∧szT t≤Rows.uptoBulk x.1:=by
  obtain ⟨y0,y1,m,rfl,hl,h0,h1⟩:=trod_struct2 Tryz.underlying47 h
  have e:Tryz.prog.cellsOf 47=4:=by kernel_rfl
  have e0:Tryz.prog.cellsOf 3=1:=by kernel_rfl
  have e1:Tryz.prog.cellsOf 40=3:=by kernel_rfl
  rw [e] at hl
  match cs,hl with
  | [c0,c1,c2,c3],_ =>
    rw [e0] at h0; rw [e1] at h1
    obtain ⟨z,hz,b0⟩:=op_I h0;obtain ⟨q,g1,b1⟩:=op_Q (cs:=[c1,c2,c3]) h1
    have hz':[c0]=[.int .i64 z]:=hz
    injection hz' with hz' _; subst hz'
    refine ⟨⟨z,q⟩,⟨_,rfl,g1⟩,?_⟩
    simp only [Rows.uptoBulk,Rows.uptoBulkAll,szT]
    omega
theorem list_of {α:Type} {Φ:Nat→α→Prop}:∀ n,(∀ i,i<n→∃ a,Φ i a)→∃ l:List α,l.length=n∧∀ i a,l[i]?=some a→Φ i a
  | 0,_=>⟨[],rfl,fun i a h=>by simp at h⟩
  | n + 1,h=>by
    obtain ⟨l,h1,h2⟩:=list_of n (fun i hi=>h i (by omega));obtain ⟨a,ha⟩:=h n (by omega)
    refine ⟨l ++ [a],by simp [h1],fun i b hb=>?_⟩
    rcases Nat.lt_or_ge i l.length with hi | hi
    · rw [List.getElem?_append_left hi] at hb; exact h2 i b hb
    rw [List.getElem?_append_right hi] at hb
    cases hk:i - l.length with
    | zero => rw [hk] at hb; simp at hb; subst hb; have : i = n := by omega
              rw [this]; exact ha
    | succ k=>rw [hk] at hb; simp at hb
theorem op_Lay {α : Type} {R : Rd α} {f : α → Nat} {t e : TypeId} (ht : Tryz.prog.underlying t = some (.slice e)) (he : Tryz.prog.cellsOf e = R.size)
    (hR:∀ n cs (x:DataW H × List MemPlace),DataW.trod enc Tryz.prog W 0 (fun _=>true) true n e cs=some x→∃ a,R.rd [] W cs a∧f a≤Rows.uptoBulk x.1)
    {n:Nat} {c:Value} {x:DataW H × List MemPlace} (h:DataW.trod enc Tryz.prog W 0 (fun _=>true) true n t [c]=some x):∃ bs,Lay R [] W c bs∧(bs.map f).sum≤Rows.uptoBulk x.1:=by
  rcases Go.Deep.open_slice ht h with ⟨hcs,hx⟩ | ⟨a,len,cap,m,k,D,Pl,hcs,hb,hl,hm,hmm,hx,hcell⟩
  · simp only [List.cons.injEq,and_true] at hcs
    subst hcs
    exact ⟨[],Lay.nil rfl,by simp⟩
  simp only [List.cons.injEq,and_true] at hcs
  subst hcs
  simp only [if_true] at hmm
  rw [he] at hcell
  obtain ⟨l,hl1,hl2⟩:=list_of (α:=List Value × α) (Φ:=fun i p=>W.cells? 0 (a.add (i * R.size)) R.size=some p.1∧R.rd [] W p.1 p.2∧f p.2≤Rows.uptoBulk (D i)) len (fun i hi=>by
    obtain ⟨cs',h1,h2⟩:=hcell i (by omega);obtain ⟨b,h3,h4⟩:=hR _ _ _ h2
    exact ⟨(cs',b),h1,h3,h4⟩)
  have hL:LayL R [] W (l.map (·.1)) (l.map (·.2)):=⟨by simp,fun i cs b h1 h2=>by
    rw [List.getElem?_map,Option.map_eq_some_iff] at h1 h2
    obtain ⟨p,hp,rfl⟩:=h1;obtain ⟨p',hp',rfl⟩:=h2
    rw [hp] at hp'; injection hp' with e; subst e
    exact (hl2 i p hp).2.1⟩
  have hlen:(l.map (·.2)).length=len:=by simp [hl1]
  refine ⟨l.map (·.2),⟨l.map (·.1),⟨some a,cap,by rw [hlen],by rw [hlen]; exact hl,hm,hL.flat,(fun h=>by cases h),fun ad had=>?_⟩,hL⟩,?_⟩
  · injection had with had; subst had
    refine ⟨(fun _ h=>by cases h),fun j u hu=>?_⟩
    have hj:j<(l.map (·.1)).flatten.length:=(List.getElem?_eq_some_iff.1 hu).1
    rw [hL.flat,hlen] at hj
    have hq:j / R.size<len:=Nat.div_lt_of_lt_mul (by rw [Nat.mul_comm]; exact hj)
    have ho:=Nat.mod_lt j R.pos
    have hp:l[j / R.size]?=some l[j / R.size]:=List.getElem?_eq_getElem (by omega)
    obtain ⟨c1,_,_⟩:=hl2 _ _ hp;obtain ⟨_,c2,c3⟩:=World.cells?_some c1
    have e:j=j / R.size * R.size + j % R.size:=by rw [Nat.mul_comm]; exact (Nat.div_add_mod j R.size).symm
    have c4:=c3 (j % R.size) ho
    rw [add_add,← e] at c4
    rw [e,flat_get hL.all (by rw [List.getElem?_map,hp]; rfl) ho] at hu
    rw [c4]; exact hu
  subst hx
  have key:∀ (l:List (List Value × α)) (s:Nat),(∀ i p,l[i]?=some p→f p.2≤Rows.uptoBulk (D (s + i)))→((l.map (·.2)).map f).sum≤Rows.uptoBulkAll ((List.range' s l.length).map D):=fun l=>by
    induction l with
    | nil=>intro s _; simp
    | cons p r ih =>
      intro s hp
      have h1:=hp 0 p rfl;have h2:=ih (s + 1) (fun i q hq=>by have:=hp (i + 1) q (by simpa using hq); rw [show s + (i + 1)=s + 1 + i by omega] at this; exact this)
      simp only [List.map_cons,List.sum_cons,List.length_cons,List.range'_succ,Rows.uptoBulkAll]
      simp only [Nat.add_zero] at h1
      omega
  have h1:=key l 0 (fun i p hp=>by rw [Nat.zero_add]; exact (hl2 i p hp).2.2)
  rw [hl1,← List.range_eq_range'] at h1
  simp only [Rows.uptoBulk]
  omega
theorem op_C {n:Nat} {cs:List Value} {x:DataW H × List MemPlace} (h:DataW.trod enc Tryz.prog W 0 (fun _=>true) true n 42 cs=some x):∃ c,rdC.rd [] W cs c∧szC c≤Rows.uptoBulk x.1:=by
  obtain ⟨y0,y1,y2,m,rfl,hl,h0,h1,h2⟩:=Go.Deep.trod_struct3 Tryz.underlying42 h
  have e:Tryz.prog.cellsOf 42=5:=by kernel_rfl
  have e0:Tryz.prog.cellsOf 3=1:=by kernel_rfl
  have e1:Tryz.prog.cellsOf 37=1:=by kernel_rfl
  have e2:Tryz.prog.cellsOf 40=3:=by kernel_rfl
  rw [e] at hl
  match cs,hl with
  | [c0,c1,c2,c3,c4],_ =>
    rw [e0] at h0; rw [e1] at h1; rw [e2] at h2
    obtain ⟨z,hz,b0⟩:=op_I h0;obtain ⟨ts,g1,b1⟩:=op_Lay (R:=rdT) (f:=szT) (c:=c1) Tryz.underlying37 (by kernel_rfl) (fun _ _ _ h=>op_T h) h1;obtain ⟨q,g2,b2⟩:=op_Q (cs:=[c2,c3,c4]) h2
    have hz':[c0]=[.int .i64 z]:=hz
    injection hz' with hz' _; subst hz'
    refine ⟨⟨z,ts,q⟩,⟨c1,_,rfl,g1,g2⟩,?_⟩
    simp only [Rows.uptoBulk,Rows.uptoBulkAll,szC,szTs]
    omega
theorem op_Cs {b:Nat} {v:Value} {d:DataW H} {p:List MemPlace} (hv:Value.okWide Tryz.prog W .any b 22 v) (h:DataW.Trod enc Tryz.prog W 0 (fun _=>true) true 22 v d p):∃ cs,Lay rdC [] W v cs∧szCs cs≤Rows.uptoBulk d:=by
  obtain ⟨a,l,c,rfl⟩:=okWide_slice Tryz.underlying22 hv;obtain ⟨fuel,hf⟩:=h
  exact op_Lay (R:=rdC) (f:=szC) Tryz.underlying22 (by kernel_rfl) (fun _ _ _ h=>op_C h) (x:=(d,p)) hf
theorem op_QsT {n:Nat} {c:Value} {x:DataW H × List MemPlace} {t:TypeId} (ht:Tryz.prog.underlying t=some (.slice 40)) (hf:DataW.trod enc Tryz.prog W 0 (fun _=>true) true n t [c]=some x):∃ qs,Lay rdQ [] W c qs∧(qs.map fun q=>szQ q + 1).sum≤Rows.uptoBulk x.1 :=
  op_Lay (R:=rdQ) (f:=fun q=>szQ q + 1) ht (by kernel_rfl) (fun _ _ x h=>by
    obtain ⟨y0,y1,y2,m,hx,hl,h0,h1,h2⟩:=Go.Deep.trod_struct3 Tryz.underlying40 h;obtain ⟨q,g,b⟩:=op_Q h
    refine ⟨q,g,?_⟩
    have e:Tryz.prog.cellsOf 40=3:=by kernel_rfl
    have e0:Tryz.prog.cellsOf 4=1:=by kernel_rfl
    have e1:Tryz.prog.cellsOf 38=1:=by kernel_rfl
    obtain ⟨vn,vd,rfl,g1,g2⟩:=g
    subst hx
    have k1:=bulk_pos y0.1
    rw [e1] at h1 h2
    obtain ⟨xs,q1,b1⟩:=op_U32 (c:=vn) h1;obtain ⟨ys,q2,b2⟩:=op_U32 (c:=vd) h2;obtain ⟨_,_,f1⟩:=q1.form;obtain ⟨_,_,f2⟩:=g1.form;obtain ⟨_,_,f3⟩:=q2.form;obtain ⟨_,_,f4⟩:=g2.form
    rw [f1] at f2; injection f2 with _ l1 _
    rw [f3] at f4; injection f4 with _ l2 _
    simp only [Rows.uptoBulk,Rows.uptoBulkAll,szQ]
    omega) hf
theorem op_Qs {b:Nat} {v:Value} {d:DataW H} {p:List MemPlace} {t:TypeId} (ht:Tryz.prog.underlying t=some (.slice 40)) (hv:Value.okWide Tryz.prog W .any b t v) (h:DataW.Trod enc Tryz.prog W 0 (fun _=>true) true t v d p):∃ qs,Lay rdQ [] W v qs∧(qs.map fun q=>szQ q + 1).sum≤Rows.uptoBulk d:=by
  obtain ⟨a,l,c,rfl⟩:=okWide_slice ht hv;obtain ⟨fuel,hf⟩:=h
  exact op_QsT ht (x:=(d,p)) hf
end
def WalksU (P:Program) (fn:Func) (f:FuncId):Prop :=
  ∀ (H:Type) (enc:TypeId × Value→H) (W:World) (base:Nat) (args:Array Value) (ds:List (DataW H)) (p:List MemPlace),
    (∀ (j:Nat) t v,fn.params[j]?=some t→args[j]?=some v→Value.okWide P W .any base t v) →
    DataW.TrodAll enc P W 0 (fun _=>true) true fn.params.toList args.toList ds p →
    Rows.uptoSmall H ds=true →
    Ret P f args W (fun r w'=>r=.bool true∧Mod [] W w')
theorem law_contractU {P : Program} {fn : Func} {f : FuncId} {s : ChangeSpec} {bt : TypeId} (hv : s.vars = [])
    (hs:∀ (H:Type) (ds:List (DataW H)),ds.length=fn.params.toList.length→(s.fn H ds).results=[.lit (.bool true)]∧(s.fn H ds).args=ds∧(s.fn H ds).vars=[])
    (hl:laidOutB P=true) (hread:(fn.params.toList.all fun t=>P.readableRec t && decide (t<P.types.size))=true) (hrt:fn.resultTypes.toList=[bt]) (hrs:fn.resultTypes.size=1) (hb:P.underlying bt=some .bool) (walk:WalksU P fn f)
    {H:Type} {enc:TypeId × Value→H} (W:World) (base:Nat) (args:Array Value) (ds gs:List (DataW H)) (before:List MemPlace)
    (hval:∀ (j:Nat) t v,fn.params[j]?=some t→args[j]?=some v→Value.okWide P W .any base t v)
    (hW:DataW.Whole enc P fn.params.toList s.vars false W args.toList ds gs before) (hk:Rows.uptoSmall H (ds ++ gs)=true) :
    Calls P f args W fun e W'=>∃ v,e=.returned v∧s.post enc P fn false true false false W args v W':=by
  have hW':=hW
  obtain ⟨p,q,hA,hV,rfl,hfz,hnd⟩:=hW
  rw [hv] at hV
  obtain ⟨rfl,rfl⟩:=trodVars_none hV;have hlen:=trodAll_length hA
  rw [List.append_nil] at hk
  refine (walk H enc W base args ds p hval hA hk).run.mono fun e W' ⟨v,he,hr,hm⟩=>⟨v,he,?_⟩
  subst hr
  have hB:Below W.heap.size W W':=hm.below (by simp) (Nat.le_refl _)
  obtain ⟨h1,h2,h3⟩:=hs H ds hlen
  refine ⟨ds,[],p ++ [],[],p ++ [],[],hW',?_,?_,?_,hB.frame _,fun h=>by cases h⟩
  · rw [List.append_nil,h1,hrt,hrs]
    exact trodAll_mk1 (shut_bool hb true)
  · rw [List.append_nil,h2]
    have:=trodAll_below hl hB _ _ _ _ hread hA (fun x hx=>by simpa using hW'.lt x (by simp [hx]))
    simpa using this
  rw [List.append_nil,h3,hv]
  rfl
end Go.Proofs.YthoooolflmbmbaaGreat
