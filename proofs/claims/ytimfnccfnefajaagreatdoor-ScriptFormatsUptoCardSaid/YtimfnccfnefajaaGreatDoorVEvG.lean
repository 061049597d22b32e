/- A part of the proof: EvDrawA, EvDrawB, EvDrawC, EvDrawD, EvDrawE -/
import Derived.Test.YtimfnccfnefajaaGreatDoorVEvF
import Derived.Orders
set_option linter.unusedSimpArgs false
set_option linter.unusedVariables false
namespace Go.Ev
theorem inMask_eq (m i:Nat):inMask m i=m.testBit i:=by
 unfold inMask
 rw [nbeq_eq,Nat.testBit]
 have h:Nat.land (Nat.shiftRight m i) 1=1 &&& (m >>> i):=by
  show (m >>> i) &&& 1=_
  rw [Nat.and_comm]
 rw [h,Nat.one_and_eq_mod_two]
 rcases Nat.mod_two_eq_zero_or_one (m >>> i) with h | h <;> simp [h]
theorem inMask_zero (i:Nat):inMask 0 i=false:=by rw [inMask_eq,Nat.zero_testBit]
theorem inMask_lor (a b i:Nat):inMask (Nat.lor a b) i=(inMask a i || inMask b i):=by
 rw [inMask_eq,inMask_eq,inMask_eq]
 exact Nat.testBit_or a b i
theorem inMask_bitOf (i j:Nat):inMask (bitOf i) j=decide (i=j):=by
 rw [inMask_eq]
 exact Nat.testBit_two_pow
theorem subMask_iff (a b:Nat):subMask a b=true↔∀ i,inMask a i=true→inMask b i=true:=by
 unfold subMask
 rw [nbeq_eq]
 simp only [decide_eq_true_eq,inMask_eq]
 constructor
 ·intro h i hi
  have:(a &&& b).testBit i=true:=by rw [show a &&& b=a from h];exact hi
  rw [Nat.testBit_and,Bool.and_eq_true] at this
  exact this.2
 ·intro h
  apply Nat.eq_of_testBit_eq
  intro i
  show (a &&& b).testBit i=_
  rw [Nat.testBit_and]
  cases ha:a.testBit i with
  | false=>rfl
  | true=>rw [h i ha];rfl
theorem bindsB_eq (e:Edge):bindsB e=Region.binds .any e:=by
 obtain ⟨on,g⟩:=e
 cases g <;> rfl
theorem inMask_preOf (l:List Edge) (j:Nat):inMask (preOf l) j=true↔∃ e∈l,bindsB e=true∧e.on=j:=by
 induction l with
 | nil =>
  show inMask 0 j=true↔_
  rw [inMask_zero]
  simp
 | cons e l ih =>
  show inMask (sw (bindsB e) (Nat.lor (bitOf e.on) (preOf l)) (preOf l)) j=true↔_
  rw [sw_eq]
  split
  ·rename_i hb
   rw [inMask_lor,inMask_bitOf,Bool.or_eq_true,ih]
   simp [hb]
  ·rename_i hb
   rw [ih]
   simp [hb]
theorem inMask_ancOf (acc:List Nat) (l:List Edge) (j:Nat):inMask (ancOf acc l) j=true↔∃ e∈l,bindsB e=true∧(e.on=j∨∃ m,acc[e.on]? = some m∧inMask m j=true):=by
 induction l with
 | nil =>
  show inMask 0 j=true↔_
  rw [inMask_zero]
  simp
 | cons e l ih =>
  show inMask (sw (bindsB e) (Nat.lor (Nat.lor (bitOf e.on) (oelim (lget acc e.on) 0 fun m=>m)) (ancOf acc l)) (ancOf acc l)) j=true↔_
  rw [sw_eq]
  split
  ·rename_i hb
   rw [inMask_lor,inMask_lor,inMask_bitOf,Bool.or_eq_true,Bool.or_eq_true,ih,lget_eq]
   have:inMask (oelim acc[e.on]? 0 fun m=>m) j=true↔∃ m,acc[e.on]? = some m∧inMask m j=true:=by
    cases acc[e.on]? with
    | none =>
     show inMask 0 j=true↔_
     rw [inMask_zero]
     simp
    | some m=>exact ⟨fun h=>⟨m,rfl,h⟩,fun ⟨m',h1,h2⟩=>by obtain rfl:=Option.some.inj h1;exact h2⟩
   rw [this]
   simp [hb]
  ·rename_i hb
   rw [ih]
   simp [hb]
theorem entriesFrom_spec:∀ (ops:List Oper) (acc:List Nat),(entriesFrom ops acc).length=ops.length ∧
 ∀ i p,(entriesFrom ops acc)[i]? = some p→p.idx=acc.length+i∧ops[i]? = some p.op∧p.pre=preOf p.op.after.toList∧p.anc=ancOf ((acc ++ (entriesFrom ops acc).map PE.anc).take (acc.length+i)) p.op.after.toList:=by
 intro ops
 induction ops with
 | nil=>intro acc;exact ⟨rfl,fun i p h=>by cases h⟩
 | cons o ops ih =>
  intro acc
  have he:entriesFrom (o :: ops) acc=⟨acc.length,o,preOf o.after.toList,ancOf acc o.after.toList⟩ :: entriesFrom ops (acc ++ [ancOf acc o.after.toList]):=by
   show ⟨llen acc,o,preOf o.after.toList,ancOf acc o.after.toList⟩ :: entriesFrom ops (lapp acc [ancOf acc o.after.toList])=_
   rw [llen_eq,lapp_eq]
  rw [he]
  obtain ⟨h1,h2⟩:=ih (acc ++ [ancOf acc o.after.toList])
  refine ⟨by simp [h1],?_⟩
  intro i p hp
  cases i with
  | zero =>
   obtain rfl:=Option.some.inj (show some _=some p from hp)
   refine ⟨rfl,rfl,rfl,?_⟩
   simp
  | succ i =>
   obtain ⟨g1,g2,g3,g4⟩:=h2 i p hp
   refine ⟨?_,g2,g3,?_⟩
   ·rw [g1];simp;omega
   ·rw [g4]
    congr 1
    simp only [List.map_cons,List.append_assoc,List.singleton_append,List.length_append,List.length_singleton]
    rw [show acc.length+1+i=acc.length+(i+1) from by omega]
section
variable {ops:List Oper}
theorem entries_length:(entries ops).length=ops.length:=(entriesFrom_spec ops []).1
theorem entries_get {i:Nat} {p:PE} (h:(entries ops)[i]? = some p):p.idx=i∧ops[i]? = some p.op:=by
 obtain ⟨h1,h2,_,_⟩:=(entriesFrom_spec ops []).2 i p h
 exact ⟨by simpa using h1,h2⟩
theorem entries_of {i:Nat} {o:Oper} (h:ops[i]? = some o):∃ p,(entries ops)[i]? = some p∧p.op=o∧p.idx=i:=by
 have hlt:=(List.getElem?_eq_some_iff.1 h).1
 have:i<(entries ops).length:=by rw [entries_length];exact hlt
 refine ⟨(entries ops)[i],List.getElem?_eq_getElem this,?_⟩
 obtain ⟨h1,h2⟩:=entries_get (List.getElem?_eq_getElem this)
 rw [h] at h2
 exact ⟨(Option.some.inj h2).symm,h1⟩
theorem entries_mem {p:PE}:p∈entries ops↔(entries ops)[p.idx]? = some p:=by
 constructor
 ·intro h
  obtain ⟨i,hi⟩:=List.getElem?_of_mem h
  rw [(entries_get hi).1]
  exact hi
 ·exact List.mem_of_getElem?
theorem pre_iff {p:PE} (h:p∈entries ops) (j:Nat):inMask p.pre j=true↔∃ e∈p.op.after.toList,bindsB e=true∧e.on=j:=by
 obtain ⟨_,_,h3,_⟩:=(entriesFrom_spec ops []).2 p.idx p (entries_mem.1 h)
 rw [h3,inMask_preOf]
theorem anc_iff (hE:edgesOk (entries ops)=true) {p:PE} (h:p∈entries ops) (j:Nat):inMask p.anc j=true↔∃ i,inMask p.pre i=true∧(i=j∨∃ q∈entries ops,q.idx=i∧inMask q.anc j=true):=by
 obtain ⟨_,_,_,h4⟩:=(entriesFrom_spec ops []).2 p.idx p (entries_mem.1 h)
 have hE2:=(lall_iff _ _).1 ((lall_iff _ _).1 hE p h)
 rw [h4,inMask_ancOf]
 simp only [List.nil_append,List.length_nil,Nat.zero_add]
 constructor
 ·rintro ⟨e,he,hb,hj⟩
  refine ⟨e.on,(pre_iff h _).2 ⟨e,he,hb,rfl⟩,hj.imp id ?_⟩
  rintro ⟨m,hm,hj⟩
  rw [List.getElem?_take] at hm
  split at hm
  ·rw [show entriesFrom ops []=entries ops from rfl,List.getElem?_map,Option.map_eq_some_iff] at hm
   obtain ⟨q,hq,rfl⟩:=hm
   exact ⟨q,List.mem_of_getElem? hq,(entries_get hq).1,hj⟩
  ·cases hm
 ·rintro ⟨i,hi,hj⟩
  obtain ⟨e,he,hb,rfl⟩:=(pre_iff h i).1 hi
  refine ⟨e,he,hb,hj.imp id ?_⟩
  rintro ⟨q,hq,h1,h2⟩
  refine ⟨q.anc,?_,h2⟩
  have h3:=hE2 e he
  rw [bor_eq,bnot_eq,hb,nlt_eq] at h3
  have h3:e.on<p.idx:=by simpa using h3
  rw [List.getElem?_take,if_pos h3,show entriesFrom ops []=entries ops from rfl,List.getElem?_map,← h1,entries_mem.1 hq]
  rfl
theorem edge_lt (hE:edgesOk (entries ops)=true) {p:PE} (h:p∈entries ops) {i:Nat} (hi:inMask p.pre i=true):i<p.idx:=by
 have hE2:=(lall_iff _ _).1 ((lall_iff _ _).1 hE p h)
 obtain ⟨e,he,hb,rfl⟩:=(pre_iff h i).1 hi
 have h3:=hE2 e he
 rw [bor_eq,bnot_eq,hb,nlt_eq] at h3
 simpa using h3
def Closed (ops:List Oper) (S:Nat→Prop):Prop:=∀ p∈entries ops,S p.idx→∀ j,inMask p.anc j=true→S j
def After (S:Nat→Prop) (p:PE):Prop:=∀ j,inMask p.pre j=true→S j
theorem anc_in (hE:edgesOk (entries ops)=true) {S:Nat→Prop} (hS:Closed ops S) {p:PE} (h:p∈entries ops) (ha:After S p) {j:Nat} (hj:inMask p.anc j=true):S j:=by
 obtain ⟨i,hi,hj⟩:=(anc_iff hE h j).1 hj
 rcases hj with rfl | ⟨q,hq,h1,h2⟩
 ·exact ha _ hi
 ·exact hS q hq (h1 ▸ ha _ hi) j h2
theorem Closed.add (hE:edgesOk (entries ops)=true) {S:Nat→Prop} (hS:Closed ops S) {p:PE} (h:p∈entries ops) (ha:After S p):Closed ops (fun j=>S j∨j=p.idx):=by
 intro q hq hin j hj
 rcases hin with hin | hin
 ·exact .inl (hS q hq hin j hj)
 ·have:q=p:=by
   have h1:=entries_mem.1 hq
   have h2:=entries_mem.1 h
   rw [hin,h2] at h1
   exact (Option.some.inj h1).symm
  subst this
  exact .inl (anc_in hE hS h ha hj)
def inL (L:Nat):Nat→Prop:=fun j=>inMask L j=true
theorem inL_add (L i:Nat) (j:Nat):inL (Nat.lor L (bitOf i)) j↔inL L j∨j=i:=by
 unfold inL
 rw [inMask_lor,inMask_bitOf,Bool.or_eq_true,decide_eq_true_eq]
 exact or_congr Iff.rfl eq_comm
theorem ready_iff {p:PE} {L:Nat}:p.ready L=true↔¬ inL L p.idx∧After (inL L) p:=by
 unfold PE.ready
 rw [band_eq,bnot_eq,Bool.and_eq_true,subMask_iff]
 unfold inL After
 simp
end
end Go.Ev
namespace Go.Ev
def inR (listed:Array Bool):Nat→Prop:=fun j=>listed.getD j false=true
section
variable {ops:Array Oper} {listed:Array Bool}
theorem inR_set {i:Nat} (h:i<listed.size) (j:Nat):inR (listed.setIfInBounds i true) j↔inR listed j∨j=i:=by
 unfold inR
 by_cases e:i=j
 ·subst e
  simp [h]
 ·rw [getD_set_ne false e]
  constructor
  ·exact .inl
  ·exact fun h=>h.resolve_right (Ne.symm e)
theorem ready_spec (hs:listed.size=ops.size) {j:Nat} (h:j∈Region.ready .any ops listed):j<ops.size∧¬ inR listed j∧∃ p∈entries ops.toList,p.idx=j∧ops[j]? = some p.op∧After (inR listed) p:=by
 obtain ⟨h1,o,ho,h2⟩:=mem_ready.1 h
 have hlt:=(Array.getElem?_eq_some_iff.1 ho).1
 obtain ⟨p,hp,h3,h4⟩:=entries_of (ops:=ops.toList) (i:=j) (o:=o) (by simpa using ho)
 refine ⟨hlt,?_,p,List.mem_of_getElem? hp,h4,by rw [h3];exact ho,?_⟩
 ·unfold inR
  have:j<listed.size:=by omega
  simp [this] at h1 ⊢
  exact h1
 ·intro i hi
  obtain ⟨e,he,hb,rfl⟩:=(pre_iff (List.mem_of_getElem? hp) i).1 hi
  rw [h3] at he
  exact h2 e (by simpa using he) (by rw [← bindsB_eq];exact hb)
theorem ready_nil (hE:edgesOk (entries ops.toList)=true) (hs:listed.size=ops.size) (h:Region.ready .any ops listed=[]):∀ j,j<ops.size→inR listed j:=by
 intro j
 induction j using Nat.strongRecOn with
 | _ j ih =>
  intro hj
  by_cases hR:inR listed j
  ·exact hR
  ·exfalso
   have:j∈Region.ready .any ops listed:=by
    refine mem_ready.2 ⟨?_,ops[j],Array.getElem?_eq_getElem hj,?_⟩
    ·have hl:j<listed.size:=by omega
     unfold inR at hR
     simp [hl] at hR ⊢
     exact hR
    ·intro e he hb
     obtain ⟨p,hp,h3,h4⟩:=entries_of (ops:=ops.toList) (i:=j) (o:=ops[j]) (by simp [hj])
     have hlt:=edge_lt hE (List.mem_of_getElem? hp) (i:=e.on) ((pre_iff (List.mem_of_getElem? hp) _).2 ⟨e,by rw [h3];simpa using he,by rw [bindsB_eq];exact hb,rfl⟩)
     rw [h4] at hlt
     exact ih e.on hlt (by omega)
   rw [h] at this
   cases this
def unl (listed:Array Bool):Nat:=listed.toList.count false
theorem unl_set {i:Nat} (h:i<listed.size) (hR:¬ inR listed i):unl (listed.setIfInBounds i true)+1=unl listed:=by
 unfold unl
 have hi:listed.toList[i]? = some false:=by
  unfold inR at hR
  simp [h] at hR ⊢
  exact hR
 rw [Array.toList_setIfInBounds]
 have hl:i<listed.toList.length:=by simpa using h
 have hg:listed.toList[i]=false:=by
  rw [List.getElem?_eq_getElem hl] at hi
  exact Option.some.inj hi
 have hpos:0<listed.toList.count false:=List.count_pos_iff.2 (List.mem_of_getElem? hi)
 rw [List.count_set hl,hg]
 have h1:(if (false == false)=true then 1 else 0)=1:=rfl
 have h2:(if (true == false)=true then 1 else 0)=0:=rfl
 rw [h1,h2]
 omega
theorem unl_zero (hs:listed.size=ops.size) (h:unl listed=0):(∀ j,j<ops.size→inR listed j)∧Region.ready .any ops listed=[]:=by
 have h1:∀ j,j<ops.size→inR listed j:=by
  intro j hj
  unfold inR
  have hl:j<listed.size:=by omega
  have:=List.count_eq_zero.1 h
  have hm:listed[j]∈listed.toList:=by simp
  cases hb:listed[j] with
  | true=>simp [hl,hb]
  | false=>rw [hb] at hm;exact absurd hm this
 refine ⟨h1,?_⟩
 cases hr:Region.ready .any ops listed with
 | nil=>rfl
 | cons j l =>
  have:=ready_spec hs (j:=j) (by rw [hr];simp)
  exact absurd (h1 j this.1) this.2.1
end
def SameAt (fr fr':Fr) (xs:List Operand):Prop:=∀ x∈xs,evalX x fr'=evalX x fr
theorem evalAll_congr {fr fr':Fr} {xs:List Operand} (h:SameAt fr fr' xs):evalAll xs fr'=evalAll xs fr:=by
 induction xs with
 | nil=>rfl
 | cons x xs ih =>
  show lmapO _ (x :: xs)=lmapO _ (x :: xs)
  rw [lmapO_cons,lmapO_cons,h x (by simp)]
  have:=ih (fun y hy=>h y (by simp [hy]))
  unfold evalAll at this
  rw [this]
theorem evalParts_congr {fr fr':Fr} {ps:List (Nat×Operand)} (h:SameAt fr fr' (ps.map (·.2))):evalParts ps fr'=evalParts ps fr:=by
 induction ps with
 | nil=>rfl
 | cons p ps ih =>
  show lmapO _ (p :: ps)=lmapO _ (p :: ps)
  rw [lmapO_cons,lmapO_cons]
  have:=ih (fun y hy=>h y (by simp at hy ⊢;exact .inr hy))
  unfold evalParts at this
  rw [this]
  unfold evPart
  rw [h p.2 (by simp)]
theorem evalOpt_congr {fr fr':Fr} {o:Option Operand} (h:SameAt fr fr' o.toList):evalOpt o fr'=evalOpt o fr:=by
 cases o with
 | none=>rfl
 | some x =>
  show omap some (evalX x fr')=omap some (evalX x fr)
  rw [h x (by simp)]
theorem silF_congr {E:Env} {fr fr':Fr} {o:Op} (h:SameAt fr fr' o.operands.toList):silF o E fr'=silF o E fr:=by
 cases o with
 | move x=>show sMove x E fr'=sMove x E fr;unfold sMove;rw [h x (by simp [Op.operands])]
 | pick c a b=>show sPick c a b E fr'=sPick c a b E fr;unfold sPick;rw [h c (by simp [Op.operands]),h a (by simp [Op.operands]),h b (by simp [Op.operands])]
 | box e x=>show sBox e x E fr'=sBox e x E fr;unfold sBox;rw [h x (by simp [Op.operands])]
 | build t ps=>show sBuild t ps E fr'=sBuild t ps E fr;unfold sBuild;rw [evalParts_congr (fr:=fr) (fr':=fr') fun x hx=>h x (by simpa [Op.operands] using hx)]
 | buildSlice t n ps=>show sBuildSlice t n ps E fr'=sBuildSlice t n ps E fr;unfold sBuildSlice;rw [evalParts_congr (fr:=fr) (fr':=fr') fun x hx=>h x (by simpa [Op.operands] using hx)]
 | load t x=>show sLoad t x E fr'=sLoad t x E fr;unfold sLoad;rw [h x (by simp [Op.operands])]
 | nilCheck x=>show sNilCheck x E fr'=sNilCheck x E fr;unfold sNilCheck;rw [h x (by simp [Op.operands])]
 | binOp op t x y u=>show sBin op t x y u E fr'=sBin op t x y u E fr;unfold sBin;rw [h x (by simp [Op.operands]),h y (by simp [Op.operands])]
 | unOp op t x=>show sUn op t x E fr'=sUn op t x E fr;unfold sUn;rw [h x (by simp [Op.operands])]
 | convert a b x=>show sConvert a b x E fr'=sConvert a b x E fr;unfold sConvert;rw [h x (by simp [Op.operands])]
 | makeInterface t x=>show sMakeInterface t x E fr'=sMakeInterface t x E fr;unfold sMakeInterface;rw [h x (by simp [Op.operands])]
 | makeFunc fn a b =>
  show sMakeFunc fn a b E fr'=sMakeFunc fn a b E fr
  unfold sMakeFunc
  rw [evalAll_congr (fr:=fr) (fr':=fr') (xs:=a.toList) fun x hx=>h x (by simp [Op.operands] at hx ⊢;exact .inl hx),evalAll_congr (fr:=fr) (fr':=fr') (xs:=b.toList) fun x hx=>h x (by simp [Op.operands] at hx ⊢;exact .inr hx)]
 | makeSlice t l c=>show sMakeSlice t l c E fr'=sMakeSlice t l c E fr;unfold sMakeSlice;rw [h l (by simp [Op.operands]),h c (by simp [Op.operands])]
 | slice t x lo hi mx =>
  show sSlice t x lo hi mx E fr'=sSlice t x lo hi mx E fr
  unfold sSlice
  rw [h x (by simp [Op.operands]),evalOpt_congr (fr:=fr) (fr':=fr') (o:=lo) fun y hy=>h y (by simp [Op.operands] at hy ⊢;exact .inr (.inl hy)),evalOpt_congr (fr:=fr) (fr':=fr') (o:=hi) fun y hy=>h y (by simp [Op.operands] at hy ⊢;exact .inr (.inr (.inl hy))),evalOpt_congr (fr:=fr) (fr':=fr') (o:=mx) fun y hy=>h y (by simp [Op.operands] at hy ⊢;exact .inr (.inr (.inr hy)))]
 | fieldAddr t x f=>show sFieldAddr t x f E fr'=sFieldAddr t x f E fr;unfold sFieldAddr;rw [h x (by simp [Op.operands])]
 | field t x f=>show sField t x f E fr'=sField t x f E fr;unfold sField;rw [h x (by simp [Op.operands])]
 | indexAddr t x i=>show sIndexAddr t x i E fr'=sIndexAddr t x i E fr;unfold sIndexAddr;rw [h x (by simp [Op.operands]),h i (by simp [Op.operands])]
 | index t x i=>show sIndex t x i E fr'=sIndex t x i E fr;unfold sIndex;rw [h x (by simp [Op.operands]),h i (by simp [Op.operands])]
 | lookup t x i b=>show sLookup t x i b E fr'=sLookup t x i b E fr;unfold sLookup;rw [h x (by simp [Op.operands]),h i (by simp [Op.operands])]
 | range t x=>show sRange t x E fr'=sRange t x E fr;unfold sRange;rw [h x (by simp [Op.operands])]
 | typeAssert x t u b=>show sTypeAssert x t u b E fr'=sTypeAssert x t u b E fr;unfold sTypeAssert;rw [h x (by simp [Op.operands])]
 | extract x i=>show sExtract x i E fr'=sExtract x i E fr;unfold sExtract;rw [h x (by simp [Op.operands])]
 | call c =>
  obtain ⟨callee,args,ts⟩:=c
  cases callee with
  | builtin b =>
   show csBuiltin b ts.toList args.toList E fr'=csBuiltin b ts.toList args.toList E fr
   unfold csBuiltin
   rw [evalAll_congr (fr:=fr) (fr':=fr') fun x hx=>h x (by simp [Op.operands,Call.operands] at hx ⊢;exact hx)]
  | _=>rfl
 | _=>rfl
structure FrEq (Y:Tmp→Prop) (fr fr':Fr):Prop where
 n:fr'.n=fr.n
 gl:fr'.gl=fr.gl
 tmps:∀ t,¬ Y t→fr'.tmps.get t=fr.tmps.get t
theorem FrEq.evT {Y:Tmp→Prop} {fr fr':Fr} (h:FrEq Y fr fr') {t:Tmp} (ht:¬ Y t):evT t fr'=evT t fr:=by
 unfold Ev.evT
 rw [h.tmps t ht]
theorem FrEq.evalX {Y:Tmp→Prop} {fr fr':Fr} (h:FrEq Y fr fr') {x:Operand} (hx:∀ t,x=.tmp t→¬ Y t):evalX x fr'=evalX x fr:=by
 cases x with
 | tmp t =>
  show evTmp t fr'=evTmp t fr
  unfold evTmp
  rw [h.tmps t (hx t rfl)]
 | const v=>rfl
 | global g =>
  show evGlobal g fr'=evGlobal g fr
  unfold evGlobal
  rw [h.gl]
 | func f=>rfl
def guardTmp (ops:List Oper) (o:Oper) (d:Tmp):Prop:=∃ g q,o.guard=some g∧ops[g.1]? = some q∧q.dst=some d
def Looks (ops:List Oper) (o:Oper) (d:Tmp):Prop:=Operand.tmp d∈o.op.operands.toList∨guardTmp ops o d
theorem looksB_false {ops:List Oper} {d:Tmp} {o:Oper} (h:looksB ops d o=false):¬ Looks ops o d:=by
 unfold looksB at h
 rw [bor_eq,Bool.or_eq_false_iff,bnot_eq,Bool.not_eq_false',lall_iff] at h
 obtain ⟨h1,h2⟩:=h
 rintro (h3 | ⟨g,q,h3,h4,h5⟩)
 ·have:=h1 _ h3
  have this:bnot (Nat.beq d d)=true:=this
  rw [bnot_eq,nbeq_eq] at this
  simp at this
 ·rw [h3] at h2
  have h2:oelim (lget ops g.1) false (fun q=>oelim q.dst false fun t=>Nat.beq t d)=false:=h2
  rw [lget_eq,h4] at h2
  have h2:oelim q.dst false (fun t=>Nat.beq t d)=false:=h2
  rw [h5] at h2
  have h2:Nat.beq d d=false:=h2
  rw [nbeq_eq] at h2
  simp at h2
theorem silF_frEq {E:Env} {ops:List Oper} {Y:Tmp→Prop} {fr fr':Fr} (h:FrEq Y fr fr') {o:Oper} (ho:∀ d,Y d→¬ Looks ops o d):silF o.op E fr'=silF o.op E fr :=
 silF_congr fun _ hx=>h.evalX fun t ht hY=>ho t hY (.inl (ht ▸ hx))
theorem wanted_frEq {ops:List Oper} {Y:Tmp→Prop} {fr fr':Fr} (h:FrEq Y fr fr') {o:Oper} (ho:∀ d,Y d→¬ Looks ops o d):wantedA ops fr' o.guard=wantedA ops fr o.guard:=by
 cases hg:o.guard with
 | none=>rfl
 | some g =>
  show oelim (yieldedA ops fr' g.1) false (beqB g.2)=oelim (yieldedA ops fr g.1) false (beqB g.2)
  unfold yieldedA
  rw [lget_eq]
  cases hq:ops[g.1]? with
  | none=>rfl
  | some q =>
   show oelim (yieldedBy fr' q.dst) false (beqB g.2)=oelim (yieldedBy fr q.dst) false (beqB g.2)
   unfold yieldedBy
   cases hd:q.dst with
   | none=>rfl
   | some t =>
    show oelim (obind (fr'.tmps.get t) yieldV) false (beqB g.2)=oelim (obind (fr.tmps.get t) yieldV) false (beqB g.2)
    rw [h.tmps t fun hY=>ho t hY (.inr ⟨g,q,hg,hq,hd⟩)]
theorem putD_frEq {d:Option Tmp} {v:AV} {fr fr':Fr} (h:putD d v fr=some fr'):FrEq (fun t=>d=some t) fr fr'∧fr'.defs=fr.defs∧∀ t,d=some t→t<fr.n∧evT t fr'=v:=by
 cases d with
 | none =>
  obtain rfl:fr=fr':=Option.some.inj h
  exact ⟨⟨rfl,rfl,fun _ _=>rfl⟩,rfl,fun t ht=>by cases ht⟩
 | some d =>
  obtain ⟨hc,h⟩:=grd_some (show grd (nlt d fr.n) (some ⟨fr.n,fr.gl,fr.tmps.set d v,fr.defs⟩)=some fr' from h)
  obtain rfl:=Option.some.inj h
  rw [nlt_eq] at hc
  refine ⟨⟨rfl,rfl,fun t ht=>?_⟩,rfl,fun t ht=>?_⟩
  ·show (fr.tmps.set d v).get t=_
   rw [Tr.get_set,if_neg fun e=>ht (by rw [e])]
  ·obtain rfl:=Option.some.inj ht
   refine ⟨of_decide_eq_true hc,?_⟩
   rw [evT_set,if_pos rfl]
theorem okPut_frEq {d:Option Tmp} {v:AV} {fr:Fr} {s:St} {p:FS} (h:okPut d fr s v=some p):FrEq (fun t=>d=some t) fr p.1∧∀ t,d=some t→t<fr.n:=by
 obtain ⟨h1,_⟩:=okPut_some h
 obtain ⟨h2,_,h3⟩:=putD_frEq h1
 exact ⟨h2,fun t ht=>(h3 t ht).1⟩
theorem runOp_frEq {E:Env} {rec:Rec} {K:Mem} {all:List Oper} {o:Oper} {fr:Fr} {s:St} {p:FS} (h:runOp E rec K all o fr s=some p):FrEq (fun t=>o.dst=some t) fr p.1∧∀ t,o.dst=some t→t<fr.n:=by
 unfold runOp at h
 rw [sw_eq] at h
 split at h
 ·obtain ⟨x,hx,h⟩:=obind_some h
  cases x with
  | val v=>exact okPut_frEq (show okPut o.dst fr s v=some p from h)
  | read n g =>
   obtain ⟨v,_,h⟩:=obind_some (show obind (obind (look K s n) g) (okPut o.dst fr s)=some p from h)
   exact okPut_frEq h
  | new ob mk=>exact okPut_frEq (show okPut o.dst fr (newSt ob s) (mk s.k)=some p from h)
  | loud =>
   obtain ⟨nx,_,h⟩:=obind_some (show obind (loudF o.op E K fr s) (afterNx rec K o.dst fr)=some p from h)
   cases nx with
   | val v s'=>exact okPut_frEq (show okPut o.dst fr s' v=some p from h)
   | call f args s' =>
    obtain ⟨r,_,h⟩:=obind_some (show obind (rec (.call K f args s')) (afterCall o.dst fr)=some p from h)
    cases r with
    | call v s2=>exact okPut_frEq (show okPut o.dst fr s2 v=some p from h)
    | code=>cases h
   | defer f args s' =>
    have h:=okPut_frEq (show okPut o.dst ⟨fr.n,fr.gl,fr.tmps,(f,args) :: fr.defs⟩ s' undefA=some p from h)
    exact ⟨⟨h.1.n,h.1.gl,h.1.tmps⟩,h.2⟩
 ·exact okPut_frEq h
end Go.Ev
namespace Go.Ev
namespace Tr
variable {α:Type}
theorem setAux_fuel (x:Option α):∀ (i n m:Nat),i≤n→i≤m→∀ t:Tr α,setAux x n t i=setAux x m t i:=by
 intro i
 induction i using Nat.strongRecOn with
 | _ i ih =>
  intro n m hn hm t
  cases i with
  | zero=>rw [setAux_zero,setAux_zero]
  | succ j =>
   obtain ⟨n,rfl⟩:∃ k,n=k+1:=⟨n - 1,by omega⟩
   obtain ⟨m,rfl⟩:∃ k,m=k+1:=⟨m - 1,by omega⟩
   have hh:∀ t:Tr α,setAux x n t (j / 2)=setAux x m t (j / 2):=ih (j / 2) (by omega) n m (by omega) (by omega)
   rw [setAux_succ,setAux_succ]
   split
   ·cases t with
    | leaf=>show node (setAux x n .leaf (j / 2)) none .leaf=node (setAux x m .leaf (j / 2)) none .leaf;rw [hh]
    | node l v r=>show node (setAux x n l (j / 2)) v r=node (setAux x m l (j / 2)) v r;rw [hh]
   ·cases t with
    | leaf=>show node .leaf none (setAux x n .leaf (j / 2))=node .leaf none (setAux x m .leaf (j / 2));rw [hh]
    | node l v r=>show node l v (setAux x n r (j / 2))=node l v (setAux x m r (j / 2));rw [hh]
theorem put_zero_leaf (x:Option α):(leaf:Tr α).put 0 x=node leaf x leaf:=rfl
theorem put_zero_node (x:Option α) (l r:Tr α) (v:Option α):(node l v r).put 0 x=node l x r:=rfl
theorem put_succ_leaf (x:Option α) (j:Nat):(leaf:Tr α).put (j+1) x=if j % 2=0 then node ((leaf:Tr α).put (j / 2) x) none leaf else node leaf none ((leaf:Tr α).put (j / 2) x):=by
 unfold put
 rw [setAux_succ]
 have:=fun t=>setAux_fuel x (j / 2) j (j / 2) (by omega) (by omega) t
 split
 ·show node (setAux x j leaf (j / 2)) none leaf=_;rw [this]
 ·show node leaf none (setAux x j leaf (j / 2))=_;rw [this]
theorem put_succ_node (x:Option α) (j:Nat) (l r:Tr α) (v:Option α):(node l v r).put (j+1) x=if j % 2=0 then node (l.put (j / 2) x) v r else node l v (r.put (j / 2) x):=by
 unfold put
 rw [setAux_succ]
 have:=fun t=>setAux_fuel x (j / 2) j (j / 2) (by omega) (by omega) t
 split
 ·show node (setAux x j l (j / 2)) v r=_;rw [this]
 ·show node l v (setAux x j r (j / 2))=_;rw [this]
theorem put_comm (x y:Option α):∀ (i j:Nat),i≠j→∀ t:Tr α,(t.put i x).put j y=(t.put j y).put i x:=by
 intro i
 induction i using Nat.strongRecOn with
 | _ i ih =>
  intro j hij t
  cases i with
  | zero =>
   cases j with
   | zero=>exact absurd rfl hij
   | succ j =>
    cases t with
    | leaf =>
     rw [put_zero_leaf,put_succ_node,put_succ_leaf]
     split <;> rw [put_zero_node]
    | node l v r =>
     rw [put_zero_node,put_succ_node,put_succ_node]
     split <;> rw [put_zero_node]
  | succ i =>
   cases j with
   | zero =>
    cases t with
    | leaf =>
     rw [put_zero_leaf,put_succ_node,put_succ_leaf]
     split <;> rw [put_zero_node]
    | node l v r =>
     rw [put_zero_node,put_succ_node,put_succ_node]
     split <;> rw [put_zero_node]
   | succ j =>
    cases t with
    | leaf =>
     rw [put_succ_leaf,put_succ_leaf]
     by_cases hi:i % 2=0 <;> by_cases hj:j % 2=0 <;> simp only [hi,hj,if_true,if_false,put_succ_node]
     ·rw [ih (i / 2) (by omega) (j / 2) (by omega)]
     ·rw [ih (i / 2) (by omega) (j / 2) (by omega)]
    | node l v r =>
     rw [put_succ_node,put_succ_node]
     by_cases hi:i % 2=0 <;> by_cases hj:j % 2=0 <;> simp only [hi,hj,if_true,if_false,put_succ_node]
     ·rw [ih (i / 2) (by omega) (j / 2) (by omega)]
     ·rw [ih (i / 2) (by omega) (j / 2) (by omega)]
theorem exists_without (H:Tr α) (l:List Nat):∃ H':Tr α,(∀ n,n∈l→H'.get n=none)∧∀ n,n ∉ l→H'.get n=H.get n:=by
 induction l with
 | nil=>exact ⟨H,fun n hn=>by simp at hn,fun _ _=>rfl⟩
 | cons m l ih =>
  obtain ⟨H',h1,h2⟩:=ih
  refine ⟨H'.erase m,?_,?_⟩
  ·intro n hn
   rw [get_erase]
   split
   ·rfl
   ·rename_i hne
    exact h1 n ((List.mem_cons.1 hn).resolve_left hne)
  ·intro n hn
   rw [get_erase,if_neg (fun e=>hn (by simp [e]))]
   exact h2 n (fun e=>hn (by simp [e]))
end Tr
def InSv (sv:List (Nat×AObj)) (n:Nat):Prop:=∃ o,(n,o)∈sv
structure LkSpec (K:Mem) (H:Tr AObj) (out:Nat→Prop) (l:Lk):Prop where
 sv:∀ n o,(n,o)∈l.sv→H.get n=some o
 H1:∀ n,InSv l.sv n→l.H.get n=none
 H2:∀ n,¬ InSv l.sv n→l.H.get n=H.get n
 K1:∀ n o,l.K.get n=some o→K.get n=some o∨((n,o)∈l.sv∧¬ out n)
 K2:∀ n,¬ InSv l.sv n→l.K.get n=K.get n
theorem LkSpec.cov {K:Mem} {H:Tr AObj} {out:Nat→Prop} {l:Lk} (h:LkSpec K H out l) {n:Nat} {o:AObj} (hn:InSv l.sv n) (ho:H.get n=some o):(n,o)∈l.sv:=by
 obtain ⟨o',h1⟩:=hn
 have:=h.sv n o' h1
 rw [ho] at this
 rw [Option.some.inj this]
 exact h1
theorem takeOut_spec {K:Mem} {H:Tr AObj} {out:Nat→Prop} {l:Lk} (h:LkSpec K H out l) (n:Nat):LkSpec K H out (takeOut l n)∧(∀ m,InSv l.sv m→InSv (takeOut l n).sv m)∧(∀ m,InSv (takeOut l n).sv m→InSv l.sv m∨m=n)∧(H.get n≠none→InSv (takeOut l n).sv n)∧(takeOut l n).K=l.K:=by
 unfold takeOut
 cases hg:l.H.get n with
 | none =>
  refine ⟨h,fun _ h=>h,fun _ h=>.inl h,fun hne=>?_,rfl⟩
  by_cases hs:InSv l.sv n
  ·exact hs
  ·rw [h.H2 n hs] at hg;exact absurd hg hne
 | some o =>
  have hns:¬ InSv l.sv n:=fun hs=>by rw [h.H1 n hs] at hg;cases hg
  show LkSpec K H out ⟨l.K,l.H.erase n,(n,o) :: l.sv⟩∧_
  have hsv:∀ m,InSv ((n,o) :: l.sv) m↔InSv l.sv m∨m=n:=by
   intro m
   constructor
   ·rintro ⟨o',h1⟩
    rcases List.mem_cons.1 h1 with h1 | h1
    ·exact .inr (Prod.mk.inj h1).1
    ·exact .inl ⟨o',h1⟩
   ·rintro (⟨o',h1⟩ | rfl)
    ·exact ⟨o',List.mem_cons_of_mem _ h1⟩
    ·exact ⟨o,by simp⟩
  refine ⟨⟨?_,?_,?_,?_,?_⟩,fun m hm=>(hsv m).2 (.inl hm),fun m hm=>(hsv m).1 hm,fun _=>(hsv n).2 (.inr rfl),rfl⟩
  ·intro m o' h1
   rcases List.mem_cons.1 h1 with h1 | h1
   ·obtain ⟨rfl,rfl⟩:=Prod.mk.inj h1
    rw [← h.H2 m hns]
    exact hg
   ·exact h.sv m o' h1
  ·intro m hm
   show (l.H.erase n).get m=none
   rw [Tr.get_erase]
   split
   ·rfl
   ·rename_i hne
    exact h.H1 m (((hsv m).1 hm).resolve_right hne)
  ·intro m hm
   show (l.H.erase n).get m=_
   rw [Tr.get_erase,if_neg fun e=>hm ((hsv m).2 (.inr e))]
   exact h.H2 m fun e=>hm ((hsv m).2 (.inl e))
  ·intro m o' h1
   rcases h.K1 m o' h1 with h2 | ⟨h2,h3⟩
   ·exact .inl h2
   ·exact .inr ⟨List.mem_cons_of_mem _ h2,h3⟩
  ·intro m hm
   exact h.K2 m fun e=>hm ((hsv m).2 (.inl e))
theorem lockIn_spec {K:Mem} {H:Tr AObj} {out:Nat→Prop} {l:Lk} (h:LkSpec K H out l) (hout:∀ m,out m→H.get m≠none→InSv l.sv m) (n:Nat):LkSpec K H out (lockIn l n)∧(∀ m,InSv l.sv m→InSv (lockIn l n).sv m)∧(∀ m,InSv (lockIn l n).sv m→InSv l.sv m∨m=n)∧(H.get n≠none→InSv (lockIn l n).sv n):=by
 unfold lockIn
 cases hg:l.H.get n with
 | none =>
  refine ⟨h,fun _ h=>h,fun _ h=>.inl h,fun hne=>?_⟩
  by_cases hs:InSv l.sv n
  ·exact hs
  ·rw [h.H2 n hs] at hg;exact absurd hg hne
 | some o =>
  have hns:¬ InSv l.sv n:=fun hs=>by rw [h.H1 n hs] at hg;cases hg
  show LkSpec K H out ⟨l.K.set n o,l.H.erase n,(n,o) :: l.sv⟩∧_
  have hsv:∀ m,InSv ((n,o) :: l.sv) m↔InSv l.sv m∨m=n:=by
   intro m
   constructor
   ·rintro ⟨o',h1⟩
    rcases List.mem_cons.1 h1 with h1 | h1
    ·exact .inr (Prod.mk.inj h1).1
    ·exact .inl ⟨o',h1⟩
   ·rintro (⟨o',h1⟩ | rfl)
    ·exact ⟨o',List.mem_cons_of_mem _ h1⟩
    ·exact ⟨o,by simp⟩
  refine ⟨⟨?_,?_,?_,?_,?_⟩,fun m hm=>(hsv m).2 (.inl hm),fun m hm=>(hsv m).1 hm,fun _=>(hsv n).2 (.inr rfl)⟩
  ·intro m o' h1
   rcases List.mem_cons.1 h1 with h1 | h1
   ·obtain ⟨rfl,rfl⟩:=Prod.mk.inj h1
    rw [← h.H2 m hns]
    exact hg
   ·exact h.sv m o' h1
  ·intro m hm
   show (l.H.erase n).get m=none
   rw [Tr.get_erase]
   split
   ·rfl
   ·rename_i hne
    exact h.H1 m (((hsv m).1 hm).resolve_right hne)
  ·intro m hm
   show (l.H.erase n).get m=_
   rw [Tr.get_erase,if_neg fun e=>hm ((hsv m).2 (.inr e))]
   exact h.H2 m fun e=>hm ((hsv m).2 (.inl e))
  ·intro m o' h1
   have h1:(l.K.set n o).get m=some o':=h1
   rw [Tr.get_set] at h1
   split at h1
   ·rename_i e
    obtain rfl:=Option.some.inj h1
    subst e
    refine .inr ⟨by simp,fun ho=>hns (hout _ ho ?_)⟩
    rw [← h.H2 _ hns,hg]
    simp
   ·rcases h.K1 m o' h1 with h2 | ⟨h2,h3⟩
    ·exact .inl h2
    ·exact .inr ⟨List.mem_cons_of_mem _ h2,h3⟩
  ·intro m hm
   show (l.K.set n o).get m=_
   rw [Tr.get_set,if_neg fun e=>hm ((hsv m).2 (.inr e))]
   exact h.K2 m fun e=>hm ((hsv m).2 (.inl e))
def OutName (anc:Nat) (ps:List Pend) (n:Nat):Prop:=∃ q∈ps,inMask anc q.idx=false∧q.nw=some n
def RdName (anc:Nat) (ps:List Pend) (n:Nat):Prop:=∃ q∈ps,inMask anc q.idx=false∧q.rd=some n
theorem outs_spec {K:Mem} {H:Tr AObj} {out:Nat→Prop} (anc:Nat):∀ (ps:List Pend),LkSpec K H out (outs anc ps ⟨K,H,[]⟩)∧(∀ n,OutName anc ps n→H.get n≠none→InSv (outs anc ps ⟨K,H,[]⟩).sv n)∧(∀ n,InSv (outs anc ps ⟨K,H,[]⟩).sv n→OutName anc ps n)∧(outs anc ps ⟨K,H,[]⟩).K=K:=by
 intro ps
 induction ps with
 | nil =>
  refine ⟨⟨fun n o h=>(by cases h),fun n ⟨o,h⟩=>(by cases h),fun _ _=>rfl,fun n o h=>.inl h,fun _ _=>rfl⟩,fun n ⟨q,hq,_⟩=>(by cases hq),fun n ⟨o,h⟩=>(by cases h),rfl⟩
 | cons p ps ih =>
  obtain ⟨h1,h2,h3,h4⟩:=ih
  have hcons:outs anc (p :: ps) ⟨K,H,[]⟩=sw (inMask anc p.idx) (outs anc ps ⟨K,H,[]⟩) (oelim p.nw (outs anc ps ⟨K,H,[]⟩) (takeOut (outs anc ps ⟨K,H,[]⟩))):=rfl
  rw [hcons,sw_eq]
  have up:∀ n,OutName anc ps n→OutName anc (p :: ps) n:=fun n ⟨q,hq,h⟩=>⟨q,List.mem_cons_of_mem _ hq,h⟩
  cases hm:inMask anc p.idx with
  | true =>
   simp only [if_true]
   refine ⟨h1,fun n ⟨q,hq,h5,h6⟩=>?_,fun n hn=>up n (h3 n hn),h4⟩
   rcases List.mem_cons.1 hq with rfl | hq
   ·rw [hm] at h5;cases h5
   ·exact h2 n ⟨q,hq,h5,h6⟩
  | false =>
   simp only [Bool.false_eq_true,if_false]
   cases hw:p.nw with
   | none =>
    show LkSpec K H out (outs anc ps ⟨K,H,[]⟩)∧_
    refine ⟨h1,fun n ⟨q,hq,h5,h6⟩=>?_,fun n hn=>up n (h3 n hn),h4⟩
    rcases List.mem_cons.1 hq with rfl | hq
    ·rw [hw] at h6;cases h6
    ·exact h2 n ⟨q,hq,h5,h6⟩
   | some m =>
    obtain ⟨g1,g2,g3,g4,g5⟩:=takeOut_spec h1 m
    show LkSpec K H out (takeOut (outs anc ps ⟨K,H,[]⟩) m)∧_
    refine ⟨g1,fun n ⟨q,hq,h5,h6⟩ hne=>?_,fun n hn=>?_,by show (takeOut _ m).K=K;rw [g5,h4]⟩
    ·rcases List.mem_cons.1 hq with rfl | hq
     ·rw [hw] at h6
      obtain rfl:=Option.some.inj h6
      exact g4 hne
     ·exact g2 n (h2 n ⟨q,hq,h5,h6⟩ hne)
    ·rcases g3 n hn with hn | rfl
     ·exact up n (h3 n hn)
     ·exact ⟨p,by simp,hm,hw⟩
theorem locks_spec {K:Mem} {H:Tr AObj} {out:Nat→Prop} (anc:Nat) {l:Lk} (hl:LkSpec K H out l) (hout:∀ m,out m→H.get m≠none→InSv l.sv m):∀ (ps:List Pend),LkSpec K H out (locks anc ps l)∧(∀ n,InSv l.sv n→InSv (locks anc ps l).sv n)∧(∀ n,RdName anc ps n→H.get n≠none→InSv (locks anc ps l).sv n)∧(∀ n,InSv (locks anc ps l).sv n→InSv l.sv n∨RdName anc ps n):=by
 intro ps
 induction ps with
 | nil=>exact ⟨hl,fun _ h=>h,fun n ⟨q,hq,_⟩=>(by cases hq),fun _ h=>.inl h⟩
 | cons p ps ih =>
  obtain ⟨h1,h2,h3,h4⟩:=ih
  have hcons:locks anc (p :: ps) l=sw (inMask anc p.idx) (locks anc ps l) (oelim p.rd (locks anc ps l) (lockIn (locks anc ps l))):=rfl
  rw [hcons,sw_eq]
  have up:∀ n,InSv l.sv n∨RdName anc ps n→InSv l.sv n∨RdName anc (p :: ps) n:=fun n h=>h.imp id fun ⟨q,hq,h⟩=>⟨q,List.mem_cons_of_mem _ hq,h⟩
  cases hm:inMask anc p.idx with
  | true =>
   simp only [if_true]
   refine ⟨h1,h2,fun n ⟨q,hq,h5,h6⟩=>?_,fun n hn=>up n (h4 n hn)⟩
   rcases List.mem_cons.1 hq with rfl | hq
   ·rw [hm] at h5;cases h5
   ·exact h3 n ⟨q,hq,h5,h6⟩
  | false =>
   simp only [Bool.false_eq_true,if_false]
   cases hw:p.rd with
   | none =>
    show LkSpec K H out (locks anc ps l)∧_
    refine ⟨h1,h2,fun n ⟨q,hq,h5,h6⟩=>?_,fun n hn=>up n (h4 n hn)⟩
    rcases List.mem_cons.1 hq with rfl | hq
    ·rw [hw] at h6;cases h6
    ·exact h3 n ⟨q,hq,h5,h6⟩
   | some m =>
    obtain ⟨g1,g2,g3,g4⟩:=lockIn_spec h1 (fun m hm hne=>h2 m (hout m hm hne)) m
    show LkSpec K H out (lockIn (locks anc ps l) m)∧_
    refine ⟨g1,fun n hn=>g2 n (h2 n hn),fun n ⟨q,hq,h5,h6⟩ hne=>?_,fun n hn=>?_⟩
    ·rcases List.mem_cons.1 hq with rfl | hq
     ·rw [hw] at h6
      obtain rfl:=Option.some.inj h6
      exact g4 hne
     ·exact g2 n (h3 n ⟨q,hq,h5,h6⟩ hne)
    ·rcases g3 n hn with hn | rfl
     ·exact up n (h4 n hn)
     ·exact .inr ⟨p,by simp,hm,hw⟩
theorem lkOf_spec (K:Mem) (e:PE) (r:RS):LkSpec K r.s.H (OutName e.anc r.ps) (lkOf K e r)∧(∀ n,OutName e.anc r.ps n→r.s.H.get n≠none→InSv (lkOf K e r).sv n)∧(∀ n,RdName e.anc r.ps n→r.s.H.get n≠none→InSv (lkOf K e r).sv n):=by
 obtain ⟨h1,h2,_,_⟩:=outs_spec (K:=K) (H:=r.s.H) (out:=OutName e.anc r.ps) e.anc r.ps
 obtain ⟨h3,h4,h5,_⟩:=locks_spec e.anc h1 h2 r.ps
 exact ⟨h3,fun n hn hne=>h4 n (h2 n hn hne),h5⟩
theorem back_get {H:Tr AObj} {sv:List (Nat×AObj)} (hf:∀ n o o',(n,o)∈sv→(n,o')∈sv→o=o'):(∀ n o,(n,o)∈sv→(back H sv).get n=some o)∧∀ n,¬ InSv sv n→(back H sv).get n=H.get n:=by
 induction sv with
 | nil=>exact ⟨fun n o h=>(by cases h),fun _ _=>rfl⟩
 | cons p sv ih =>
  obtain ⟨h1,h2⟩:=ih fun n o o' h h'=>hf n o o' (List.mem_cons_of_mem _ h) (List.mem_cons_of_mem _ h')
  have hb:back H (p :: sv)=(back H sv).set p.1 p.2:=rfl
  rw [hb]
  refine ⟨fun n o hn=>?_,fun n hn=>?_⟩
  ·rw [Tr.get_set]
   split
   ·rename_i e
    subst e
    rw [hf p.1 o p.2 hn (by simp)]
   ·rename_i hne
    rcases List.mem_cons.1 hn with e | hn
    ·exact absurd (congrArg Prod.fst e) hne
    ·exact h1 n o hn
  ·rw [Tr.get_set,if_neg fun e=>hn ⟨p.2,by rw [e];simp⟩]
   exact h2 n fun ⟨o,h⟩=>hn ⟨o,List.mem_cons_of_mem _ h⟩
end Go.Ev
namespace Go.Ev
section
variable {P:Program} {E:Env} {ρ ρ':Ren} {D D':Dom} {K K':Mem} {Pr:Nat→Prop} {s s' s'':St} {w w':World} {fr fr':Fr} {X:Tmp→Prop} {a:Act}
theorem MemOk.congr (h:MemOk P ρ D K Pr s w) (hg:∀ n,s'.H.get n=s.H.get n) (hk:s.k≤s'.k):MemOk P ρ D K Pr s' w :=
 ⟨fun n hn=>Nat.lt_of_lt_of_le (h.dom n hn) hk,fun n o hn=>h.own n o (by rw [← hg];exact hn),fun n m o o' hn hm=>h.inj n m o o' (by rw [← hg];exact hn) (by rw [← hg];exact hm),h.rd,h.prlt,h.gl⟩
theorem MemOk.allocAt (h:MemOk P ρ D K Pr s w) {m:Nat} {ob:AObj} {l:Loc} (hk:¬ D m) (hmk:m<s'.k) (hks:s.k≤s'.k) (hw:Pushed w w') (hl:l.blk=w.heap.size) (ho:Own P (upd ρ m l) w' m ob) (hd:ob.inD D)
 (hs':∀ n,s'.H.get n=if n=m then some ob else s.H.get n):MemOk P (upd ρ m l) (addD D m) K Pr s' w'∧Agree D ρ (upd ρ m l)∧Keeps Pr w w':=by
 have ha:Agree D ρ (upd ρ m l):=upd_agree hk
 have hmono:∀ n,D n→addD D m n:=fun n hn=>.inl hn
 have hold:∀ n o,s.H.get n=some o→n≠m∧Own P (upd ρ m l) w' n o∧(upd ρ m l) n=ρ n∧(ρ n).blk<w.heap.size:=by
  intro n o hn
  obtain ⟨h1,h2,h3,_⟩:=h.own n o hn
  have hne:n≠m:=fun e=>hk (e ▸ h1)
  have hlt:=h3.lt
  exact ⟨hne,h3.move h2 (ha n h1) ha (hw.old _ hlt),ha n h1,hlt⟩
 refine ⟨⟨?_,?_,?_,?_,?_,?_⟩,ha,⟨by rw [hw.size];omega,fun b hb=>hw.old b (h.prlt b hb),hw.os,hw.output,hw.tape⟩⟩
 ·intro n hn
  rcases hn with hn | hn
  ·have:=h.dom n hn;omega
  ·omega
 ·intro n o hn
  rw [hs'] at hn
  by_cases e:n=m
  ·subst e
   rw [if_pos rfl] at hn
   obtain rfl:=Option.some.inj hn
   refine ⟨.inr rfl,AObj.inD_mono hd hmono,ho,?_⟩
   rw [upd_same,hl]
   exact fun hp=>Nat.lt_irrefl _ (h.prlt _ hp)
  ·rw [if_neg e] at hn
   obtain ⟨h1,h2,_,h4⟩:=h.own n o hn
   obtain ⟨_,h5,h6,_⟩:=hold n o hn
   exact ⟨.inl h1,AObj.inD_mono h2 hmono,h5,by rw [h6];exact h4⟩
 ·intro n n' o o' hn hm hne
  rw [hs'] at hn hm
  by_cases e:n=m
  ·subst e
   rw [if_neg (Ne.symm hne)] at hm
   obtain ⟨_,_,h6,h7⟩:=hold n' o' hm
   rw [upd_same,h6,hl]
   omega
  ·rw [if_neg e] at hn
   obtain ⟨_,_,h6,h7⟩:=hold n o hn
   by_cases e':n'=m
   ·subst e'
    rw [upd_same,h6,hl]
    omega
   ·rw [if_neg e'] at hm
    obtain ⟨_,_,h8,_⟩:=hold n' o' hm
    rw [h6,h8]
    exact h.inj n n' o o' hn hm hne
 ·intro n o hn
  obtain ⟨h1,h2,h3,h4⟩:=h.rd n o hn
  exact ⟨.inl h1,AObj.inD_mono h2 hmono,h3.move h2 (ha n h1) ha (hw.old _ (h.prlt _ h4)),by rw [ha n h1];exact h4⟩
 ·intro b hb
  rw [hw.size]
  have:=h.prlt b hb
  omega
 ·intro g hg
  obtain ⟨h1,h2⟩:=h.gl g hg
  exact ⟨.inl h1,by rw [ha g h1];exact h2⟩
def prSv (ρ:Ren) (Pr:Nat→Prop) (H:Tr AObj) (sv:List (Nat×AObj)):Nat→Prop:=fun b=>Pr b∨∃ n o,(n,o)∈sv∧H.get n=some o∧b=(ρ n).blk
theorem MemOk.lock {H:Tr AObj} {out:Nat→Prop} {l:Lk} {pn:Nat→Prop} {k:Nat} (h:MemOk P ρ D K Pr s w) (hl:LkSpec K H out l) (h2:∀ n,¬ pn n→s.H.get n=H.get n)
 (hpn:∀ n,pn n→out n) (hsv:∀ n,pn n→H.get n≠none→InSv l.sv n) (hk:s.k=k):MemOk P ρ D l.K (prSv ρ Pr s.H l.sv) ⟨l.H,k⟩ w:=by
 have hreal:∀ n o,l.H.get n=some o→s.H.get n=some o∧¬ InSv l.sv n:=by
  intro n o hn
  have hns:¬ InSv l.sv n:=fun e=>by rw [hl.H1 n e] at hn;cases hn
  rw [hl.H2 n hns] at hn
  refine ⟨?_,hns⟩
  by_cases hp:pn n
  ·exact absurd (hsv n hp (by rw [hn];simp)) hns
  ·rw [h2 n hp];exact hn
 refine ⟨fun n hn=>?_,?_,?_,?_,?_,h.gl⟩
 ·show n<k
  rw [← hk];exact h.dom n hn
 ·intro n o hn
  obtain ⟨g1,g2⟩:=hreal n o hn
  obtain ⟨g3,g4,g5,g6⟩:=h.own n o g1
  refine ⟨g3,g4,g5,?_⟩
  rintro (hp | ⟨m,o',h3,h4,h5⟩)
  ·exact g6 hp
  ·refine h.inj n m o o' g1 h4 ?_ h5
   rintro rfl
   exact g2 ⟨o',h3⟩
 ·intro n m o o' hn hm hne
  exact h.inj n m o o' (hreal n o hn).1 (hreal m o' hm).1 hne
 ·intro n o hn
  rcases hl.K1 n o hn with hn | ⟨h3,h4⟩
  ·obtain ⟨g1,g2,g3,g4⟩:=h.rd n o hn
   exact ⟨g1,g2,g3,.inl g4⟩
  ·have hg:=hl.sv n o h3
   have hp:¬ pn n:=fun e=>h4 (hpn n e)
   rw [← h2 n hp] at hg
   obtain ⟨g1,g2,g3,g4⟩:=h.own n o hg
   exact ⟨g1,g2,g3.rd,.inr ⟨n,o,h3,hg,rfl⟩⟩
 ·rintro b (hb | ⟨n,o,h3,h4,rfl⟩)
  ·exact h.prlt b hb
  ·exact (h.own n o h4).2.2.1.lt
theorem MemOk.unlock {H:Tr AObj} {out:Nat→Prop} {l:Lk} {pn:Nat→Prop} (h:MemOk P ρ D K Pr s w) (hl:LkSpec K H out l) (h2:∀ n,¬ pn n→s.H.get n=H.get n)
 (ha:Agree D ρ ρ') (hg:∀ n,D n→D' n) (h':MemOk P ρ' D' l.K (prSv ρ Pr s.H l.sv) s' w') (hkp:Keeps (prSv ρ Pr s.H l.sv) w w')
 (hk:s'.k≤s''.k) (h3:∀ n,pn n→s''.H.get n=none) (h4:∀ n,¬ pn n→s''.H.get n=(back s'.H l.sv).get n):MemOk P ρ' D' K Pr s'' w':=by
 obtain ⟨b1,b2⟩:=back_get (H:=s'.H) (sv:=l.sv) fun n o o' g g'=>Option.some.inj ((hl.sv n o g).symm.trans (hl.sv n o' g'))
 have split:∀ n o,s''.H.get n=some o→((n,o)∈l.sv∧s.H.get n=some o)∨(¬ InSv l.sv n∧s'.H.get n=some o):=by
  intro n o hn
  have hp:¬ pn n:=fun e=>by rw [h3 n e] at hn;cases hn
  rw [h4 n hp] at hn
  by_cases hi:InSv l.sv n
  ·obtain ⟨o',hi⟩:=hi
   rw [b1 n o' hi] at hn
   obtain rfl:=Option.some.inj hn
   exact .inl ⟨hi,by rw [h2 n hp];exact hl.sv n o' hi⟩
  ·rw [b2 n hi] at hn
   exact .inr ⟨hi,hn⟩
 have same:∀ n o,(n,o)∈l.sv→s.H.get n=some o→prSv ρ Pr s.H l.sv (ρ n).blk:=fun n o g g'=>.inr ⟨n,o,g,g',rfl⟩
 refine ⟨fun n hn=>Nat.lt_of_lt_of_le (h'.dom n hn) hk,?_,?_,?_,?_,h'.gl⟩
 ·intro n o hn
  rcases split n o hn with ⟨g1,g2⟩ | ⟨g1,g2⟩
  ·obtain ⟨e1,e2,e3,e4⟩:=h.own n o g2
   exact ⟨hg n e1,AObj.inD_mono e2 hg,e3.move e2 (ha n e1) ha (hkp.same _ (same n o g1 g2)),by rw [ha n e1];exact e4⟩
  ·obtain ⟨e1,e2,e3,e4⟩:=h'.own n o g2
   exact ⟨e1,e2,e3,fun hp=>e4 (.inl hp)⟩
 ·intro n m o o' hn hm hne
  rcases split n o hn with ⟨g1,g2⟩ | ⟨g1,g2⟩ <;> rcases split m o' hm with ⟨f1,f2⟩ | ⟨f1,f2⟩
  ·rw [ha n (h.own n o g2).1,ha m (h.own m o' f2).1]
   exact h.inj n m o o' g2 f2 hne
  ·rw [ha n (h.own n o g2).1]
   intro e
   exact (h'.own m o' f2).2.2.2 (e ▸ same n o g1 g2)
  ·rw [ha m (h.own m o' f2).1]
   intro e
   exact (h'.own n o g2).2.2.2 (e.symm ▸ same m o' f1 f2)
  ·exact h'.inj n m o o' g2 f2 hne
 ·intro n o hn
  obtain ⟨e1,e2,e3,e4⟩:=h.rd n o hn
  exact ⟨hg n e1,AObj.inD_mono e2 hg,e3.move e2 (ha n e1) ha (hkp.same _ (.inl e4)),by rw [ha n e1];exact e4⟩
 ·intro b hb
  exact Nat.lt_of_lt_of_le (h.prlt b hb) hkp.size
theorem MemOk.look_lt (h:MemOk P ρ D K Pr s w) {H:Tr AObj} {pn:Nat→Prop} {k:Nat} (h2:∀ n,¬ pn n→s.H.get n=H.get n) (hk:s.k=k) (hp:∀ n,pn n→n<k) {n:Nat} {ob:AObj} (ho:Ev.look K ⟨H,k⟩ n=some ob):n<k:=by
 by_cases e:pn n
 ·exact hp n e
 ·have:Ev.look K s n=some ob:=by
   unfold Ev.look
   rw [h2 n e]
   exact ho
  rw [← hk]
  exact h.dom n (h.look this).1
theorem FrOk.fill (h:FrOk P ρ D X fr a) {d:Option Tmp} {v:AV} (hd:∀ t,d=some t→t<fr.n∧evT t fr=v) (hv:v.inD D):FrOk P ρ D (fun t=>X t∧d≠some t) fr (a.put d (v.toV ρ)):=by
 cases d with
 | none=>exact ⟨h.size,h.gl,fun t ht=>h.tmps t fun hx=>ht ⟨hx,by simp⟩,h.defs⟩
 | some d =>
  obtain ⟨hc,he⟩:=hd d rfl
  refine ⟨by simp [Act.put,h.size],h.gl,fun t ht=>?_,h.defs⟩
  by_cases e:t=d
  ·subst e
   rw [he]
   refine ⟨?_,hv⟩
   have:t<a.tmps.size:=by rw [h.size];exact hc
   simp [Act.put,Array.getD,this]
  ·obtain ⟨h1,h2⟩:=h.tmps t fun hx=>ht ⟨hx,by simpa using Ne.symm e⟩
   refine ⟨?_,h2⟩
   rw [← h1]
   simp only [Act.put,Array.getD_eq_getD_getElem?,Array.getElem?_setIfInBounds]
   rw [if_neg (Ne.symm e)]
theorem FrOk.ahead (h:FrOk P ρ D X fr a) {Y:Tmp→Prop} (hf:FrEq Y fr fr') (hd:fr'.defs=fr.defs):FrOk P ρ D (fun t=>X t∨Y t) fr' a :=
 ⟨by rw [h.size,hf.n],by rw [hf.gl,h.gl],fun t ht=>by
  have h1:=h.tmps t fun e=>ht (.inl e)
  rw [hf.evT fun e=>ht (.inr e)]
  exact h1,by rw [hd];exact h.defs⟩
end
section
variable {ops:List Oper}
theorem dst_soft (h:tmpsOk ops (entries ops)=true) {j:PE} (hj:j∈entries ops) (hs:j.loud=false) {d:Tmp} (hd:j.op.dst=some d) :
 ¬ Looks ops j.op d∧∀ i∈entries ops,i.idx≠j.idx→i.op.dst≠some d∧(inMask i.anc j.idx=true∨¬ Looks ops i.op d):=by
 have h1:=(lall_iff _ _).1 h j hj
 rw [hd] at h1
 have h1:sw j.loud (dstLoudOk ops (entries ops) j d) (dstOk ops (entries ops) j d)=true:=h1
 rw [sw_eq,hs] at h1
 simp only [Bool.false_eq_true,if_false] at h1
 unfold dstOk at h1
 rw [band_eq,Bool.and_eq_true,bnot_eq,Bool.not_eq_true',lall_iff] at h1
 refine ⟨looksB_false h1.1,fun i hi hne=>?_⟩
 have h2:=h1.2 i hi
 rw [bor_eq,nbeq_eq,Bool.or_eq_true,decide_eq_true_eq] at h2
 have h2:=h2.resolve_left hne
 rw [band_eq,Bool.and_eq_true,bnot_eq,Bool.not_eq_true',bor_eq,Bool.or_eq_true,bnot_eq,Bool.not_eq_true'] at h2
 refine ⟨fun e=>?_,h2.2.imp id looksB_false⟩
 have h3:=h2.1
 unfold dstIs at h3
 rw [e] at h3
 have h3:Nat.beq d d=false:=h3
 rw [nbeq_eq] at h3
 simp at h3
theorem dst_loud (h:tmpsOk ops (entries ops)=true) {j:PE} (hj:j∈entries ops) (hs:j.loud=true) {d:Tmp} (hd:j.op.dst=some d) {i:PE} (hi:i∈entries ops) (hl:i.loud=false) :
 inMask i.anc j.idx=true∨inMask j.anc i.idx=true∨¬ Looks ops i.op d:=by
 have h1:=(lall_iff _ _).1 h j hj
 rw [hd] at h1
 have h1:sw j.loud (dstLoudOk ops (entries ops) j d) (dstOk ops (entries ops) j d)=true:=h1
 rw [sw_eq,hs] at h1
 simp only [if_true] at h1
 have h2:=(lall_iff _ _).1 h1 i hi
 rw [bor_eq,Bool.or_eq_true,hl] at h2
 have h2:=h2.resolve_left (by simp)
 rw [bor_eq,Bool.or_eq_true,bor_eq,Bool.or_eq_true,bnot_eq,Bool.not_eq_true'] at h2
 exact h2.imp id (Or.imp id looksB_false)
theorem entries_inj {p q:PE} (hp:p∈entries ops) (hq:q∈entries ops) (h:p.idx=q.idx):p=q:=by
 have h1:=entries_mem.1 hp
 have h2:=entries_mem.1 hq
 rw [h,h2] at h1
 exact (Option.some.inj h1).symm
end
end Go.Ev
namespace Go.Ev
def Pg (L:Nat) (listed:Array Bool) (i:Nat):Prop:=inL L i∧¬ inR listed i
def Holds (fr:Fr) (d:Option Tmp) (v:AV):Prop:=∀ t,d=some t→t<fr.n∧evT t fr=v
def SoftOk (K:Mem) (r:RS) (p:PE):Sil→Prop
 | .val v=>Holds r.fr p.op.dst v∧∀ q∈r.ps,q.idx=p.idx→q.nw=none
 | .read n g=>∃ ob v,look K r.s n=some ob∧g ob=some v∧Holds r.fr p.op.dst v∧(⟨p.idx,some n,none⟩:Pend)∈r.ps∧∀ q∈r.ps,q.nw=some n→inMask p.anc q.idx=true
 | .new ob mk=>∃ m,(⟨p.idx,none,some m⟩:Pend)∈r.ps∧r.s.H.get m=some ob∧Holds r.fr p.op.dst (mk m)
 | .loud=>False
def PendOk (E:Env) (K:Mem) (ops:List Oper) (r:RS) (p:PE):Prop :=
 (wantedA ops r.fr p.op.guard=false∧Holds r.fr p.op.dst undefA∧∀ q∈r.ps,q.idx=p.idx→q.nw=none) ∨
 (wantedA ops r.fr p.op.guard=true∧∃ x,silF p.op.op E r.fr=some x∧SoftOk K r p x)
def PgName (r:RS) (listed:Array Bool) (n:Nat):Prop:=∃ q∈r.ps,q.nw=some n∧¬ inR listed q.idx
def PgSlot (ops:List Oper) (L:Nat) (listed:Array Bool) (t:Tmp):Prop:=∃ q∈entries ops,Pg L listed q.idx∧q.op.dst=some t
structure InvC (E:Env) (K:Mem) (ops:List Oper) (L:Nat) (listed:Array Bool) (r:RS):Prop where
 size:listed.size=ops.length
 sub:∀ j,inR listed j→inL L j
 lt:∀ j,inL L j→j<ops.length
 cL:Closed ops (inL L)
 cR:Closed ops (inR listed)
 soft:∀ p∈entries ops,Pg L listed p.idx→p.loud=false
 pend:∀ p∈entries ops,Pg L listed p.idx→PendOk E K ops r p
 psL:∀ q∈r.ps,inL L q.idx
 psk:∀ q∈r.ps,∀ m,q.nw=some m→m<r.s.k
 psI:∀ q∈r.ps,∀ q'∈r.ps,q.idx=q'.idx→q=q'
 psN:∀ q∈r.ps,∀ q'∈r.ps,∀ m,q.nw=some m→q'.nw=some m→q.idx=q'.idx
structure InvR (P:Program) (ρ₀:Ren) (D₀:Dom) (K:Mem) (Pr:Nat→Prop) (s₀:St) (w₀:World) (ops:List Oper) (L:Nat) (listed:Array Bool) (r:RS) (a:Act) (w:World) (ρ:Ren) (D:Dom) (sR:St):Prop where
 agree:Agree D₀ ρ₀ ρ
 grow:∀ n,D₀ n→D n
 fresh:∀ n,D n→D₀ n∨s₀.k≤n
 keeps:Keeps Pr w₀ w
 le:s₀.k≤r.s.k
 mem:MemOk P ρ D K Pr sR w
 k:sR.k=r.s.k
 h1:∀ n,PgName r listed n→sR.H.get n=none
 h2:∀ n,¬ PgName r listed n→sR.H.get n=r.s.H.get n
 nd:∀ n,PgName r listed n→¬ D n
 lo:∀ q∈r.ps,∀ m,q.nw=some m→s₀.k≤m
 fr:FrOk P ρ D (PgSlot ops L listed) r.fr a
def Inv (P:Program) (E:Env) (ρ₀:Ren) (D₀:Dom) (K:Mem) (Pr:Nat→Prop) (s₀:St) (w₀:World) (ops:List Oper) (L:Nat) (listed:Array Bool) (r:RS) (a:Act) (w:World):Prop :=
 InvC E K ops L listed r∧∃ ρ D sR,InvR P ρ₀ D₀ K Pr s₀ w₀ ops L listed r a w ρ D sR
section
variable {P:Program} {E:Env} {ρ₀:Ren} {D₀:Dom} {K:Mem} {Pr:Nat→Prop} {s₀:St} {w₀:World} {ops:Array Oper} {L:Nat} {listed:Array Bool} {r:RS} {a:Act} {w:World} {ρ:Ren} {D:Dom} {sR:St} {rec:Rec}
theorem clear_slots (hT:tmpsOk ops.toList (entries ops.toList)=true) (hE:edgesOk (entries ops.toList)=true) (hC:InvC E K ops.toList L listed r) {p:PE} (hp:p∈entries ops.toList) (ha:After (inR listed) p) {t:Tmp} (ht:PgSlot ops.toList L listed t):¬ Looks ops.toList p.op t:=by
 obtain ⟨q,hq,hpg,hd⟩:=ht
 obtain ⟨h1,h2⟩:=dst_soft hT hq (hC.soft q hq hpg) hd
 by_cases e:p.idx=q.idx
 ·rw [entries_inj hp hq e];exact h1
 ·rcases (h2 p hp e).2 with h3 | h3
  ·exact absurd (anc_in hE hC.cR hp ha h3) hpg.2
  ·exact h3
theorem real_wanted (hf:FrOk P ρ D (PgSlot ops.toList L listed) r.fr a) {p:PE} (hcl:∀ t,PgSlot ops.toList L listed t→¬ Looks ops.toList p.op t):wantedA ops.toList r.fr p.op.guard=Region.wanted p.op (yielded ops a.tmps):=by
 refine wanted_eq hf fun g t hg ht hX=>hcl t hX (.inr ?_)
 cases hq:ops[g.1]? with
 | none=>rw [hq] at ht;cases ht
 | some q =>
  rw [hq] at ht
  exact ⟨g,q,hg,by simpa using hq,ht⟩
theorem real_sees (hf:FrOk P ρ D (PgSlot ops.toList L listed) r.fr a) (hm:MemOk P ρ D K Pr sR w) {p:PE} (hcl:∀ t,PgSlot ops.toList L listed t→¬ Looks ops.toList p.op t):Sees ρ D r.fr a.eval p.op.op.operands.toList :=
 sees_of hf hm.gl fun t ht hX=>hcl t hX (.inl ht)
theorem c_step (hN:EnvOk P E) (hT:tmpsOk ops.toList (entries ops.toList)=true) (hE:edgesOk (entries ops.toList)=true) (hI:Inv P E ρ₀ D₀ K Pr s₀ w₀ ops.toList L listed r a w) {p:PE} (hp:p∈entries ops.toList) (hpg:Pg L listed p.idx) (ha:After (inR listed) p)
 {Q:Exit→Act→World→Prop} {N:Act→World→Prop} (hK:∀ a' w',Inv P E ρ₀ D₀ K Pr s₀ w₀ ops.toList L (listed.setIfInBounds p.idx true) r a' w'→N a' w'):wpOp P ops Q p.idx N a w:=by
 obtain ⟨hC,ρ,D,sR,hR⟩:=hI
 have hlt:p.idx<listed.size:=by rw [hC.size];exact hC.lt _ hpg.1
 have hset:=fun j=>inR_set hlt j
 have hcl:=fun t ht=>clear_slots hT hE hC hp ha (t:=t) ht
 have hoi:ops[p.idx]? = some p.op:=by
  have:=(entries_get (entries_mem.1 hp)).2
  simpa using this
 have hC':InvC E K ops.toList L (listed.setIfInBounds p.idx true) r:=by
  refine ⟨by simp [hC.size],fun j hj=>?_,hC.lt,hC.cL,?_,fun q hq hg=>hC.soft q hq ⟨hg.1,fun e=>hg.2 ((hset _).2 (.inl e))⟩,fun q hq hg=>hC.pend q hq ⟨hg.1,fun e=>hg.2 ((hset _).2 (.inl e))⟩,hC.psL,hC.psk,hC.psI,hC.psN⟩
  ·rcases (hset j).1 hj with h | rfl
   ·exact hC.sub j h
   ·exact hpg.1
  ·intro q hq hin j hj
   exact (hset j).2 ((hC.cR.add hE hp ha) q hq ((hset _).1 hin) j hj)
 have hslot:∀ t,PgSlot ops.toList L listed t∧p.op.dst≠some t→PgSlot ops.toList L (listed.setIfInBounds p.idx true) t:=by
  rintro t ⟨⟨q,hq,hg,hd⟩,hne⟩
  refine ⟨q,hq,⟨hg.1,fun e=>?_⟩,hd⟩
  rcases (hset _).1 e with e | e
  ·exact hg.2 e
  ·rw [entries_inj hq hp e] at hd;exact hne hd
 have hname:∀ n,PgName r (listed.setIfInBounds p.idx true) n→PgName r listed n:=fun n ⟨q,hq,h1,h2⟩=>⟨q,hq,h1,fun e=>h2 ((hset _).2 (.inl e))⟩
 have hname':(∀ q∈r.ps,q.idx=p.idx→q.nw=none)→∀ n,PgName r listed n→PgName r (listed.setIfInBounds p.idx true) n:=by
  rintro hno n ⟨q,hq,h1,h2⟩
  refine ⟨q,hq,h1,fun e=>?_⟩
  rcases (hset _).1 e with e | e
  ·exact h2 e
  ·rw [hno q hq e] at h1;cases h1
 have fin:∀ v:AV,v.inD D→Holds r.fr p.op.dst v→(∀ q∈r.ps,q.idx=p.idx→q.nw=none)→N (a.put p.op.dst (v.toV ρ)) w:=by
  intro v hv hh hno
  refine hK _ _ ⟨hC',ρ,D,sR,⟨hR.agree,hR.grow,hR.fresh,hR.keeps,hR.le,hR.mem,hR.k,fun n hn=>hR.h1 n (hname n hn),fun n hn=>hR.h2 n fun e=>hn (hname' hno n e),fun n hn=>hR.nd n (hname n hn),hR.lo,?_⟩⟩
  exact (hR.fr.fill hh hv).mono hslot
 unfold wpOp
 simp only [hoi]
 rw [← real_wanted hR.fr hcl]
 rcases hC.pend p hp hpg with ⟨hw,hh,hno⟩ | ⟨hw,x,hx,hS⟩
 ·rw [hw]
  simp only [Bool.false_eq_true,if_false]
  exact fin undefA trivial hh hno
 ·rw [hw]
  simp only [if_true]
  refine .inl ?_
  have hs:=real_sees hR.fr hR.mem hcl
  obtain ⟨S,hSr,hV⟩:=(silF_ok hN.toTysOk hs hx).resolve_left (by rintro rfl;exact hS)
  unfold Oper.wp
  rw [hSr]
  cases x with
  | loud=>exact hS.elim
  | val v =>
   obtain ⟨hh,hno⟩:=hS
   rw [hV.2 w]
   exact fin v hV.1 hh hno
  | read n g =>
   obtain ⟨ob,v,h1,h2,h3,h4,h5⟩:=hS
   have hno:∀ q∈r.ps,q.idx=p.idx→q.nw=none:=fun q hq e=>by
    rw [hC.psI q hq _ h4 e]
   have hnp:¬ PgName r listed n:=fun ⟨q,hq,e1,e2⟩=>e2 (anc_in hE hC.cR hp ha (h5 q hq e1))
   have hlk:look K sR n=some ob:=by
    unfold look
    rw [hR.h2 n hnp]
    exact h1
   obtain ⟨g1,g2,g3⟩:=hR.mem.look hlk
   obtain ⟨e1,e2⟩:=hV.2 ob v g2 h2
   rw [e2 w g3]
   exact fin v e1 h3 hno
  | new ob mk =>
   obtain ⟨m,h1,h2,h3⟩:=hS
   have hm:PgName r listed m:=⟨_,h1,rfl,hpg.2⟩
   have hnd:=hR.nd m hm
   obtain ⟨g1,g2,g3⟩:=hV
   obtain ⟨w',l,e1,e2,e3,e4⟩:=g3 w m hnd
   rw [e1]
   obtain ⟨m1,m2,m3⟩:=hR.mem.allocAt (s':=⟨sR.H.set m ob,sR.k⟩) hnd (by show m<sR.k;rw [hR.k];exact hC.psk _ h1 m rfl) (Nat.le_refl _) e2 e3 e4 g1 fun n=>Tr.get_set _ _ _ _
   have hm':¬ PgName r (listed.setIfInBounds p.idx true) m:=by
    rintro ⟨q,hq,f1,f2⟩
    exact f2 ((hset _).2 (.inr (hC.psN q hq _ h1 m f1 rfl)))
   have hne:∀ n,n≠m→(PgName r listed n→PgName r (listed.setIfInBounds p.idx true) n):=by
    rintro n hn ⟨q,hq,f1,f2⟩
    refine ⟨q,hq,f1,fun e=>?_⟩
    rcases (hset _).1 e with e | e
    ·exact f2 e
    ·rw [hC.psI q hq _ h1 e] at f1
     exact hn (Option.some.inj f1).symm
   refine hK _ _ ⟨hC',upd ρ m l,addD D m,⟨sR.H.set m ob,sR.k⟩,⟨hR.agree.trans m2 hR.grow,fun n hn=>.inl (hR.grow n hn),?_,hR.keeps.trans m3,hR.le,m1,hR.k,?_,?_,?_,hR.lo,?_⟩⟩
   ·rintro n (hn | rfl)
    ·exact hR.fresh n hn
    ·exact .inr (hR.lo _ h1 n rfl)
   ·intro n hn
    have:n≠m:=fun e=>hm' (e ▸ hn)
    show (sR.H.set m ob).get n=none
    rw [Tr.get_set,if_neg this]
    exact hR.h1 n (hname n hn)
   ·intro n hn
    show (sR.H.set m ob).get n=_
    rw [Tr.get_set]
    split
    ·rename_i e
     rw [e,h2]
    ·rename_i e
     exact hR.h2 n fun h=>hn (hne n e h)
   ·rintro n hn (h | h)
    ·exact hR.nd n (hname n hn) h
    ·exact hm' (h ▸ hn)
   ·have hf:=hR.fr.ext m2 (fun n hn=>(Or.inl hn:addD D m n))
    exact (hf.fill h3 (g2 (addD D m) m (.inr rfl))).mono hslot
end
end Go.Ev
