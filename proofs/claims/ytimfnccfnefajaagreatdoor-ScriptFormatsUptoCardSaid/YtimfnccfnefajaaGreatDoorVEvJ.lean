/- A part of the proof: EvLaid, EvRow, EvClo, EvNm -/
import Derived.Test.YtimfnccfnefajaaGreatDoorVEvI
import Derived.OpenShut
import Derived.LaidMore
import Derived.Shelf.Vars
import Derived.Handed
import Derived.ProofKit
import Derived.Below
import GoSem.ClaimFn
import GoSem.Claims
set_option linter.unusedSimpArgs false
set_option linter.unusedVariables false
namespace Go.Ev
section
variable {P:Program} {w:World} {ρ:Ren}
def tiles (P:Program):Nat→List Field→Nat→Bool
 | off,[],n=>Nat.beq off n
 | off,f :: fs,n=>Nat.beq f.offset off && tiles P (off+P.cellsOf f.type) fs n
def layF (lay:TypeId→DataW Unit→Option (List AV)):List Field→List (DataW Unit)→Option (List AV)
 | [],[]=>some []
 | f :: fs,d :: ds=>(lay f.type d).bind fun x=>(layF lay fs ds).map (x ++ ·)
 | _,_=>none
def layE (lay:DataW Unit→Option (List AV)):List (DataW Unit)→Option (List AV)
 | []=>some []
 | d :: ds=>(lay d).bind fun x=>(layE lay ds).map (x ++ ·)
def layI:DataW Unit→Option (List AV)
 | .lit (.int k x)=>some [.int k x]
 | _=>none
def layS:DataW Unit→Option (List AV)
 | .lit (.string bs)=>some [.str bs]
 | _=>none
def layG (f:List (DataW Unit)→Option (List AV)):DataW Unit→Option (List AV)
 | .agg ds=>f ds
 | _=>none
def layA (P:Program):Nat→TypeId→DataW Unit→Option (List AV)
 | 0,_,_=>none
 | n+1,t,d=>match P.underlying t with
  | some (.int _)=>layI d
  | some .string=>layS d
  | some (.struct fs)=>if tiles P 0 fs.toList (P.cellsOf t) then layG (layF (layA P n) fs.toList) d else none
  | some (.array k e)=>if Nat.beq (k * P.cellsOf e) (P.cellsOf t) then layG (layE (layA P n e)) d else none
  | _=>none
theorem layF_cs {lay:TypeId→DataW Unit→Option (List AV)} {cs:List Value}:∀ (fs:List Field) (ds:List (DataW Unit)) (off n:Nat) (vs:List AV),tiles P off fs n=true→layF lay fs ds=some vs→cs.length=n →
 (∀ (i:Nat) f d,fs[i]? = some f→ds[i]? = some d→∀ x,lay f.type d=some x→(cs.drop f.offset).take (P.cellsOf f.type)=x.map (AV.toV ρ))→cs.drop off=vs.map (AV.toV ρ)
 | [],[],off,n,vs,ht,h,hl,_=>by
  obtain rfl:=Option.some.inj h
  have:off=n:=Nat.eq_of_beq_eq_true ht
  rw [List.drop_eq_nil_of_le (by omega)]
  rfl
 | [],_ :: _,_,_,_,_,h,_,_=>by cases h
 | _ :: _,[],_,_,_,_,h,_,_=>by cases h
 | f :: fs,d :: ds,off,n,vs,ht,h,hl,he=>by
  obtain ⟨x,hx,h⟩:=Option.bind_eq_some_iff.1 h
  obtain ⟨ys,hy,rfl⟩:=Option.map_eq_some_iff.1 h
  rw [tiles,Bool.and_eq_true] at ht
  have ho:f.offset=off:=Nat.eq_of_beq_eq_true ht.1
  have ih:=layF_cs fs ds _ n ys ht.2 hy hl fun i f d hf hd=>he (i+1) f d (by simpa using hf) (by simpa using hd)
  have h0:=he 0 f d rfl rfl x hx
  rw [ho] at h0
  rw [List.map_append,← h0,← ih,← List.drop_drop,List.take_append_drop]
theorem layE_cs {lay:DataW Unit→Option (List AV)} {cs:List Value} {z:Nat}:∀ (ds:List (DataW Unit)) (k:Nat) (vs:List AV),layE lay ds=some vs→cs.length=(k+ds.length) * z →
 (∀ (i:Nat) d,ds[i]? = some d→∀ x,lay d=some x→(cs.drop ((k+i) * z)).take z=x.map (AV.toV ρ))→cs.drop (k * z)=vs.map (AV.toV ρ)
 | [],k,vs,h,hl,_=>by
  obtain rfl:=Option.some.inj h
  rw [List.drop_eq_nil_of_le (by rw [hl];simp)]
  rfl
 | d :: ds,k,vs,h,hl,he=>by
  obtain ⟨x,hx,h⟩:=Option.bind_eq_some_iff.1 h
  obtain ⟨ys,hy,rfl⟩:=Option.map_eq_some_iff.1 h
  have ih:=layE_cs (cs:=cs) (z:=z) ds (k+1) ys hy (by rw [hl,List.length_cons];congr 1;omega) fun i d hd x hx=>by
   have:=he (i+1) d (by simpa using hd) x hx
   rwa [show k+(i+1)=k+1+i from by omega] at this
  have h0:=he 0 d rfl x hx
  rw [Nat.add_zero] at h0
  rw [List.map_append,← h0,← ih,show (k+1) * z=k * z+z from Nat.succ_mul k z,← List.drop_drop,List.take_append_drop]
theorem lay_trod {base:Nat} {spare:Nat→Bool} {held:Bool}:∀ (n fuel:Nat) (t:TypeId) (d:DataW Unit) (vs:List AV) (cs:List Value) (p:List MemPlace),layA P n t d=some vs→DataW.trod (fun _=>()) P w base spare held fuel t cs=some (d,p)→cs=vs.map (AV.toV ρ):=by
 intro n
 induction n with
 | zero=>intro _ _ _ _ _ _ h;cases h
 | succ n ih =>
  intro fuel t d vs cs p h ht
  rw [layA] at h
  split at h
  ·rename_i k hu
   obtain ⟨x,rfl,e,_⟩:=DataW.trod_int hu ht
   obtain ⟨rfl,_⟩:=Prod.mk.inj e
   obtain rfl:=Option.some.inj h
   rfl
  ·rename_i hu
   obtain ⟨s,rfl,e,_⟩:=DataW.trod_string hu ht
   obtain ⟨rfl,_⟩:=Prod.mk.inj e
   obtain rfl:=Option.some.inj h
   rfl
  ·rename_i fs hu
   split at h
   ·rename_i htl
    obtain ⟨xs,m,rfl,e,hlen,_,hel⟩:=DataW.trod_struct hu ht
    obtain ⟨rfl,_⟩:=Prod.mk.inj e
    have:=layF_cs (P:=P) (ρ:=ρ) (cs:=cs) fs.toList (xs.map (·.1)) 0 _ vs htl (show layF (layA P n) fs.toList (xs.map (·.1))=some vs from h) hlen fun i f d hf hd x hx=>by
     rw [List.getElem?_map] at hd
     obtain ⟨q,hq,rfl⟩:=Option.map_eq_some_iff.1 hd
     have h1:=hel i f (by rw [← hf];exact (Array.getElem?_toList).symm)
     rw [hq] at h1
     exact ih m _ _ _ _ q.2 hx h1
    simpa using this
   ·cases h
  ·rename_i k e hu
   split at h
   ·rename_i htl
    have htl:=Nat.eq_of_beq_eq_true htl
    obtain ⟨xs,m,rfl,he,hlen,hxl,hel⟩:=DataW.trod_array hu ht
    obtain ⟨rfl,_⟩:=Prod.mk.inj he
    have:=layE_cs (ρ:=ρ) (cs:=cs) (z:=P.cellsOf e) (xs.map (·.1)) 0 vs (show layE (layA P n e) (xs.map (·.1))=some vs from h) (by rw [hlen,← htl,List.length_map,hxl,Nat.zero_add]) fun i d hd x hx=>by
     rw [List.getElem?_map] at hd
     obtain ⟨q,hq,rfl⟩:=Option.map_eq_some_iff.1 hd
     have hi:i<k:=by
      have:=(List.getElem?_eq_some_iff.1 hq).1
      omega
     have h1:=hel i hi
     rw [hq] at h1
     rw [Nat.zero_add]
     exact ih m _ _ _ _ q.2 hx h1
    simpa using this
   ·cases h
  ·cases h
theorem laid_mem:∀ {laid:List (String×DataW Unit)} {ps:List MemPlace},DataW.LaidVars P w laid ps→∀ {n:String} {d:DataW Unit},(n,d)∈laid→∃ g t cs fuel p,P.globalNamed n=some g∧(P.globals[g]?).map (·.type)=some t∧w.var? P n=some cs∧DataW.trod (fun _=>()) P w 0 (fun _=>true) false fuel t cs.toList=some (d,p)
 | [],_,_,_,_,hn=>by cases hn
 | (n0,d0) :: r,ps,h,n,d,hn=>by
  obtain ⟨g,t,cs,fuel,p,q,h1,h2,h3,h4,h5,_⟩:=h
  rcases List.mem_cons.1 hn with e | hn
  ·obtain ⟨rfl,rfl⟩:=Prod.mk.inj e
   exact ⟨g,t,cs,fuel,p,h1,h2,h3,h4⟩
  ·exact laid_mem h5 hn
def shapeE (P:Program) (g:Nat):Option TypeId:=(((begin P (fun _ _=>0) default).world.heap[g]?).bind Obj.row?).map (·.2)
theorem glob_cells (h:w.ShapedOpen P) {g:Nat} {e:TypeId} (hg:g<P.globals.size) (he:shapeE P g=some e):∃ cs,w.heap[g]? = some (.cells cs e (0,0)):=by
 obtain ⟨⟨zero,t⟩,hz,rfl⟩:=Option.map_eq_some_iff.1 he
 obtain ⟨cs,h1,_⟩:=h.1 g zero t hg hz
 exact ⟨cs,h1⟩
theorem rd_laid (h:w.ShapedOpen P) {laid:List (String×DataW Unit)} (hl:laidMet P laid w) {nm:String} {d:DataW Unit} {g:Nat} {e t:TypeId} {vs:List AV} (hn:(nm,d)∈laid) (hg:P.globalNamed nm=some g) (hlt:g<P.globals.size)
 (ht:(P.globals[g]?).map (·.type)=some t) (hv:layA P 6 t d=some vs) (he:shapeE P g=some e) (hρ:ρ g=⟨g,0,0⟩) (f:Nat) (sh:Bool):Rd P ρ w g (.cells vs e f sh):=by
 obtain ⟨ps,hl,_⟩:=hl
 obtain ⟨g',t',cs,fuel,p,h1,h2,h3,h4⟩:=laid_mem hl hn
 obtain rfl:=Option.some.inj (hg.symm.trans h1)
 obtain rfl:=Option.some.inj (ht.symm.trans h2)
 obtain ⟨cs',h5⟩:=glob_cells h hlt he
 have e1:cs'=cs:=by
  unfold World.var? at h3
  rw [hg] at h3
  simp only [Option.bind_some] at h3
  rw [h5] at h3
  exact Option.some.inj h3
 subst e1
 have e2:=lay_trod (ρ:=ρ) 6 _ _ _ _ _ _ hv h4
 obtain ⟨l⟩:=cs'
 have e2:l=vs.map (AV.toV ρ):=e2
 subst e2
 refine ⟨_,(0,0),by rw [hρ];exact h5,fun i v hi=>?_,by rw [hρ];exact Nat.zero_mod _,by rw [hρ];simp⟩
 rw [hρ]
 simp [hi]
noncomputable def optNat (o:Option Nat) (n:Nat):Bool:=oelim o false fun m=>Nat.beq m n
theorem optNat_eq {o:Option Nat} {n:Nat} (h:optNat o n=true):o=some n:=by
 cases o with
 | none=>cases h
 | some m=>rw [Nat.eq_of_beq_eq_true (show Nat.beq m n=true from h)]
noncomputable def laidFits (P:Program) (laid:List (String×DataW Unit)) (nms:List (Nat×String×TypeId)) (q:Nat×AObj):Bool :=
 AObj.el (fun vs e _ _=>oelim (lfind (fun x=>Nat.beq x.1 q.1) nms) false fun x=>oelim (lfind (fun y=>strEq y.1 x.2.1) laid) false fun y=>oelim (layA P 6 x.2.2 y.2) false fun vs' =>
  band (eqAVs vs vs') (band (optNat (P.globalNamed x.2.1) q.1) (band (optNat ((P.globals[q.1]?).map (·.type)) x.2.2) (band (optNat (shapeE P q.1) e) (nlt q.1 P.globals.size))))) (fun _ _=>false) (fun _ _=>false) q.2
theorem laidFits_rd (h:w.ShapedOpen P) {laid:List (String×DataW Unit)} (hl:laidMet P laid w) {nms:List (Nat×String×TypeId)} {q:Nat×AObj} (hq:laidFits P laid nms q=true) (hρ:ρ q.1=⟨q.1,0,0⟩):Rd P ρ w q.1 q.2:=by
 obtain ⟨g,o⟩:=q
 cases o with
 | cells vs e f sh =>
  unfold laidFits at hq
  simp only [AObj.el] at hq
  cases hx:lfind (fun x:Nat×String×TypeId=>Nat.beq x.1 g) nms with
  | none=>rw [hx] at hq;cases hq
  | some x =>
   rw [hx] at hq
   simp only [oelim] at hq
   cases hy:lfind (fun y:String×DataW Unit=>strEq y.1 x.2.1) laid with
   | none=>rw [hy] at hq;cases hq
   | some y =>
    rw [hy] at hq
    simp only at hq
    cases hv:layA P 6 x.2.2 y.2 with
    | none=>rw [hv] at hq;cases hq
    | some vs' =>
     rw [hv] at hq
     simp only [band_eq,Bool.and_eq_true] at hq
     obtain ⟨h1,h2,h3,h4,h5⟩:=hq
     obtain rfl:=eqAVs_eq h1
     rw [lfind_eq] at hy
     have hm:=List.mem_of_find?_eq_some hy
     have hs:y.1=x.2.1:=by
      have:=List.find?_some hy
      simpa [strEq] using this
     have hm2:(x.2.1,y.2)∈laid:=by rw [← hs];exact hm
     rw [nlt_eq,decide_eq_true_eq] at h5
     exact rd_laid h hl hm2 (optNat_eq h2) h5 (optNat_eq h3) hv (optNat_eq h4) hρ f sh
 | map=>cases hq
 | siter=>cases hq
end
end Go.Ev
namespace Go.Ev
open Go.ChangeShapes Go.WideShapes Go.ChangeAt Go.RowKit
section
variable {H:Type} {enc:TypeId×Value→H} {P:Program}
theorem handed_and {a:Assume} {C:Checked} {os:Os} {f:FuncId} {fn:Func} {s:ChangeSpec} {conds:List PathCond} {apart fresh handsOn again:Bool} {X:World→Array Value→Prop}
 (hX:∀ (w w':World) (args:Array Value),w.heap=w'.heap→X w args→X w' args)
 (own:ownKnob C.prog.godebug=none) (started:os.Started) (noInit:C.prog.inits.idxOf? f=none) (hfn:C.prog.funcs[f]? = some fn)
 (witness:∃ (w:World) (tape:Tape) (i:Input),w.os=os∧(w.forCall tape i).Shaped C.prog∧i.vars=[]∧Input.okWide C.prog (w.forCall tape i) .any w.heap.size f i ∧
  ((s.pre enc C.prog fn conds apart (w.forCall tape i).memory i.args∧X (w.forCall tape i).memory i.args)∧sizedMet enc C.prog fn (OpenSpec.ofChange s) apart (w.forCall tape i).memory i.args)∧a.holds C.prog (lone (Frame.enter C.prog f i.args .normal) [] (w.forCall tape i)))
 (contract:∀ (W:World) (base:Nat) (args:Array Value) (ds gs:List (DataW H)) (before:List MemPlace),
  (∀ (j:Nat) t v,fn.params[j]? = some t→args[j]? = some v→Value.okWide C.prog W .any base t v) →
  DataW.Whole enc C.prog fn.params.toList s.vars apart W args.toList ds gs before →
  (DataW.weightsEach C.prog (fn.params.toList ++ s.plain.varTypes C.prog) (ds ++ gs)).all (·≤reachBytes)=true→W.ShapedOpen C.prog→X W args →
  Calls C.prog f args W fun e W'=>∃ v,e=.returned v∧s.post enc C.prog fn apart fresh handsOn again W args v W') :
 ReturnsInHanded a C os f .any (fun w args=>(s.pre enc C.prog fn conds apart w args∧X w args)∧sizedMet enc C.prog fn (OpenSpec.ofChange s) apart w args) (s.post enc C.prog fn apart fresh handsOn again):=by
 refine returnsInHanded_of_calls own started noInit witness ?_
 intro w tape i _ hsh _ hok hpre _
 obtain ⟨_,_,_,fn',hfn',_,_,_,_,hval⟩:=hok
 have e:fn'=fn:=Option.some.inj (hfn'.symm.trans hfn)
 subst e
 obtain ⟨⟨⟨ds,gs,before,hw,_⟩,hx⟩,hz⟩:=hpre
 have hw':=DataW.Whole.of_heap (w':=w.forCall tape i) (by rfl) hw
 refine (contract (w.forCall tape i) w.heap.size i.args ds gs before hval hw' (hz.weights hw) hsh (hX _ _ _ (by rfl) hx)).mono fun e W' ⟨v,he,hp⟩=>?_
 subst he
 exact ChangeSpec.post_blind hp
theorem all_stays (hl:laidOutB P=true) {W W':World} {sp:Nat→Bool}:∀ {ts:List TypeId} {vs:List Value} {ds:List (DataW H)} {ps:List MemPlace},(∀ t∈ts,P.readableRec t=true∧t<P.types.size)→DataW.TrodAll enc P W 0 (fun _=>true) true ts vs ds ps →
 (∀ p∈ps,W.sameAt W' p)→(∀ p∈ps,sp p.block=true)→DataW.TrodAll enc P W' 0 sp true ts vs ds ps
 | [],[],[],_,_,h,_,_=>h
 | [],[],_ :: _,_,_,h,_,_=>h.elim
 | [],_ :: _,_,_,_,h,_,_=>h.elim
 | _ :: _,[],_,_,_,h,_,_=>h.elim
 | _ :: _,_ :: _,[],_,_,h,_,_=>h.elim
 | t :: ts,v :: vs,d :: ds,ps,hr,h,hs,hsp=>by
  obtain ⟨p,q,h1,h2,rfl⟩:=h
  obtain ⟨r1,r2⟩:=hr t List.mem_cons_self
  exact ⟨p,q,WideElems.Trod_stays hl r1 r2 h1 (fun x hx=>hs x (List.mem_append_left _ hx)) (fun x hx=>hsp x (List.mem_append_left _ hx)),
   all_stays hl (fun t ht=>hr t (List.mem_cons_of_mem _ ht)) h2 (fun x hx=>hs x (List.mem_append_right _ hx)) (fun x hx=>hsp x (List.mem_append_right _ hx)),rfl⟩
theorem law_post {f:Func} {s:ChangeSpec} {apart handsOn:Bool} {W W':World} {args:Array Value} {ds gs:List (DataW H)} {before:List MemPlace} (hv:s.vars=[])
 (hW:DataW.Whole enc P f.params.toList s.vars apart W args.toList ds gs before) (hl:laidOutB P=true) (hp:∀ t∈f.params.toList,P.readableRec t=true∧t<P.types.size)
 {b:TypeId} (hb:P.underlying b=some .bool) (hr:f.resultTypes=#[b]) (hfn:s.fn H (ds ++ gs)={ results:=[.lit (.bool true)],args:=ds }) (hbl:Below W.heap.size W W') :
 s.post enc P f apart true handsOn false W args (.bool true) W':=by
 have hlt:∀ p∈before,p.block<W.heap.size:=fun p hp=>hW.lt p hp
 obtain ⟨p,q,hA,hV,rfl,hfz,hnd⟩:=id hW
 have hq:q=[]∧gs=[]:=by
  rw [hv] at hV
  cases gs with
  | nil=>exact ⟨hV,rfl⟩
  | cons=>exact hV.elim
 obtain ⟨rfl,rfl⟩:=hq
 rw [List.append_nil] at hlt
 refine ⟨ds,[],p ++ [],[],p,[],hW,?_,?_,?_,hbl.frame _,fun h=>by cases h⟩
 ·rw [hfn,hr]
  exact trodAll_mk1 (shut_bool hb _)
 ·rw [hfn]
  exact all_stays hl hp hA (fun x hx=>hbl.same (hlt x hx)) fun x hx=>by simpa using hlt x hx
 ·rw [hv,hfn]
  rfl
end
end Go.Ev
namespace Go.Ev
section
variable {α β:Type}
noncomputable def chunk (l:List α) (n k:Nat):List α:=ltake n (ldrop (Nat.mul n k) l)
theorem chunk_eq (l:List α) (n k:Nat):chunk l n k=(l.drop (n * k)).take n:=by
 unfold chunk
 rw [ltake_eq,ldrop_eq]
 rfl
theorem all_chunks {p:α→Bool} {l:List α} {n m:Nat} (hn:0<n) (h:∀ k,k<m→lall p (chunk l n k)=true) (hl:l.length≤n * m):∀ a∈l,p a=true:=by
 intro a ha
 obtain ⟨i,hi⟩:=List.getElem?_of_mem ha
 have hil:=(List.getElem?_eq_some_iff.1 hi).1
 have hk:i / n<m:=Nat.div_lt_of_lt_mul (by omega)
 refine (lall_iff _ _).1 (h (i / n) hk) a ?_
 rw [chunk_eq]
 refine List.mem_of_getElem? (i:=i % n) ?_
 rw [List.getElem?_take,if_pos (Nat.mod_lt _ hn),List.getElem?_drop,Nat.div_add_mod]
 exact hi
theorem chunks_app (l:List α) (n:Nat):∀ m,(List.range m).flatMap (fun k=>(l.drop (n * k)).take n)=l.take (n * m)
 | 0=>by simp
 | m+1=>by
  rw [List.range_succ,List.flatMap_append,chunks_app l n m,List.flatMap_singleton,Nat.mul_succ,List.take_add]
theorem map_chunks {f:α→β} {l:List α} {n m:Nat} {T:Nat→List β} (h:∀ k,k<m→lmap f (chunk l n k)=T k) (hl:l.length≤n * m):l.map f=(List.range m).flatMap T:=by
 have e:l=(List.range m).flatMap (fun k=>(l.drop (n * k)).take n):=by rw [chunks_app,List.take_of_length_le hl]
 have e2:(List.range m).flatMap T=(List.range m).flatMap fun k=>((l.drop (n * k)).take n).map f:=by
  have:∀ (ks:List Nat),(∀ k∈ks,k<m)→ks.flatMap T=ks.flatMap fun k=>((l.drop (n * k)).take n).map f:=by
   intro ks
   induction ks with
   | nil=>intro _;rfl
   | cons k ks ih =>
    intro hks
    rw [List.flatMap_cons,List.flatMap_cons,ih fun x hx=>hks x (List.mem_cons_of_mem _ hx),← h k (hks k List.mem_cons_self),lmap_eq,chunk_eq]
  exact this _ fun k hk=>List.mem_range.1 hk
 rw [e2]
 conv=>lhs;rw [e]
 rw [List.map_flatMap]
end
def bitAt (mask f:Nat):Bool:=Nat.beq (Nat.land 1 (Nat.shiftRight mask f)) 1
def bitSet (mask f:Nat):Nat:=Nat.lor mask (Nat.shiftLeft 1 f)
theorem bitAt_eq (mask f:Nat):bitAt mask f=Nat.testBit mask f:=by
 unfold bitAt Nat.testBit
 show Nat.beq (Nat.land 1 (mask >>> f)) 1=(1 &&& (mask >>> f) != 0)
 have h:(1 &&& (mask >>> f))=(mask >>> f) % 2:=Nat.one_and_eq_mod_two _
 have h2:Nat.land 1 (mask >>> f)=(mask >>> f) % 2:=h
 rw [h2,h]
 rcases Nat.mod_two_eq_zero_or_one (mask >>> f) with e | e <;> rw [e] <;> rfl
theorem bitAt_set (mask f x:Nat):bitAt (bitSet mask f) x=(bitAt mask x || x == f):=by
 rw [bitAt_eq,bitAt_eq]
 unfold bitSet
 show Nat.testBit (mask ||| 1 <<< f) x=_
 rw [Nat.testBit_or,Nat.testBit_shiftLeft]
 congr 1
 by_cases h:x=f
 ·subst h
  simp
 ·by_cases h2:x<f
  ·have:¬ x ≥ f:=by omega
   simp [this,h]
  ·have h3:x ≥ f:=by omega
   obtain ⟨d,hd⟩:∃ d,x - f=d+1:=⟨x - f - 1,by omega⟩
   simp [h3,h,hd,Nat.testBit_succ]
noncomputable def cloT (tb:Nat→List Nat) (fuel:Nat):List Nat→Nat→List Nat→List Nat :=
 @Nat.rec (fun _=>List Nat→Nat→List Nat→List Nat) (fun _ _ seen=>seen) (fun _ ih todo mask seen=>lcase todo seen fun f t=>sw (bitAt mask f) (ih t mask seen) (ih (lapp (tb f) t) (bitSet mask f) (f :: seen))) fuel
theorem cloT_eq {P:Program} {tb:Nat→List Nat} (htb:∀ f,tb f=(P.funcs[f]?).elim [] P.leadsTo):∀ (n:Nat) (todo:List Nat) (mask:Nat) (seen:List Nat),(∀ x,seen.contains x=bitAt mask x)→P.closureVia n todo seen=(cloT tb n todo mask seen).reverse
 | 0,todo,mask,seen,_=>by cases todo <;> rfl
 | n+1,[],mask,seen,_=>rfl
 | n+1,f :: todo,mask,seen,h=>by
  have e:cloT tb (n+1) (f :: todo) mask seen=sw (bitAt mask f) (cloT tb n todo mask seen) (cloT tb n (lapp (tb f) todo) (bitSet mask f) (f :: seen)):=rfl
  rw [e,sw_eq,← h f,Program.closureVia]
  split
  ·exact cloT_eq htb n todo mask seen h
  ·rw [lapp_eq,htb f]
   refine cloT_eq htb n _ _ _ fun x=>?_
   rw [bitAt_set,← h x,List.contains_cons,Bool.or_comm]
theorem closure_eq {P:Program} {tb:Nat→List Nat} {fuel f:Nat} {L:List Nat} (htb:∀ f,tb f=(P.funcs[f]?).elim [] P.leadsTo) (hfuel:1+(P.funcs.toList.map fun g=>(P.leadsTo g).length+1).sum=fuel) (h:cloT tb fuel [f] 0 []=L):P.closure f=L.reverse:=by
 unfold Program.closure
 rw [hfuel,← h]
 refine cloT_eq htb fuel [f] 0 [] fun x=>?_
 rw [bitAt_eq]
 simp
noncomputable def tabOf (all:List (List Nat)):Nat→List Nat:=fun f=>oelim ((Tr.ofList all).get f) [] fun l=>l
theorem tabOf_eq {P:Program} {all:List (List Nat)} (h:P.funcs.toList.map P.leadsTo=all) (f:Nat):tabOf all f=(P.funcs[f]?).elim [] P.leadsTo:=by
 unfold tabOf
 rw [Tr.get_ofList,← h,List.getElem?_map,← Array.getElem?_toList]
 cases P.funcs.toList[f]? <;> rfl
theorem fuel_eq {P:Program} {all:List (List Nat)} (h:P.funcs.toList.map P.leadsTo=all):(P.funcs.toList.map fun g=>(P.leadsTo g).length+1).sum=(all.map fun l=>l.length+1).sum:=by
 rw [← h,List.map_map]
 rfl
end Go.Ev
namespace Go.Ev
theorem filter_one {p:Nat→Bool} {k:Nat}:∀ {n:Nat},k<n→(∀ i,i<n→p i=decide (i=k))→(List.range n).filter p=[k]
 | 0,h,_=>by omega
 | n+1,hk,h=>by
  rw [List.range_succ,List.filter_append]
  have hn:=h n (Nat.lt_succ_self n)
  by_cases e:k=n
  ·subst e
   have h0:(List.range k).filter p=[]:=by
    rw [List.filter_eq_nil_iff]
    intro i hi
    have hi:=List.mem_range.1 hi
    rw [h i (by omega),decide_eq_true_eq]
    omega
   rw [h0,List.filter_cons,hn]
   simp
  ·rw [filter_one (by omega) fun i hi=>h i (by omega),List.filter_cons,hn]
   have:¬ n=k:=fun h=>e h.symm
   simp [this]
theorem funcNamed_of {P:Program} {nm:String} {k:Nat} {fn:Func} {n m:Nat} (hn:0<n) (hf:P.funcs[k]? = some fn) (hnm:(fn.name == nm)=true)
 (h1:lall (fun f:Func=>bnot (f.name == nm)) (ltake k P.funcs.toList)=true) (h2:∀ j,j<m→lall (fun f:Func=>bnot (f.name == nm)) (chunk (ldrop (Nat.succ k) P.funcs.toList) n j)=true)
 (hl:P.funcs.toList.length≤Nat.succ k+n * m):P.funcNamed nm=some k:=by
 have hk:k<P.funcs.size:=(Array.getElem?_eq_some_iff.1 hf).1
 have hno:∀ i f,P.funcs[i]? = some f→i≠k→(f.name == nm)=false:=by
  intro i f hi hne
  have hi':P.funcs.toList[i]? = some f:=by rw [Array.getElem?_toList];exact hi
  rcases Nat.lt_or_gt_of_ne hne with h | h
  ·have hm:f∈P.funcs.toList.take k:=List.mem_of_getElem? (i:=i) (by rw [List.getElem?_take,if_pos h];exact hi')
   have:=(lall_iff _ _).1 h1 f (by rw [ltake_eq];exact hm)
   rw [bnot_eq,Bool.not_eq_true'] at this
   exact this
  ·have hm:f∈ldrop (Nat.succ k) P.funcs.toList:=by
    rw [ldrop_eq]
    refine List.mem_of_getElem? (i:=i - (k+1)) ?_
    rw [List.getElem?_drop,show Nat.succ k+(i - (k+1))=i from by omega]
    exact hi'
   have:=all_chunks hn h2 (by rw [ldrop_eq,List.length_drop];omega) f hm
   rw [bnot_eq,Bool.not_eq_true'] at this
   exact this
 unfold Program.funcNamed
 rw [filter_one hk fun i hi=>?_]
 cases hi2:P.funcs[i]? with
 | none=>rw [Array.getElem?_eq_none_iff] at hi2;omega
 | some f =>
  show (f.name == nm)=_
  by_cases e:i=k
  ·subst e
   obtain rfl:=Option.some.inj (hf.symm.trans hi2)
   rw [hnm]
   simp
  ·rw [hno i f hi2 e]
   simp [e]
end Go.Ev
