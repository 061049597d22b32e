/- A part of the proof: EvExtA, EvExtB, EvTy, EvExtC, EvDx, EvIns, EvHand, EvFit -/
import Derived.Test.YtimfnccfnefajaaGreatDoorVEvH
import Derived.Lib.Bytealg
import Derived.Lib.MakeNoZero
import Derived.Lib.Index
import Derived.Recover
set_option linter.unusedSimpArgs false
set_option linter.unusedVariables false
namespace Go.Ev
structure ExtFn (P:Program) (f:FuncId) (e:Array Value→Sem Value):Prop where
 fn:∃ fn,P.funcs[f]? = some fn∧(fn.name == "runtime.NumGoroutine")=false∧fn.body.isNone=true∧Extern.findNext fn=none∧Extern.find fn=some e
section
variable {P:Program} {E:Env} {ρ ρ':Ren} {D D':Dom} {K:Mem} {Pr:Nat→Prop} {s s':St} {w w':World} {nx:Nx} {f:FuncId} {e:Array Value→Sem Value} {args:List AV}
theorem ext_loud (hF:ExtFn P f e) {v:AV} {val:Value} (hr:(e ⟨toVs ρ args⟩).run P w=.ok val w') (hp:Post P ρ D K Pr s w v s' val w' ρ' D'):LoudOk P ρ D K Pr s w ((callFunc f ⟨toVs ρ args⟩).run P w) (.val v s'):=by
 obtain ⟨fn,h1,h2,h3,h4,h5⟩:=hF.fn
 refine .inl ⟨val,w',ρ',D',.inl ?_,hp⟩
 rw [run_callFunc_extern h1 h2 h3 h4 h5,hr]
 rfl
theorem args1_some {g:AV→Option Nx} (h:args1 args g=some nx):∃ a,args=[a]∧g a=some nx:=by
 obtain ⟨hc,h⟩:=grd_some h
 obtain ⟨a,ha,h⟩:=obind_some h
 rw [nbeq_eq,llen_eq,decide_eq_true_eq] at hc
 rw [lget_eq] at ha
 match args,hc with
 | [b],_=>exact ⟨b,rfl,by obtain rfl:=Option.some.inj (show some b=some a from ha);exact h⟩
theorem args2_some {g:AV→AV→Option Nx} (h:args2 args g=some nx):∃ a b,args=[a,b]∧g a b=some nx:=by
 obtain ⟨hc,h⟩:=grd_some h
 obtain ⟨a,ha,h⟩:=obind_some h
 obtain ⟨b,hb,h⟩:=obind_some h
 rw [nbeq_eq,llen_eq,decide_eq_true_eq] at hc
 rw [lget_eq] at ha hb
 match args,hc with
 | [x,y],_ =>
  obtain rfl:=Option.some.inj (show some x=some a from ha)
  obtain rfl:=Option.some.inj (show some y=some b from hb)
  exact ⟨x,y,rfl,h⟩
theorem args3_some {g:AV→AV→AV→Option Nx} (h:args3 args g=some nx):∃ a b c,args=[a,b,c]∧g a b c=some nx:=by
 obtain ⟨hc,h⟩:=grd_some h
 obtain ⟨a,ha,h⟩:=obind_some h
 obtain ⟨b,hb,h⟩:=obind_some h
 obtain ⟨c,hcc,h⟩:=obind_some h
 rw [nbeq_eq,llen_eq,decide_eq_true_eq] at hc
 rw [lget_eq] at ha hb hcc
 match args,hc with
 | [x,y,z],_ =>
  obtain rfl:=Option.some.inj (show some x=some a from ha)
  obtain rfl:=Option.some.inj (show some y=some b from hb)
  obtain rfl:=Option.some.inj (show some z=some c from hcc)
  exact ⟨x,y,z,rfl,h⟩
theorem strByte_some {a b:AV} {g:List UInt8→UInt8→Nx} (h:strByte a b g=some nx):∃ l c,a=.str l∧b=byteV c∧nx=g l c:=by
 obtain ⟨l,hl,h⟩:=obind_some h
 obtain ⟨c,hc,h⟩:=obind_some h
 exact ⟨l,c,asStr_some hl,byteOf_some hc,(Option.some.inj h).symm⟩
theorem byte_back (c:UInt8):(Int.ofNat c.toNat).toNat.toUInt8=c:=by
 show UInt8.ofNat c.toNat=c
 exact UInt8.ofNat_toNat
theorem indexOfB_eq (c:UInt8):∀ (l:List UInt8) (k:Nat),indexOfB c l k=if Lib.indexByte l c = -1 then none else some (k+(Lib.indexByte l c).toNat):=by
 intro l
 induction l with
 | nil=>intro k;rfl
 | cons b l ih =>
  intro k
  show sw (beqByte b c) (some k) (indexOfB c l (k+1))=_
  rw [sw_eq,beqByte_eq,ih]
  have hge:=Lib.indexByte_ge l c
  rw [show Lib.indexByte (b :: l) c=if b == c then 0 else if Lib.indexByte l c == -1 then -1 else Lib.indexByte l c+1 from rfl]
  by_cases h:(b == c)=true
  ·simp [h]
  ·have h:(b == c)=false:=by simpa using h
   rw [h]
   simp only [Bool.false_eq_true,if_false]
   by_cases h2:Lib.indexByte l c = -1
   ·simp [h2]
   ·have h3:(Lib.indexByte l c == -1)=false:=by simpa using h2
    rw [h3]
    simp only [Bool.false_eq_true,if_false]
    rw [if_neg h2,if_neg (by omega)]
    congr 1
    omega
theorem xIndexByte_ok (hF:ExtFn P f Extern.BytealgIndexByte.indexByte):ExtOk P E f .indexByte:=by
 intro ρ D K Pr s w args nx hm hd h
 obtain ⟨a,b,rfl,h⟩:=args2_some h
 obtain ⟨l,c,rfl,rfl,rfl⟩:=strByte_some h
 refine ⟨_,_,rfl,ext_loud hF ?_ (Post.same hm (v:=.int .i64 (oelim (indexOfB c l 0) (.negSucc 0) Int.ofNat)) trivial)⟩
 show (Extern.BytealgIndexByte.indexByte #[.string ⟨⟨l⟩⟩,.int .u8 (Int.ofNat c.toNat)]).run P w=_
 rw [Lib.run_indexByteString,byte_back,indexOfB_eq]
 show Result.ok (Value.int .i64 (Lib.indexByte l c)) w=Result.ok (Value.int .i64 (oelim (if Lib.indexByte l c = -1 then none else some (0+(Lib.indexByte l c).toNat)) (.negSucc 0) Int.ofNat)) w
 congr 2
 have hge:=Lib.indexByte_ge l c
 split
 ·rename_i h;rw [h];rfl
 ·show _=((0+(Lib.indexByte l c).toNat:Nat):Int)
  omega
theorem countB_eq (c:UInt8):∀ l:List UInt8,countB c l=l.count c:=by
 intro l
 induction l with
 | nil=>rfl
 | cons b l ih =>
  show sw (beqByte b c) (countB c l+1) (countB c l)=_
  rw [sw_eq,beqByte_eq,ih,List.count_cons]
  split <;> rfl
theorem xCount_ok (hF:ExtFn P f Extern.BytealgCount.count):ExtOk P E f .count:=by
 intro ρ D K Pr s w args nx hm hd h
 obtain ⟨a,b,rfl,h⟩:=args2_some h
 obtain ⟨l,c,rfl,rfl,rfl⟩:=strByte_some h
 refine ⟨_,_,rfl,ext_loud hF ?_ (Post.same hm (v:=lenInt (countB c l)) trivial)⟩
 show (Extern.BytealgCount.count #[.string ⟨⟨l⟩⟩,.int .u8 (Int.ofNat c.toNat)]).run P w=_
 rw [Lib.run_countString,byte_back,countB_eq]
 rfl
theorem cmp_bytes (a b:List UInt8):sw (ltBytes a b) (Int.negSucc 0) (sw (ltBytes b a) (.ofNat 1) (.ofNat 0))=Lib.compareBytes a b:=by
 induction a generalizing b with
 | nil=>cases b <;> rfl
 | cons x a ih =>
  cases b with
  | nil=>rfl
  | cons y b =>
   have h1:ltBytes (x :: a) (y :: b)=bor (nlt x.toNat y.toNat) (band (beqByte x y) (ltBytes a b)):=rfl
   have h2:ltBytes (y :: b) (x :: a)=bor (nlt y.toNat x.toNat) (band (beqByte y x) (ltBytes b a)):=rfl
   rw [h1,h2]
   unfold Lib.compareBytes
   simp only [bor_eq,band_eq,nlt_eq,beqByte_eq,sw_eq]
   by_cases hxy:x<y
   ·have:x.toNat<y.toNat:=hxy
    simp [hxy,this]
   ·by_cases hyx:y<x
    ·have h3:y.toNat<x.toNat:=hyx
     have h4:¬ x.toNat<y.toNat:=by omega
     have h5:x≠y:=by rintro rfl;omega
     simp [hxy,hyx,h3,h4,h5]
    ·have h3:¬ y.toNat<x.toNat:=hyx
     have h4:¬ x.toNat<y.toNat:=hxy
     have h5:x=y:=UInt8.toNat_inj.1 (by omega)
     subst h5
     have:=ih b
     rw [sw_eq,sw_eq] at this
     simp [hxy]
     simpa using this
theorem xCmp_ok (hF:ExtFn P f Extern.BytealgCompare.compare):ExtOk P E f .cmp:=by
 intro ρ D K Pr s w args nx hm hd h
 obtain ⟨a,b,rfl,h⟩:=args2_some h
 obtain ⟨x,hx,h⟩:=obind_some h
 obtain ⟨y,hy,h⟩:=obind_some h
 obtain rfl:=asStr_some hx
 obtain rfl:=asStr_some hy
 obtain rfl:=Option.some.inj h
 refine ⟨_,_,rfl,ext_loud hF ?_ (Post.same hm (v:=.int .i64 (sw (ltBytes x y) (.negSucc 0) (sw (ltBytes y x) (.ofNat 1) (.ofNat 0)))) trivial)⟩
 show (Extern.BytealgCompare.compare #[.string ⟨⟨x⟩⟩,.string ⟨⟨y⟩⟩]).run P w=_
 rw [Lib.run_compareString,cmp_bytes]
 rfl
theorem xSame_ok (hF:ExtFn P f Extern.AbiNoEscape.same):ExtOk P E f .same:=by
 intro ρ D K Pr s w args nx hm hd h
 obtain ⟨a,rfl,h⟩:=args1_some h
 obtain rfl:=Option.some.inj h
 exact ⟨_,_,rfl,ext_loud hF (w':=w) rfl (Post.same hm (v:=a) hd.1)⟩
theorem xMark_ok {m:Mark} (hF:ExtFn P f (fun _=>do mark m;pure Extern.Race.none_)):ExtOk P E f (.mark false):=by
 intro ρ D K Pr s w args nx hm hd h
 obtain rfl:=Option.some.inj (show some (Nx.val (.tuple []) s)=some nx from h)
 exact ⟨_,_,rfl,ext_loud hF (w':=w) rfl (Post.same hm (v:=.tuple []) trivial)⟩
theorem xMarked_ok {m:Addr→Mark} (hF:ExtFn P f (Extern.Race.marked m)):ExtOk P E f (.mark true):=by
 intro ρ D K Pr s w args nx hm hd h
 obtain ⟨a,ha,h⟩:=obind_some (show obind (obind (lget args 0) AV.asPtr) (fun _=>some (Nx.val (.tuple []) s))=some nx from h)
 obtain ⟨v,hv,ha⟩:=obind_some ha
 obtain rfl:=asPtr_some ha
 obtain rfl:=Option.some.inj h
 refine ⟨_,_,rfl,ext_loud hF (w':=w) ?_ (Post.same hm (v:=.tuple []) trivial)⟩
 rw [lget_eq] at hv
 match args,hv with
 | b :: args,hv =>
  obtain rfl:=Option.some.inj (show some b=some (AV.ptr (some a)) from hv)
  rfl
theorem xMakeNoZero_ok {ps:Array TypeId} {t e:TypeId} (ht:P.underlying t=some (.slice e)) (hz:P.cellsOf e=1) (hF:ExtFn P f (Extern.BytealgMakeNoZero.makeNoZero ps #[t])):ExtOk P E f (.makeNoZero e):=by
 intro ρ D K Pr s w args nx hm hd h
 obtain ⟨a,rfl,h⟩:=args1_some h
 obtain ⟨p,hp,h⟩:=obind_some h
 obtain ⟨hk,h⟩:=grd_some h
 obtain ⟨n,hn,h⟩:=obind_some h
 obtain ⟨hb,h⟩:=grd_some h
 obtain rfl:=Option.some.inj h
 obtain rfl:=asInt_some hp
 obtain ⟨k,i⟩:=p
 rw [kindEq_eq,decide_eq_true_eq] at hk
 have hk:k=.i64:=hk
 subst hk
 have hi:i=(n:Int):=by
  cases i with
  | ofNat m =>
   have:m=n:=Option.some.inj hn
   rw [this]
   rfl
  | negSucc m=>cases hn
 subst hi
 rw [ble_eq,decide_eq_true_eq] at hb
 obtain ⟨cs,h1,h2,_⟩:=Lib.run_makeNoZero (P:=P) w ps t e ht n (by omega)
 have hp0:=pushed_alloc w.drew.drew (.cells cs e)
 have hpu:Pushed w (w.drew.drew.alloc (.cells cs e)):=⟨hp0.size,hp0.old,hp0.os,hp0.output,hp0.tape⟩
 have hown:Own P (upd ρ s.k ⟨w.heap.size,0,cs.size⟩) (w.drew.drew.alloc (.cells cs e)) s.k (.cells [] e 0 false):=by
  refine ⟨cs,(0,0),?_,fun i v hv=>(by cases hv),?_,?_,?_,?_⟩
  ·rw [upd_same]
   show (w.heap.push (.cells cs e))[w.heap.size]? = _
   simp
  ·rw [upd_same]
   simp
  ·rw [upd_same,hz]
   simp
  ·intro j _ _ hj
   omega
  ·intro _
   exact .inl rfl
 obtain ⟨m1,m2,m3⟩:=hm.alloc (l:=⟨w.heap.size,0,cs.size⟩) hpu rfl hown trivial
 refine ⟨_,_,rfl,ext_loud hF (val:=.slice (some ⟨w.heap.size,0,none⟩) n cs.size) h1 ⟨m2,fun n hn=>.inl hn,fun n hn=>hn.imp id (fun e=>by omega),m1,m3,?_,.inr rfl,Nat.le_succ _⟩⟩
 simp [AV.toV,adr,upd_same,roomOf]
end
end Go.Ev
namespace Go.Ev
section
variable {P:Program} {E:Env} {ρ ρ':Ren} {D D':Dom} {K:Mem} {Pr:Nat→Prop} {s s':St} {w w':World} {nx:Nx} {f:FuncId} {k:IntKind}
theorem atom_store (h:MemOk P ρ D K Pr s w) {a:Nat×Nat} {v:AV} (hd:v.inD D) (hs:storeAt a [v] s=some s'):∃ w',(∀ m,(store (adr ρ a) (v.toV ρ) m).run P w=.ok () w')∧MemOk P ρ D K Pr s' w'∧Keeps Pr w w'∧s'.k=s.k:=by
 obtain ⟨w',h1,h2,h3,h4⟩:=storeAt_ok h (new:=[v]) ⟨hd,trivial⟩ hs
 refine ⟨w',fun m=>?_,h2,h3,h4⟩
 obtain ⟨vs,e,frz,sh,g1,g2,g3,g4,_⟩:=storeAt_cons hs
 obtain ⟨_,_,⟨c,fr,c1,c2,c3,c4,c5,c6⟩,_⟩:=h.own _ _ g1
 have hlen:([v]:List AV).length=1:=rfl
 rw [hlen] at g3
 have key:=fun m=>run_store_own (P:=P) c1 (off:=(ρ a.1).off+a.2) (by omega) (c5 _ (by omega) (by omega)) (one_toV (ρ:=ρ) (g4 v (by simp))) m
 have hadd:(adr ρ a).add 0=adr ρ a:=rfl
 have h1:(storeCells (adr ρ a) [v.toV ρ]).run P w=.ok () w':=h1
 simp only [storeCells,hadd,Sem.run_bind,Sem.run_pure] at h1
 have hk:(store (adr ρ a) (v.toV ρ)).run P w=_:=key .plain
 rw [hk] at h1
 have h1:Result.ok () (w.setCell ⟨(ρ a.1).blk,(ρ a.1).off+a.2,none⟩ (v.toV ρ))=Result.ok () w':=h1
 have hw:w.setCell ⟨(ρ a.1).blk,(ρ a.1).off+a.2,none⟩ (v.toV ρ)=w':=by injection h1
 rw [← hw]
 exact key m
theorem intIn_some {p:IntKind×Int} {n:Int} (h:intIn k p=some n):p=(k,n):=by
 obtain ⟨hk,h⟩:=grd_some h
 rw [kindEq_eq,decide_eq_true_eq] at hk
 obtain rfl:=Option.some.inj h
 rw [hk]
theorem intAt_some {off:Nat} {ob:AObj} {n:Int} (h:intAt k off ob=some n):∃ vs e frz sh,ob=.cells vs e frz sh∧vs[off]? = some (.int k n):=by
 cases ob with
 | cells vs e frz sh =>
  obtain ⟨p,hp,h⟩:=obind_some (show obind (obind (lget vs off) AV.asInt) (intIn k)=some n from h)
  obtain ⟨v,hv,hp⟩:=obind_some hp
  obtain rfl:=intIn_some h
  obtain rfl:=asInt_some hp
  rw [lget_eq] at hv
  exact ⟨vs,e,frz,sh,rfl,hv⟩
 | map=>cases h
 | siter=>cases h
theorem intAtW_some {off:Nat} {ob:AObj} {n:Int} (h:intAtW k off ob=some n):∃ vs e frz sh,ob=.cells vs e frz sh∧vs[off]? = some (.int k n)∧frz≤off:=by
 cases ob with
 | cells vs e frz sh =>
  obtain ⟨hc,h⟩:=grd_some (show grd (Nat.ble frz off) (obind (obind (lget vs off) AV.asInt) (intIn k))=some n from h)
  obtain ⟨p,hp,h⟩:=obind_some h
  obtain ⟨v,hv,hp⟩:=obind_some hp
  obtain rfl:=intIn_some h
  obtain rfl:=asInt_some hp
  rw [lget_eq] at hv
  rw [ble_eq,decide_eq_true_eq] at hc
  exact ⟨vs,e,frz,sh,rfl,hv,hc⟩
 | map=>cases h
 | siter=>cases h
theorem run_load_cell {a:Addr} {v:Value} (h:w.cell? a=some v) (m:Mode):(load a m).run P w=.ok v w:=by
 simp [load,Sem.run,h]
theorem run_readInt {a:Addr} {n:Int} (h:w.cell? a=some (.int k n)):(Extern.Atomic.read (.int k) a).run P w=.ok (.int k n) w:=by
 simp [Extern.Atomic.read,run_load_cell h]
theorem loadT_def (x:Value):Extern.Atomic.loadT (.int k) #[x]=(do Extern.Atomic.read (.int k) (← asAddr x)):=rfl
theorem storeT_def (x v:Value):Extern.Atomic.storeT #[x,v]=(do
 store (← asAddr x) v .atomic
 pure Extern.Atomic.none_):=rfl
theorem casT_def (x o v:Value):Extern.Atomic.casT (.int k) #[x,o,v]=(do
 let a ← asAddr x
 if ← Extern.Atomic.touchesFrozen a then unsupported (.unsafePointer "a write to bytes that a string shares")
 let eq ← match Extern.Atomic.T.int k,← Extern.Atomic.read (.int k) a,o with
  | _,.int _ x,.int _ y=>pure (x == y)
  | .ptr,.pointer x,.pointer y=>samePointer x y
  | .int _,.pointer (some _),.int _ 0 | .int _,.int _ 0,.pointer (some _)=>pure false
  | .int _,.pointer (some _),_ | .int _,_,.pointer (some _)=>unsupported .addressObserved
  | _,_,_=>stuck "atomic.CompareAndSwap: old is no T"
 if eq then store a v .atomic
 pure (.bool eq)):=rfl
theorem update_def (op:IntKind→Int→Int→Sem Value) (x y:Value):Extern.Atomic.update op k true #[x,y]=(do
 let a ← asAddr x
 let old ← Extern.Atomic.read (.int k) a
 let new ← op k (← asInt old) (← asInt y)
 store a new .atomic
 pure (if true then new else old)):=rfl
theorem xAtomLoad_ok (hF:ExtFn P f (Extern.Atomic.loadT (.int k))):ExtOk P E f (.atomLoad k):=by
 intro ρ D K Pr s w args nx hm hd h
 obtain ⟨p,rfl,h⟩:=args1_some h
 obtain ⟨a,ha,h⟩:=obind_some h
 obtain rfl:=asPtr_some ha
 obtain ⟨n,hn,h⟩:=obind_some h
 obtain ⟨ob,hob,hn⟩:=obind_some hn
 obtain rfl:=Option.some.inj h
 obtain ⟨vs,e,frz,sh,rfl,hv⟩:=intAt_some hn
 obtain ⟨_,_,hrd⟩:=hm.look hob
 refine ⟨_,_,rfl,ext_loud hF (val:=.int k n) (w':=w) ?_ (Post.same hm (v:=.int k n) trivial)⟩
 show (Extern.Atomic.loadT (.int k) #[.pointer (some (adr ρ a))]).run P w=_
 have hc:w.cell? (adr ρ a)=some (.int k n):=rd_cell (i:=a.2) hrd hv
 simp [loadT_def,asAddr,run_readInt hc]
theorem xAtomStore_ok (hF:ExtFn P f Extern.Atomic.storeT):ExtOk P E f .atomStore:=by
 intro ρ D K Pr s w args nx hm hd h
 obtain ⟨p,v,rfl,h⟩:=args2_some h
 obtain ⟨a,ha,h⟩:=obind_some h
 obtain rfl:=asPtr_some ha
 obtain ⟨s',hs',rfl⟩:=omap_some h
 obtain ⟨w',h1,h2,h3,h4⟩:=atom_store hm hd.2.1 hs'
 refine ⟨_,_,rfl,ext_loud hF (val:=.tuple #[]) (w':=w') ?_ (Post.store (v:=.tuple []) h2 h3 h4 trivial)⟩
 show (Extern.Atomic.storeT #[.pointer (some (adr ρ a)),v.toV ρ]).run P w=_
 simp [storeT_def,asAddr,h1,Extern.Atomic.none_]
theorem run_viewAt_cells {b:Nat} {c:Array Value} {e:TypeId} {fr:Nat×Nat} (h:w.heap[b]? = some (.cells c e fr)):(viewAt b).run P w=.ok none w:=by
 simp [viewAt,shape,Sem.run,World.shape?,h]
theorem run_touches {b off:Nat} {c:Array Value} {e:TypeId} {fr:Nat×Nat} (h:w.heap[b]? = some (.cells c e fr)) (hf:¬ (fr.1≤off∧off<fr.2)):(Extern.Atomic.touchesFrozen ⟨b,off,none⟩).run P w=.ok false w:=by
 have hfr:w.frozen? ⟨b,off,none⟩=false:=by
  obtain ⟨lo,hi⟩:=fr
  simp only [World.frozen?,h]
  simp only at hf
  rw [Bool.and_eq_false_iff]
  by_cases h1:lo≤off
  ·right
   simp
   omega
  ·left
   simp [h1]
 simp [Extern.Atomic.touchesFrozen,run_viewAt_cells h,frozen,Sem.run,hfr]
theorem xAtomCas_ok (hF:ExtFn P f (Extern.Atomic.casT (.int k))):ExtOk P E f (.atomCas k):=by
 intro ρ D K Pr s w args nx hm hd h
 obtain ⟨p,o,v,rfl,h⟩:=args3_some h
 obtain ⟨a,ha,h⟩:=obind_some h
 obtain rfl:=asPtr_some ha
 obtain ⟨q,hq,h⟩:=obind_some h
 obtain rfl:=asInt_some hq
 obtain ⟨n,hn,h⟩:=obind_some h
 obtain ⟨ob,hob,hn⟩:=obind_some hn
 obtain ⟨vs,e,frz,sh,rfl,hv,hfz⟩:=intAtW_some hn
 obtain ⟨g1,g2,g3,g4⟩:=hm.own _ _ hob
 have hrd:w.cell? (adr ρ a)=some (.int k n):=rd_cell (i:=a.2) g3.rd hv
 obtain ⟨c,fr,c1,c2,c3,c4,c5,c6⟩:=g3
 have hlt:a.2<vs.length:=(List.getElem?_eq_some_iff.1 hv).1
 have htf:(Extern.Atomic.touchesFrozen (adr ρ a)).run P w=.ok false w:=run_touches c1 (c5 _ (by omega) (by omega))
 have hrun:(Extern.Atomic.casT (.int k) #[.pointer (some (adr ρ a)),.int q.1 q.2,v.toV ρ]).run P w=if n=q.2 then ((store (adr ρ a) (v.toV ρ) .atomic).run P w).andThen (fun _ w'=>.ok (.bool true) w') else .ok (.bool false) w:=by
  by_cases hnq:n=q.2
  ·subst hnq
   simp [casT_def,asAddr,htf,run_readInt hrd]
  ·simp [casT_def,asAddr,htf,run_readInt hrd,hnq]
 unfold casTo at h
 rw [sw_eq,ieq_eq] at h
 by_cases hnq:n=q.2
 ·rw [if_pos (by simpa using hnq)] at h
  obtain ⟨s',hs',rfl⟩:=omap_some h
  obtain ⟨w',h1,h2,h3,h4⟩:=atom_store hm hd.2.2.1 hs'
  refine ⟨_,_,rfl,ext_loud hF (val:=.bool true) (w':=w') ?_ (Post.store (v:=.bool true) h2 h3 h4 trivial)⟩
  show (Extern.Atomic.casT (.int k) #[.pointer (some (adr ρ a)),.int q.1 q.2,v.toV ρ]).run P w=_
  rw [hrun,if_pos hnq,h1]
  rfl
 ·rw [if_neg (by simpa using hnq)] at h
  obtain rfl:=Option.some.inj h
  refine ⟨_,_,rfl,ext_loud hF (val:=.bool false) (w':=w) ?_ (Post.same hm (v:=.bool false) trivial)⟩
  show (Extern.Atomic.casT (.int k) #[.pointer (some (adr ρ a)),.int q.1 q.2,v.toV ρ]).run P w=_
  rw [hrun,if_neg hnq]
theorem xAtomAdd_ok (hF:ExtFn P f (Extern.Atomic.update (Op.intArith .add) k true)):ExtOk P E f (.atomAdd k):=by
 intro ρ D K Pr s w args nx hm hd h
 obtain ⟨p,d,rfl,h⟩:=args2_some h
 obtain ⟨a,ha,h⟩:=obind_some h
 obtain rfl:=asPtr_some ha
 obtain ⟨q,hq,h⟩:=obind_some h
 obtain rfl:=asInt_some hq
 obtain ⟨hkd,h⟩:=grd_some h
 obtain ⟨n,hn,h⟩:=obind_some h
 obtain ⟨ob,hob,hn⟩:=obind_some hn
 obtain ⟨vs,e,frz,sh,rfl,hv,hfz⟩:=intAtW_some hn
 obtain ⟨s',hs',rfl⟩:=omap_some h
 obtain ⟨g1,g2,g3,g4⟩:=hm.own _ _ hob
 have hrd:w.cell? (adr ρ a)=some (.int k n):=rd_cell (i:=a.2) g3.rd hv
 obtain ⟨w',h1,h2,h3,h4⟩:=atom_store hm (v:=.int k (wrapF k (addF n q.2))) trivial hs'
 refine ⟨_,_,rfl,ext_loud hF (val:=.int k (wrapF k (addF n q.2))) (w':=w') ?_ (Post.store (v:=.int k (wrapF k (addF n q.2))) h2 h3 h4 trivial)⟩
 show (Extern.Atomic.update (Op.intArith .add) k true #[.pointer (some (adr ρ a)),.int q.1 q.2]).run P w=_
 have h1:(store (adr ρ a) (.int k (wrapF k (addF n q.2))) .atomic).run P w=.ok () w':=h1 .atomic
 rw [wrapF_eq,addF_eq] at h1 ⊢
 simp [update_def,asAddr,run_readInt hrd,asInt,asIntOf,Op.intArith,h1]
end
end Go.Ev
namespace Go.Ev
noncomputable section
def tyFits (P:Program) (n t:Nat) (i:TI):Bool :=
 band (oelim i.uk.asStruct true fun p=>band (lall (fun f=>nlt f.2 n) p.1) (bor (bnot p.2) (bnot (P.stoodInHeld t)))) (oelim i.zero true fun z=>Nat.beq (llen z.cells) i.size)
def hideTI (i:TI):TI:=⟨.other,i.size,i.bytes,i.zero,i.methods⟩
def tiH (bad:List Nat) (tt:Tr TypeInfo) (t:Nat) (i:TypeInfo):TI:=sw (lany (Nat.beq t) bad) (hideTI (tiOf tt i)) (tiOf tt i)
def tisFrom (bad:List Nat) (tt:Tr TypeInfo) (l:List TypeInfo):Nat→List TI:=@List.rec TypeInfo (fun _=>Nat→List TI) (fun _=>[]) (fun i _ f t=>tiH bad tt t i :: f (Nat.succ t)) l
def tisOf (bad:List Nat) (l:List TypeInfo):List TI:=tisFrom bad (Tr.ofList l) l 0
def mkTyH (bad:List Nat) (l:List TypeInfo):Tr TI:=Tr.ofList (tisOf bad l)
def tysFitFrom (P:Program) (n:Nat) (l:List TI):Nat→Bool:=@List.rec TI (fun _=>Nat→Bool) (fun _=>true) (fun i _ f t=>band (tyFits P n t i) (f (Nat.succ t))) l
def tysFit (P:Program) (bad:List Nat):Bool:=tysFitFrom P (llen P.types.toList) (tisOf bad P.types.toList) 0
theorem tysFitFrom_get {P:Program} {n:Nat}:∀ {l:List TI} {k:Nat},tysFitFrom P n l k=true→∀ t i,l[t]? = some i→tyFits P n (k+t) i=true:=by
 intro l
 induction l with
 | nil=>intro k _ t i h;cases h
 | cons x l ih =>
  intro k h t i hi
  have h:band (tyFits P n k x) (tysFitFrom P n l (k+1))=true:=h
  rw [band_eq,Bool.and_eq_true] at h
  cases t with
  | zero =>
   obtain rfl:=Option.some.inj (show some x=some i from hi)
   exact h.1
  | succ t =>
   have:=ih h.2 t i hi
   rw [show k+(t+1)=k+1+t from by omega]
   exact this
theorem tisFrom_get {bad:List Nat} {tt:Tr TypeInfo}:∀ (l:List TypeInfo) (k t:Nat),(tisFrom bad tt l k)[t]? = (l[t]?).map (tiH bad tt (k+t)):=by
 intro l
 induction l with
 | nil=>intro k t;rfl
 | cons x l ih =>
  intro k t
  cases t with
  | zero=>rfl
  | succ t =>
   show (tisFrom bad tt l (k+1))[t]? = _
   rw [ih,show k+(t+1)=k+1+t from by omega]
   rfl
theorem mkTyH_get (bad:List Nat) (l:List TypeInfo) (t:Nat):(mkTyH bad l).get t=(l[t]?).map (tiH bad (Tr.ofList l) t):=by
 unfold mkTyH tisOf
 rw [Tr.get_ofList,tisFrom_get,Nat.zero_add]
theorem info_lt {P:Program} {t:Nat} {i:TypeInfo} (h:P.types.toList[t]? = some i):P.info? t=some i:=by
 have hlt:t<P.types.size:=by
  have:=(List.getElem?_eq_some_iff.1 h).1
  simpa using this
 unfold Tables.info?
 rw [if_pos hlt]
 simpa using h
theorem tiH_cases (bad:List Nat) (tt:Tr TypeInfo) (t:Nat) (j:TypeInfo):tiH bad tt t j=hideTI (tiOf tt j)∨tiH bad tt t j=tiOf tt j:=by
 unfold tiH
 rw [sw_eq]
 split
 ·exact .inl rfl
 ·exact .inr rfl
theorem tys_ok {P:Program} {E:Env} {bad:List Nat} (hE:E.ty=mkTyH bad P.types.toList) (hc:tysFit P bad=true):TysOk P E:=by
 refine ⟨fun t i h=>?_⟩
 rw [hE,mkTyH_get,Option.map_eq_some_iff] at h
 obtain ⟨j,hj,rfl⟩:=h
 have hf:=tysFitFrom_get hc t (tiH bad (Tr.ofList P.types.toList) t j) (by unfold tisOf;rw [tisFrom_get,hj,Nat.zero_add];rfl)
 rw [Nat.zero_add] at hf
 unfold tyFits at hf
 rw [band_eq,Bool.and_eq_true] at hf
 obtain ⟨hf1,hf2⟩:=hf
 have hinfo:=info_lt hj
 have hz:∀ z,obind j.zero absV=some z→∃ v,j.zero=some v∧ConstOk v z:=fun z hz=>by
  obtain ⟨v,hv,hz⟩:=obind_some hz
  exact ⟨v,hv,absV_ok v z hz⟩
 rcases tiH_cases bad (Tr.ofList P.types.toList) t j with e | e
 ·rw [e] at hf1 hf2 ⊢
  refine ⟨⟨j,hinfo,rfl,rfl,hz,rfl⟩,.inl rfl,fun fs hu=>(by cases hu),fun fs b hu=>(by cases hu),fun z hz=>?_⟩
  have hz:obind j.zero absV=some z:=hz
  have hf2:oelim (obind j.zero absV) true (fun z=>Nat.beq (llen z.cells) j.size)=true:=hf2
  rw [hz] at hf2
  have hf2:Nat.beq (llen z.cells) j.size=true:=hf2
  rw [nbeq_eq,llen_eq,decide_eq_true_eq] at hf2
  exact hf2
 rw [e] at hf1 hf2 ⊢
 refine ⟨⟨j,hinfo,rfl,rfl,hz,rfl⟩,?_,fun fs hu=>?_,fun fs b hu f hfm=>?_,fun z hz=>?_⟩
 ·show ukOf (descOf (Tr.ofList P.types.toList) j.desc)=.other∨_
  cases hd:j.desc with
  | named nm u =>
   have hdo:descOf (Tr.ofList P.types.toList) (.named nm u)=oelim ((Tr.ofList P.types.toList).get u) .invalid TypeInfo.desc:=rfl
   rw [hdo,Tr.get_ofList]
   cases hu:P.types.toList[u]? with
   | none=>exact .inl rfl
   | some q =>
    refine .inr ⟨q.desc,?_,?_⟩
    ·unfold Program.underlying
     obtain ⟨desc,_⟩:=j
     have hd:desc=.named nm u:=hd
     subst hd
     rw [hinfo]
     show (P.info? u).map (·.desc)=some q.desc
     rw [info_lt hu]
     rfl
    ·show ukOf (descOf (Tr.ofList P.types.toList) j.desc)=ukOf q.desc
     rw [hd,hdo,Tr.get_ofList,hu]
     rfl
  | _ =>
   refine .inr ⟨j.desc,?_,?_⟩
   ·unfold Program.underlying
    obtain ⟨desc,_⟩:=j
    simp only at hd
    subst hd
    rw [hinfo]
   ·show ukOf (descOf (Tr.ofList P.types.toList) j.desc)=ukOf j.desc
    rw [hd]
    rfl
 ·have hu:(tiOf (Tr.ofList P.types.toList) j).uk=.struct fs true:=hu
  rw [hu] at hf1
  have hf1:band (lall (fun f=>nlt f.2 (llen P.types.toList)) fs) (bor (bnot true) (bnot (P.stoodInHeld t)))=true:=hf1
  rw [band_eq,Bool.and_eq_true] at hf1
  have h2:=hf1.2
  rw [bor_eq,bnot_eq,bnot_eq] at h2
  simpa using h2
 ·have hu:(tiOf (Tr.ofList P.types.toList) j).uk=.struct fs b:=hu
  rw [hu] at hf1
  have hf1:band (lall (fun f=>nlt f.2 (llen P.types.toList)) fs) (bor (bnot b) (bnot (P.stoodInHeld t)))=true:=hf1
  rw [band_eq,Bool.and_eq_true] at hf1
  have h1:=(lall_iff _ _).1 hf1.1 f hfm
  rw [nlt_eq,llen_eq,decide_eq_true_eq] at h1
  exact ⟨_,info_lt (List.getElem?_eq_getElem h1)⟩
 ·have hz:(tiOf (Tr.ofList P.types.toList) j).zero=some z:=hz
  rw [hz] at hf2
  have hf2:Nat.beq (llen z.cells) (tiOf (Tr.ofList P.types.toList) j).size=true:=hf2
  rw [nbeq_eq,llen_eq,decide_eq_true_eq] at hf2
  exact hf2
end
end Go.Ev
namespace Go.Ev
section
variable {P:Program} {E:Env} {f g:Nat}
theorem prefB_eq (x y:List UInt8):prefB x y=x.isPrefixOf y:=by
 induction x generalizing y with
 | nil=>cases y <;> rfl
 | cons a x ih =>
  cases y with
  | nil=>rfl
  | cons b y =>
   show band (beqByte a b) (prefB x y)=_
   rw [band_eq,beqByte_eq,ih]
   rfl
theorem indexFrom_eq (sub:List UInt8):∀ (l:List UInt8) (k:Nat),indexFrom sub l k=if Lib.index l sub = -1 then none else some (k+(Lib.index l sub).toNat):=by
 intro l
 induction l with
 | nil =>
  intro k
  show sw (isNilB sub) (some k) none=_
  rw [sw_eq,isNilB_eq,show Lib.index [] sub=if sub.isEmpty then 0 else -1 from rfl]
  cases sub.isEmpty <;> rfl
 | cons b l ih =>
  intro k
  show sw (prefB sub (b :: l)) (some k) (indexFrom sub l (k+1))=_
  have hge:=Lib.index_ge l sub
  rw [sw_eq,prefB_eq,ih,show Lib.index (b :: l) sub=if sub.isPrefixOf (b :: l) then 0 else if Lib.index l sub == -1 then -1 else Lib.index l sub+1 from rfl]
  cases sub.isPrefixOf (b :: l) with
  | true=>simp
  | false =>
   simp only [Bool.false_eq_true,if_false]
   by_cases h2:Lib.index l sub = -1
   ·simp [h2]
   ·have h3:(Lib.index l sub == -1)=false:=by simpa using h2
    rw [h3]
    simp only [Bool.false_eq_true,if_false]
    rw [if_neg h2,if_neg (by omega)]
    congr 1
    omega
theorem xIndex_ok (hg:g<P.globals.size) (hfn:∃ fn,P.funcs[f]? = some fn∧(fn.name == "runtime.NumGoroutine")=false∧fn.body.isNone=false)
 (hc:∀ (s sub:ByteArray) (m:Int) (w:World),s.size<4294967281→w.cell? ⟨g,0,none⟩=some (.int .i64 m)→Calls P f #[.string s,.string sub] w fun e w'=>e=.returned (.int .i64 (Lib.index s.data.toList sub.data.toList))∧w'=w):ExtOk P E f (.index g):=by
 intro ρ D K Pr s w args nx hm hd h
 obtain ⟨a,b,rfl,h⟩:=args2_some h
 obtain ⟨l,hl,h⟩:=obind_some h
 obtain ⟨sub,hsub,h⟩:=obind_some h
 obtain ⟨hlt,h⟩:=grd_some h
 obtain ⟨m,hmm,hF⟩:=obind_some h
 obtain ⟨ob,hob,hmm⟩:=obind_some hmm
 obtain rfl:=asStr_some hl
 obtain rfl:=asStr_some hsub
 obtain rfl:=Option.some.inj hF
 obtain ⟨vs,e,frz,sh,rfl,hv⟩:=intAt_some hmm
 obtain ⟨_,_,hrd⟩:=hm.look hob
 have hcell:w.cell? ⟨(ρ g).blk,(ρ g).off+0,none⟩=some (.int .i64 m):=rd_cell (i:=0) hrd hv
 rw [(hm.gl g hg).2] at hcell
 rw [nlt_eq,llen_eq,decide_eq_true_eq] at hlt
 obtain ⟨fn,h1,h2,h3⟩:=hfn
 refine ⟨_,_,rfl,.inr ⟨f,#[.string ⟨⟨l⟩⟩,.string ⟨⟨sub⟩⟩],run_callFunc h1 h2 h3 w,(hc ⟨⟨l⟩⟩ ⟨⟨sub⟩⟩ m w hlt hcell).mono fun e w' he=>?_⟩⟩
 obtain ⟨rfl,rfl⟩:=he
 have hp:=Post.same hm (v:=.int .i64 (oelim (indexFrom sub l 0) (.negSucc 0) Int.ofNat)) trivial
 refine ⟨_,ρ,D,?_,hp⟩
 rw [indexFrom_eq]
 show Ending.returned (Value.int .i64 (Lib.index l sub))=Ending.returned (Value.int .i64 (oelim (if Lib.index l sub = -1 then none else some (0+(Lib.index l sub).toNat)) (.negSucc 0) Int.ofNat))
 congr 2
 have hge:=Lib.index_ge l sub
 split
 ·rename_i h;rw [h];rfl
 ·show _=((0+(Lib.index l sub).toNat:Nat):Int)
  omega
end
end Go.Ev
namespace Go.Ev
section
variable {P:Program} {E:Env}
def rec0 (t:TypeId) (pos:String) (e:Array Edge):Array Oper:=#[{ dst:=some 4,op:=.call { callee:=.builtin .recover,args:=#[],argTypes:=#[] },type:=t,pos:=pos,after:=#[],guard:=none },
 { dst:=some 1,op:=.assign (.tmp 4),type:=t,pos:=pos,after:=e,guard:=none }]
def rec1 (t b:TypeId) (pos:String) (e:Array Edge):Array Oper:=#[{ dst:=some 5,op:=.move (.tmp 1),type:=t,pos:=pos,after:=#[],guard:=none },
 { dst:=some 6,op:=.binOp .neq t (.tmp 5) (.const .nilIface) t,type:=b,pos:=pos,after:=e,guard:=none }]
theorem put_eval_same {a:Act} {d:Tmp} {v:Value} (h:d<a.tmps.size):(a.put (some d) v).eval (.tmp d)=v:=by
 show (a.tmps.setIfInBounds d v).getD d undef=v
 simp [Array.getD,h]
theorem put_size {a:Act} {d:Tmp} {v:Value}:(a.put (some d) v).tmps.size=a.tmps.size:=by
 show (a.tmps.setIfInBounds d v).size=_
 simp
theorem dx_ok (hE:TysOk P E) {f n t b:TypeId} {fn:Func} {i0 i1:Nat} {pos:String} {e0 e1:Array Edge} {x:Code} (hf:P.funcs[f]? = some fn) (hname:(fn.name == "runtime.NumGoroutine")=false) (hb:fn.body=some (.seq (.region i0 (rec0 t pos e0) false) (.seq (.region i1 (rec1 t b pos e1) false) (.cond (.tmp 6) x .skip))))
 (hn:7≤fn.ntmps) (hr:fn.results=#[]) (hs:silF (.binOp .neq t (.tmp 5) (.const .nilIface) t) E ⟨7,0,Tr.set .leaf 5 .nilIface,[]⟩=some (.val (.bool false))):DxOk P f n:=by
 refine ⟨⟨fn,hf,hname,by rw [hb];rfl⟩,fun args w hargs=>?_⟩
 refine callsD_of_wpS hf hb fun c₀ cs hc=>?_
 generalize ha:({ tmps:=args ++ Array.replicate (fn.ntmps - args.size) undef,defers:=[] }:Act)=a
 have hsz:7≤a.tmps.size:=by
  rw [← ha]
  simp
  omega
 have hd0:a.defers=[]:=by rw [← ha]
 have hrec:recoverD (c₀ :: cs)=none:=by
  obtain ⟨c1,c2,c3,c4,c5,c6,c7⟩:=c₀
  have hc:c5=.returning:=hc
  subst hc
  rfl
 have hval:∀ (v:Value) (a:Act) (w:World),(Sem.run P (pure (Next.value v)) w)=.ok (.value v) w:=fun _ _ _=>rfl
 refine wpS_seq (wpS_region ?_)
 have h0:wpOpsS P (rec0 t pos e0) (Exit.thenS ((Code.seq (.region i1 (rec1 t b pos e1) false) (.cond (.tmp 6) x .skip)).wpS P (bodyPostS P fn c₀ cs fun e u w'=>(∃ v,e=.returned v)∧u=.returning∧w'=w)) (bodyPostS P fn c₀ cs fun e u w'=>(∃ v,e=.returned v)∧u=.returning∧w'=w)) [0,1] a (c₀ :: cs) w:=by
  have hrun0:(execOp a.eval { dst:=some 4,op:=.call { callee:=.builtin .recover,args:=#[],argTypes:=#[] },type:=t,pos:=pos,after:=#[],guard:=none }).run P w=.ok .recover w:=rfl
  rw [show wpOpsS P (rec0 t pos e0)=wpOpsS P #[{ dst:=some 4,op:=.call { callee:=.builtin .recover,args:=#[],argTypes:=#[] },type:=t,pos:=pos,after:=#[],guard:=none },{ dst:=some 1,op:=.assign (.tmp 4),type:=t,pos:=pos,after:=e0,guard:=none }] from rfl]
  simp only [wpOpsS,List.getElem?_toArray,List.getElem?_cons_zero,Region.wanted,if_true,hrun0,hrec]
  have hev:(a.put (some 4) .nilIface).eval (.tmp 4)=.nilIface:=put_eval_same (Nat.lt_of_lt_of_le (by decide) hsz)
  show (Code.seq (.region i1 (rec1 t b pos e1) false) (.cond (.tmp 6) x .skip)).wpS P _ ((a.put (some 4) .nilIface).put (some 1) ((a.put (some 4) .nilIface).eval (.tmp 4))) (c₀ :: cs) w
  rw [hev]
  generalize ha1:(a.put (some 4) Value.nilIface).put (some 1) Value.nilIface=a1
  have hsz1:7≤a1.tmps.size:=by rw [← ha1,put_size,put_size];exact hsz
  have he1:a1.eval (.tmp 1)=.nilIface:=by rw [← ha1];exact put_eval_same (by rw [put_size];exact Nat.lt_of_lt_of_le (by decide) hsz)
  have hd1:a1.defers=[]:=by rw [← ha1];exact hd0
  refine wpS_seq (wpS_region ?_)
  show wpOpsS P (rec1 t b pos e1) _ [1] (a1.put (some 5) (a1.eval (.tmp 1))) (c₀ :: cs) w
  rw [he1]
  generalize ha2:a1.put (some 5) Value.nilIface=a2
  have hsz2:7≤a2.tmps.size:=by rw [← ha2,put_size];exact hsz1
  have he2:a2.eval (.tmp 5)=.nilIface:=by rw [← ha2];exact put_eval_same (Nat.lt_of_lt_of_le (by decide) hsz1)
  have hd2:a2.defers=[]:=by rw [← ha2];exact hd1
  have hsee:Sees (fun _=>⟨0,0,0⟩) (fun _=>False) ⟨7,0,Tr.set .leaf 5 .nilIface,[]⟩ a2.eval [Operand.tmp 5,.const .nilIface]:=by
   intro y hy v hv
   rcases List.mem_cons.1 hy with rfl | hy
   ·obtain rfl:AV.nilIface=v:=Option.some.inj (show some AV.nilIface=some v from hv)
    exact ⟨he2,trivial⟩
   ·obtain rfl:y=.const .nilIface:=by simpa using hy
    obtain rfl:AV.nilIface=v:=Option.some.inj (show some AV.nilIface=some v from hv)
    exact ⟨rfl,trivial⟩
  obtain ⟨S,hS,hV⟩:=(silF_ok (o:={ dst:=some 6,op:=.binOp .neq t (.tmp 5) (.const .nilIface) t,type:=b,pos:=pos,after:=e1,guard:=none }) hE hsee hs).resolve_left (by intro e;cases e)
  have hrun:(execOp a2.eval { dst:=some 6,op:=.binOp .neq t (.tmp 5) (.const .nilIface) t,type:=b,pos:=pos,after:=e1,guard:=none }).run P w=.ok (.value (.bool false)) w:=by
   rw [hS,hV.2 w]
   rfl
  have hgo:wpOpsS P (rec1 t b pos e1) (Exit.thenS ((Code.cond (.tmp 6) x .skip).wpS P (bodyPostS P fn c₀ cs fun e u w'=>(∃ v,e=.returned v)∧u=.returning∧w'=w)) (bodyPostS P fn c₀ cs fun e u w'=>(∃ v,e=.returned v)∧u=.returning∧w'=w)) [1] a2 (c₀ :: cs) w:=by
   simp only [wpOpsS,rec1,List.getElem?_toArray,List.getElem?_cons_succ,List.getElem?_cons_zero,Region.wanted,if_true,hrun,Oper.upon_value]
   refine wpS_cond (t:=false) (put_eval_same (Nat.lt_of_lt_of_le (by decide) hsz2)) (wpS_of_wp (wp_skip ?_))
   refine ⟨hd2,.returning,?_,.tuple #[],?_,⟨_,rfl⟩,rfl,rfl⟩
   ·rw [← hc]
   ·rw [results_eq,hr,Array.mapM_eq_mapM_toList]
    simp
  exact hgo
 have hl:(List.range (rec0 t pos e0).size)=[0,1]:=rfl
 rw [hl]
 exact h0
end
end Go.Ev
namespace Go.Ev
section
variable {P:Program} {E:Env} {ρ ρ':Ren} {D D':Dom} {K:Mem} {Pr:Nat→Prop} {s s':St} {w w':World} {fr fr':Fr} {X:Tmp→Prop} {a a':Act} {rec:Rec} {Q:Exit→Act→World→Prop}
noncomputable def pf (fr:Fr) (l:List (Tmp×AV)):Fr:=⟨fr.n,fr.gl,l.foldl (fun t p=>t.set p.1 p.2) fr.tmps,fr.defs⟩
theorem callOk_no:CallOk P (no1:Rec):=fun _ _ _ _ _ h=>by cases h
noncomputable def bare (E:Env):Env:=⟨E.ty,.leaf,.leaf,E.gl,.leaf⟩
theorem wp_plain (hN:EnvOk P E) (hrec:CallOk P rec) {id:Nat} {ops:Array Oper} {p:FS} (hm:MemOk P ρ D K Pr s w) (hf:FrOk P ρ D noX fr a) (hr:runOps E rec K ops.toList ops.toList fr s=some p)
 (hQ:∀ a' w' ρ' D',Out P ρ D K Pr s w noX p.1 p.2 a' w' ρ' D'→Q .normal a' w'):(Code.region id ops false).wp P Q a w:=by
 have:=runOps_ok hN hrec (ops:=ops) (Q:=Q) ops.toList 0 rfl fr s a w ρ D p hm hf hr hQ
 refine wp_region ?_
 rw [List.range_eq_range']
 simpa using this
theorem wp_cond_ev (hm:MemOk P ρ D K Pr s w) (hf:FrOk P ρ D noX fr a) {x:Operand} {t:Bool} {c₁ c₂:Code} (he:evalX x fr=some (.bool t)) (h:(if t then c₁ else c₂).wp P Q a w):(Code.cond x c₁ c₂).wp P Q a w :=
 wp_cond (sees_of hf hm.gl (xs:=[x]) (fun _ _ hX=>hX) x (by simp) _ he).1 h
theorem DefsOk.nil_of (h:DefsOk ρ a.defers []):a.defers=[]:=by
 cases hd:a.defers with
 | nil=>rfl
 | cons d ds=>rw [hd] at h;exact h.elim
theorem ret_leaves (hT:TysOk P E) (hm:MemOk P ρ D K Pr s w) (hf:FrOk P ρ D noX fr a) (hd:fr.defs=[]) {fn:Func} {vs:List AV} (hr:resultsA E K fr s fn.results.toList=some vs) {R:Ending→World→Prop}
 (hR:(oneOrTuple vs).inD D→R (.returned ((oneOrTuple vs).toV ρ)) w):Leaves P fn a.tmps R a.defers .returning w:=by
 obtain ⟨h1,h2⟩:=results_ok hT hm hf hr
 have:=hf.defs.1
 rw [hd] at this
 rw [this.nil_of]
 exact ⟨_,h2,hR h1⟩
theorem FrOk.retell (hf:FrOk P ρ D X fr a) {d:Tmp} {v:AV} (hv:(evT d fr).toV ρ=v.toV ρ) (hd:v.inD D):FrOk P ρ D X ⟨fr.n,fr.gl,fr.tmps.set d v,fr.defs⟩ a :=
 ⟨hf.size,hf.gl,fun t ht=>by
  rw [evT_set]
  split
  ·rename_i e
   subst e
   rw [← hv]
   exact ⟨(hf.tmps t ht).1,hd⟩
  ·exact hf.tmps t ht,hf.defs⟩
theorem any_take (hT:TysOk P E) (hm:MemOk P ρ D K Pr s w) (hf:FrOk P ρ D noX fr a) {ops:Array Oper} {i fuel:Nat} {oi:Oper} {v:AV} {listed:Array Bool} (hi:ops[i]? = some oi) (hs:Region.noSelect ops=true) (hfree:Region.free .any ops listed i=true)
 (hready:(Region.ready .any ops listed).contains i=true) (hg:oi.guard=none) (hsil:silF oi.op E fr=some (.val v)) (hput:putD oi.dst v fr=some fr') (hQ:∀ c a w,Q (.panic c) a w→False)
 (h:∀ a',FrOk P ρ D noX fr' a'→wpAny P .any ops Q fuel (listed.setIfInBounds i true) a' w):wpAny P .any ops Q (fuel+1) listed a w:=by
 have hsee:=sees_of hf hm.gl (xs:=oi.op.operands.toList) (fun _ _ hX=>hX)
 obtain ⟨S,hS,hV⟩:=(silF_ok (o:=oi) hT hsee hsil).resolve_left (by intro e;cases e)
 refine wpAny_take (v:=v.toV ρ) hi hs hfree hready (fun c a w hc=>(hQ c _ w hc).elim) (.inl ⟨?_,fun w=>?_⟩) (h _ ((hf.put hput hV.1).mono fun t ht=>ht.1))
 ·unfold Region.wanted
  rw [hg]
 ·rw [hS,hV.2 w]
  rfl
theorem runOps_pre (hN:EnvOk P E) (hrec:CallOk P rec) {ops:Array Oper} {r:Nat}:∀ (l:List Oper) (i:Nat),(∀ j o,l[j]? = some o→ops[i+j]? = some o)→∀ (fr:Fr) (s:St) (a:Act) (w:World) (ρ:Ren) (D:Dom) (p:FS),MemOk P ρ D K Pr s w→FrOk P ρ D noX fr a →
 runOps E rec K ops.toList l fr s=some p→(∀ a' w' ρ' D',Out P ρ D K Pr s w noX p.1 p.2 a' w' ρ' D'→wpOps P ops Q (List.range' (i+l.length) r) a' w')→wpOps P ops Q (List.range' i (l.length+r)) a w:=by
 intro l
 induction l with
 | nil =>
  intro i _ fr s a w ρ D p h hf hr hQ
  obtain rfl:(fr,s)=p:=Option.some.inj hr
  have:=hQ a w ρ D (Out.refl h hf)
  simpa using this
 | cons o l ih =>
  intro i hi fr s a w ρ D p h hf hr hQ
  obtain ⟨q,hq,hr⟩:=obind_some (show obind (runOp E rec K ops.toList o fr s) (fun p=>runOps E rec K ops.toList l p.1 p.2)=some p from hr)
  have hoi:ops[i]? = some o:=hi 0 o rfl
  rw [List.length_cons,show l.length+1+r=(l.length+r)+1 from by omega,List.range'_succ]
  simp only [wpOps,hoi]
  have hw:=wanted_eq hf (ops:=ops) (o:=o) (fun _ _ _ _ hx=>hx)
  unfold runOp at hq
  rw [sw_eq,hw] at hq
  have step:∀ a' w' ρ' D',Out P ρ D K Pr s w noX q.1 q.2 a' w' ρ' D'→wpOps P ops Q (List.range' (i+1) (l.length+r)) a' w':=by
   intro a' w' ρ' D' ho
   refine ih (i+1) (fun j o' hj=>?_) q.1 q.2 a' w' ρ' D' p ho.mem ho.fr hr fun a'' w'' ρ'' D'' ho'=>?_
   ·have:=hi (j+1) o' (by simpa using hj)
    rw [show i+1+j=i+(j+1) from by omega]
    exact this
   ·have:=hQ a'' w'' ρ'' D'' (ho.trans ho')
    rw [List.length_cons,show i+(l.length+1)=i+1+l.length from by omega] at this
    exact this
  cases hwb:Region.wanted o (yielded ops a.tmps) with
  | true =>
   rw [hwb] at hq
   simp only [if_true] at hq ⊢
   exact .inl (oper_ok hN hrec h hf (fun _ _ hx=>hx) hq fun a' w' ρ' D' ho=>step a' w' ρ' D' ⟨ho.agree,ho.grow,ho.fresh,ho.mem,ho.keeps,ho.le,ho.fr.mono fun t ht=>ht.1⟩)
  | false =>
   rw [hwb] at hq
   simp only [Bool.false_eq_true,if_false] at hq ⊢
   obtain ⟨h1,h2⟩:=okPut_some hq
   have hp:Post P ρ D K Pr s w undefA q.2 undef w ρ D:=by rw [h2];exact Post.same h (v:=undefA) trivial
   have ho:=Out.of_post hp hf h1
   exact step _ _ ρ D ⟨ho.agree,ho.grow,ho.fresh,ho.mem,ho.keeps,ho.le,ho.fr.mono fun t ht=>ht.1⟩
theorem wp_any_of (hm:P.follows .mixedOrders=true) {id:Nat} {ops:Array Oper} {S:Act→World→Prop} (h:wpAny P .any ops (fun e a w=>e=.normal∧S a w) ops.size (Array.replicate ops.size false) a { w with drawn:=w.drawn+1 }) (hS:∀ a w,S a w→Q .normal a w):(Code.region id ops true).wp P Q a w :=
 wp_mono (wp_region_any hm h) fun _ a w hq=>hq.1 ▸ hS a w hq.2
theorem any_last (hN:EnvOk P E) (hrec:CallOk P rec) (hm:MemOk P ρ D K Pr s w) (hf:FrOk P ρ D noX fr a) {ops:Array Oper} {i:Nat} {oi:Oper} {listed:Array Bool} {p:FS} (hi:ops[i]? = some oi) (hr:Region.ready .any ops listed=[i]) (hend:Region.ready .any ops (listed.setIfInBounds i true)=[])
 (hg:oi.guard=none) (hrun:obind (silF oi.op E fr) (afterSil E rec K oi fr s)=some p) (h:∀ a' w' ρ' D',Out P ρ D K Pr s w noX p.1 p.2 a' w' ρ' D'→Q .normal a' w'):wpAny P .any ops Q 1 listed a w:=by
 refine wpAny_all hr (by simp) fun j hj=>?_
 obtain rfl:j=i:=by simpa using hj
 unfold wpOp
 simp only [hi]
 have hw:Region.wanted oi (yielded ops a.tmps)=true:=by
  unfold Region.wanted
  rw [hg]
 rw [hw]
 simp only [if_true]
 exact .inl (oper_ok hN hrec hm hf (fun _ _ hX=>hX) hrun fun a' w' ρ' D' ho=>⟨hend,h a' w' ρ' D' ⟨ho.agree,ho.grow,ho.fresh,ho.mem,ho.keeps,ho.le,ho.fr.mono fun t ht=>ht.1⟩⟩)
theorem frozen_no {b off:Nat} {c:Array Value} {e:TypeId} {f:Nat×Nat} (h:w.heap[b]? = some (.cells c e f)) (hf:¬ (f.1≤off∧off<f.2)):w.frozen? ⟨b,off,none⟩=false:=by
 obtain ⟨lo,hi⟩:=f
 simp only [World.frozen?,h]
 simp only at hf
 rw [Bool.and_eq_false_iff]
 by_cases h1:lo≤off
 ·right
  simp
  omega
 ·left
  simp [h1]
theorem shape_cells {b:Nat} {c:Array Value} {e:TypeId} {f:Nat×Nat} (h:w.heap[b]? = some (.cells c e f)):w.shape? b=some (e,c.size):=by simp [World.shape?,h]
theorem run_stringish_no {b off:Nat} {c:Array Value} {e:TypeId} {f:Nat×Nat} (h:w.heap[b]? = some (.cells c e f)) (hf:¬ (f.1≤off∧off<f.2)) (hs:¬ (f.1≤c.size∧c.size<f.2)):(stringish ⟨b,off,none⟩).run P w=.ok false w:=by
 simp [stringish,frozen_no h hf,shape_cells h,frozen_no h hs]
theorem run_stringish_any {b off:Nat} {c:Array Value} {e:TypeId} {f:Nat×Nat} (h:w.heap[b]? = some (.cells c e f)):∃ t,(stringish ⟨b,off,none⟩).run P w=.ok t w:=by
 cases hz:w.frozen? ⟨b,off,none⟩ with
 | true=>exact ⟨true,by simp [stringish,hz]⟩
 | false=>exact ⟨w.frozen? ⟨b,c.size,none⟩,by simp [stringish,hz,shape_cells h]⟩
theorem overlaps_def (ps rs:Array TypeId) (x y:Option Addr) (la ca lb cb:Nat):Extern.SlicesOverlaps.overlaps ps rs #[.slice x la ca,.slice y lb cb]=(do
 let some t:=ps[0]? | stuck "slices.overlaps: no parameter types"
 let .slice elem ← underlying t | stuck "slices.overlaps: slice type expected"
 let size ← sizeOf elem
 match x,y with
 | some a,some b =>
  if la=0∨lb=0∨size=0 then pure (.bool false)
  else if a.block != b.block && (← frozen a) && (← frozen b) then unsupported .addressObserved
  else do
   if a.block != b.block then do
    noView a;noView b
    if ← mayBeOne a b then return .bool ((← choose (.extern "sameAddr.stringBytes" 2)) == 1)
   pure (.bool (a.block == b.block && a.off<b.off+lb * size && b.off<a.off+la * size))
 | _,_=>pure (.bool false)):=rfl
theorem run_overlaps {ps rs:Array TypeId} {t el:TypeId} {z:Nat} (h0:ps[0]? = some t) (ht:P.underlying t=some (.slice el)) (hz:∀ w,(sizeOf el).run P w=.ok z w) {b b' off off' la ca lb cb:Nat} {c c':Array Value} {e e':TypeId} {f f':Nat×Nat}
 (hb:w.heap[b]? = some (.cells c e f)) (hb':w.heap[b']? = some (.cells c' e' f')) (hne:b≠b') (hf:¬ (f'.1≤off'∧off'<f'.2)) (hs:¬ (f'.1≤c'.size∧c'.size<f'.2)) (hc:0<c'.size) (hc0:0<c.size) :
 (Extern.SlicesOverlaps.overlaps ps rs #[.slice (some ⟨b,off,none⟩) la ca,.slice (some ⟨b',off',none⟩) lb cb]).run P w=.ok (.bool false) w:=by
 rw [overlaps_def]
 have hbn:(b != b')=true:=by simpa using hne
 have hbe:(b == b')=false:=by simpa using hne
 have h1:=run_stringish_no (P:=P) hb' hf hs
 obtain ⟨sa,h2⟩:=run_stringish_any (P:=P) (off:=off) hb
 have hcs:c'.size≠0:=by omega
 have hm:(mayBeOne ⟨b,off,none⟩ ⟨b',off',none⟩).run P w=.ok false w:=by
  have hcs0:c.size≠0:=by omega
  have hcn:∀ n:Nat,c.size=n→n≠0:=fun n e=>by omega
  cases sa <;> simp [mayBeOne,h1,h2,shape_cells hb]
  split
  ·rename_i e0 heq
   have:=(Prod.mk.inj (Option.some.inj heq)).2
   omega
  ·rfl
 have hv:(noView ⟨b,off,none⟩).run P w=.ok () w:=by simp [noView,run_viewAt_cells hb]
 have hv':(noView ⟨b',off',none⟩).run P w=.ok () w:=by simp [noView,run_viewAt_cells hb']
 by_cases h3:la=0∨lb=0∨z=0
 ·simp [h0,run_underlying ht,hz,h3]
 ·simp [h0,run_underlying ht,hz,h3,hbn,hbe,frozen_no hb' hf,hv,hv',hm]
end
end Go.Ev
namespace Go.Ev
section
variable {P:Program} {E:Env} {ρ ρ':Ren} {D D':Dom} {K:Mem} {Pr:Nat→Prop} {s s':St} {w w':World} {fr fr':Fr} {a:Act} {Q:Exit→Act→World→Prop}
theorem call_hand (hm:MemOk P ρ D K Pr s w) (hf:FrOk P ρ D noX fr a) {f:FuncId} {e:Array Value→Sem Value} (hF:ExtFn P f e) {o:Oper} {args:Array Operand} {ts:Array TypeId} (ho:o.op=.call ⟨.value (.func f),args,ts⟩) {vs:List AV} (hvs:evalAll args.toList fr=some vs) {v:AV} {val:Value}
 (hr:(e ⟨toVs ρ vs⟩).run P w=.ok val w') (hp:Post P ρ D K Pr s w v s' val w' ρ' D') (hput:putD o.dst v fr=some fr') {N:Act→World→Prop} (hN:∀ a',Out P ρ D K Pr s w noX fr' s' a' w' ρ' D'→N a' w'):o.wp P a w N Q:=by
 have hs:=sees_of hf hm.gl (xs:=(Call.operands ⟨.value (.func f),args,ts⟩).toList) (fun _ _ hX=>hX)
 obtain ⟨h1,h2,_⟩:=evalAll_ok (ρ:=ρ) (D:=D) (ev:=a.eval) (fun y hy=>hs y (by simp [Call.operands] at hy ⊢;exact .inr hy)) hvs
 obtain ⟨h3,h4⟩:=hs (.func f) (by simp [Call.operands]) (.func (.func f) [] []) rfl
 have hmm:=args_arr h1
 obtain ⟨fn,g1,g2,g3,g4,g5⟩:=hF.fn
 have hx:(execOp a.eval o).run P w=(callFunc f ⟨toVs ρ vs⟩).run P w:=by
  simp only [execOp,ho,resolve,h3,hmm,AV.toV,Deferred.ofValue,Sem.run_bind,Sem.run_pure,Result.andThen_ok,invoke]
  congr 2
  simp [toVs]
 unfold Oper.wp
 rw [hx,run_callFunc_extern g1 g2 g3 g4 g5,hr]
 show o.upon P a N Q (.ok (.value val) w')
 rw [Oper.upon_value]
 have:=Out.of_post hp hf hput
 exact hN _ ⟨this.agree,this.grow,this.fresh,this.mem,this.keeps,this.le,this.fr.mono fun t ht=>ht.1⟩
end
end Go.Ev
namespace Go.Ev
section
variable {P:Program} {E:Env} {ρ ρ':Ren} {D D':Dom} {K:Mem} {Pr:Nat→Prop} {s s':St} {w w':World} {fr fr':Fr} {a:Act} {Q:Exit→Act→World→Prop} {rec:Rec}
theorem wp_pre (hN:EnvOk P E) (hrec:CallOk P rec) {id:Nat} {ops:Array Oper} {p:FS} (hm:MemOk P ρ D K Pr s w) (hf:FrOk P ρ D noX fr a) (k r:Nat) (hk:ops.size=k+r) (hr:runOps E rec K ops.toList (ops.toList.take k) fr s=some p)
 (hQ:∀ a' w' ρ' D',Out P ρ D K Pr s w noX p.1 p.2 a' w' ρ' D'→wpOps P ops Q (List.range' k r) a' w'):(Code.region id ops false).wp P Q a w:=by
 have hl:(ops.toList.take k).length=k:=by
  rw [List.length_take,Array.length_toList]
  omega
 refine wp_region ?_
 rw [List.range_eq_range',hk]
 have:=runOps_pre (Q:=Q) (ops:=ops) (r:=r) hN hrec (ops.toList.take k) 0 (fun j o hj=>?_) fr s a w ρ D p hm hf hr (fun a' w' ρ' D' ho=>?_)
 ·rw [hl] at this
  exact this
 ·rw [Nat.zero_add,← Array.getElem?_toList]
  rw [List.getElem?_take] at hj
  split at hj
  ·exact hj
  ·cases hj
 ·rw [hl,Nat.zero_add]
  exact hQ a' w' ρ' D' ho
end
end Go.Ev
namespace Go.Ev
theorem wpOps_at {P:Program} {ops:Array Oper} {Q:Exit→Act→World→Prop} {i:Nat} {rest:List Nat} {a:Act} {w:World} {o:Oper} (hi:ops[i]? = some o) (hg:o.guard=none) (h:o.wp P a w (wpOps P ops Q rest) Q):wpOps P ops Q (i :: rest) a w:=by
 have hw:Region.wanted o (yielded ops a.tmps)=true:=by
  unfold Region.wanted
  rw [hg]
 simp only [wpOps,hi,hw,if_true]
 exact .inl h
end Go.Ev
namespace Go.Ev
section
variable {P:Program} {E:Env} {ρ ρ':Ren} {D D':Dom} {K:Mem} {Pr:Nat→Prop} {s s':St} {w w':World} {fr fr':Fr} {a:Act} {Q:Exit→Act→World→Prop} {rec:Rec}
theorem any_hand {ops:Array Oper} {i:Nat} {oi:Oper} {listed:Array Bool} {S:Act→World→Prop} (hi:ops[i]? = some oi) (hr:Region.ready .any ops listed=[i]) (hend:Region.ready .any ops (listed.setIfInBounds i true)=[])
 (hg:oi.guard=none) (h:∀ N:Act→World→Prop,(∀ a' w',S a' w'→N a' w')→oi.wp P a w N Q) (hQ:∀ a' w',S a' w'→Q .normal a' w'):wpAny P .any ops Q 1 listed a w:=by
 refine wpAny_all hr (by simp) fun j hj=>?_
 obtain rfl:j=i:=by simpa using hj
 unfold wpOp
 simp only [hi]
 have hw:Region.wanted oi (yielded ops a.tmps)=true:=by
  unfold Region.wanted
  rw [hg]
 rw [hw]
 simp only [if_true]
 exact .inl (h _ fun a' w' hs=>⟨hend,hQ a' w' hs⟩)
theorem copy_into_tail (hT:TysOk P E) (hm:MemOk P ρ D K Pr s w) {n t c:Nat} {e:TypeId} {o0 o1 o2:AV} (hold:s.H.get n=some (.cells [o0,o1,o2] e 0 false)) (hel:P.cellsOf e=3) (hz:sizeT E e=some 3) (ht:(ρ n).tail=t+1) (ho:∀ x∈[o0,o1,o2],x.one=true)
 {ts:Array TypeId} {ty:TypeId} (hts:elemT E ts.toList=some e) :
 ∃ w',(Builtin.copy_ ts ty ⟨toVs ρ [.slice (some (n,3)) 1 (t+1) false,.slice (some (n,0)) 2 c false]⟩).run P w=.ok ((lenInt 1).toV (upd ρ s.k ⟨(ρ n).blk,(ρ n).off,t⟩)) w' ∧
  Post P ρ D K Pr s w (lenInt 1) ⟨(s.H.erase n).set s.k (.cells [o0,o1,o2,o0,o1,o2] e 0 false),s.k+1⟩ ((lenInt 1).toV (upd ρ s.k ⟨(ρ n).blk,(ρ n).off,t⟩)) w' (upd ρ s.k ⟨(ρ n).blk,(ρ n).off,t⟩) (addD D s.k):=by
 obtain ⟨g0,hall,⟨cc,fr,g1,g2,g3,g4,g5,g6⟩,g7⟩:=hm.own n _ hold
 rw [hel,ht] at g4 g5
 simp only [List.length_cons,List.length_nil] at g4 g5
 have hall:allIn D [o0,o1,o2]:=hall
 obtain ⟨t1,hT1,hTs⟩:=elemT_ok hT hts
 obtain ⟨jz,hjz,hj3⟩:=sizeT_some hz
 have hsz:∀ w,(sizeOf e).run P w=.ok 3 w:=fun w=>by rw [run_sizeOf (hT.ty _ _ hjz) w,hj3]
 have hcs:firstCells K s 3 1 (.slice (some (n,0)) 2 c false)=some [o0,o1,o2]:=by
  show obind (look K s n) (cellsFrom 0 3)=_
  have:look K s n=some (.cells [o0,o1,o2] e 0 false):=by
   unfold look
   rw [hold]
   rfl
  rw [this]
  rfl
 obtain ⟨f1,f2⟩:=firstCells_ok hm (v:=.slice (some (n,0)) 2 c false) g0 hcs
 obtain ⟨w',r1,r2,r3⟩:=run_storeCells_own (P:=P) (o:=(ρ n).off+3) (toVs ρ [o0,o1,o2]) 0 cc w g1 (by simp only [toVs,List.length_cons,List.length_nil];omega) (fun j h5 h6=>g5 j (by omega) (by simp only [toVs,List.length_cons,List.length_nil] at h6;omega)) (fun x hx=>by
  rw [toVs_eq] at hx
  obtain ⟨y,hy,rfl⟩:=List.mem_map.1 hx
  exact one_toV (ho y hy))
 have hag:Agree D ρ (upd ρ s.k ⟨(ρ n).blk,(ρ n).off,t⟩):=upd_agree fun hk=>Nat.lt_irrefl _ (hm.dom _ hk)
 have hall6:allIn D [o0,o1,o2,o0,o1,o2]:=by
  simp only [allIn] at hall ⊢
  exact ⟨hall.1,hall.2.1,hall.2.2.1,hall.1,hall.2.1,hall.2.2.1,trivial⟩
 have hown:Own P (upd ρ s.k ⟨(ρ n).blk,(ρ n).off,t⟩) w' s.k (.cells [o0,o1,o2,o0,o1,o2] e 0 false):=by
  refine ⟨_,fr,by rw [upd_same];exact r3,?_,by rw [upd_same];exact g3,?_,?_,?_⟩
  ·intro i v hv
   rw [upd_same,toV_ext hag v (allIn_get hall6 hv)]
   have hlt:i<6:=(List.getElem?_eq_some_iff.1 hv).1
   rw [List.getElem?_toArray,Nat.add_zero]
   have htk:(cc.toList.take ((ρ n).off+3)).length=(ρ n).off+3:=by simp;omega
   by_cases hi:i<3
   ·rw [List.getElem?_append_left (by rw [htk];show (ρ n).off+i<_;omega),List.getElem?_take,if_pos (by show (ρ n).off+i<_;omega),Array.getElem?_toList]
    refine g2 i v ?_
    rcases i with _ | _ | _ | i
    ·exact hv
    ·exact hv
    ·exact hv
    ·omega
   ·rw [List.getElem?_append_right (by rw [htk];show _≤(ρ n).off+i;omega),htk,List.getElem?_append_left (by simp only [toVs,List.length_cons,List.length_nil];show (ρ n).off+i - _<_;omega)]
    have e1:(ρ n).off+i - ((ρ n).off+3)=i - 3:=by omega
    show (toVs ρ [o0,o1,o2])[(ρ n).off+i - ((ρ n).off+3)]? = _
    rw [e1]
    refine toVs_get ?_
    rcases i with _ | _ | _ | _ | _ | _ | i
    ·omega
    ·omega
    ·omega
    ·exact hv
    ·exact hv
    ·exact hv
    ·omega
  ·rw [upd_same,hel]
   simp only [List.size_toArray,List.length_append,List.length_take,List.length_drop,Array.length_toList,toVs,List.length_cons,List.length_nil]
   omega
  ·rw [upd_same,hel]
   intro j h5 h6
   simp only [List.length_cons,List.length_nil] at h5 h6
   exact g5 j (by omega) (by omega)
  ·rw [upd_same]
   exact g6
 obtain ⟨m1,m2,m3⟩:=hm.moveTo (l:=⟨(ρ n).blk,(ρ n).off,t⟩) hold rfl r2 hown hall6
 refine ⟨w',?_,m2,fun m hm'=>.inl hm',fun m hm'=>?_,m1,m3,rfl,trivial,Nat.le_succ _⟩
 ·have hlen:=lenOf_ok (P:=P) (ρ:=ρ) (v:=.slice (some (n,0)) 2 c false) (n:=2) rfl
  have hg0:(⟨toVs ρ [.slice (some (n,3)) 1 (t+1) false,.slice (some (n,0)) 2 c false]⟩:Array Value)[0]? = some (.slice (some ⟨(ρ n).blk,(ρ n).off+3,none⟩) 1 (t+1)):=rfl
  have hg1:(⟨toVs ρ [.slice (some (n,3)) 1 (t+1) false,.slice (some (n,0)) 2 c false]⟩:Array Value)[1]? = some ((AV.slice (some (n,0)) 2 c false).toV ρ):=rfl
  have f1':(Builtin.firstCells 3 1 (Value.slice (some (adr ρ (n,0))) 2 c)).run P w=.ok ⟨toVs ρ [o0,o1,o2]⟩ w:=f1
  simp only [Builtin.copy_,hT1,hg0,hg1,Sem.run_bind,Sem.run_pure,Result.andThen_ok,run_underlying hTs,hlen,hsz,Nat.min_def]
  simp [hsz,AV.toV,lenInt,goInt]
  rw [f1']
  simp [r1]
 ·rcases hm' with hm' | rfl
  ·exact .inl hm'
  ·exact .inr (Nat.le_refl _)
end
end Go.Ev
namespace Go.Ev
section
variable {P:Program} {E:Env} {ρ ρ':Ren} {D D':Dom} {K:Mem} {Pr:Nat→Prop} {s s':St} {w w':World} {fr fr':Fr} {a a':Act} {Q:Exit→Act→World→Prop} {rec:Rec}
theorem Out.noX {R:Tmp→Prop} (h:Out P ρ D K Pr s w (fun t=>noX t∧R t) fr' s' a' w' ρ' D'):Out P ρ D K Pr s w noX fr' s' a' w' ρ' D' :=
 ⟨h.agree,h.grow,h.fresh,h.mem,h.keeps,h.le,h.fr.mono fun _ ht=>ht.1⟩
theorem copy_hand (hm:MemOk P ρ D K Pr s w) (hf:FrOk P ρ D noX fr a) {o:Oper} {args:Array Operand} {ts:Array TypeId} (ho:o.op=.call ⟨.builtin .copy,args,ts⟩) {vs:List AV} (hvs:evalAll args.toList fr=some vs) {v:AV} {val:Value}
 (hr:(Builtin.copy_ ts o.type ⟨toVs ρ vs⟩).run P w=.ok val w') (hp:Post P ρ D K Pr s w v s' val w' ρ' D') (hput:putD o.dst v fr=some fr') {N:Act→World→Prop} (hN:∀ a',Out P ρ D K Pr s w noX fr' s' a' w' ρ' D'→N a' w'):o.wp P a w N Q:=by
 have hs:=sees_of hf hm.gl (xs:=(Call.operands ⟨.builtin .copy,args,ts⟩).toList) (fun _ _ hX=>hX)
 obtain ⟨h1,h2,_⟩:=evalAll_ok (ρ:=ρ) (D:=D) (ev:=a.eval) (fun y hy=>hs y (by simp [Call.operands] at hy ⊢;exact hy)) hvs
 have hmm:=args_arr h1
 have hx:(execOp a.eval o).run P w=.ok (.value val) w':=by
  simp only [execOp,ho,resolve,hmm,invoke,builtin,Sem.run_bind,Sem.run_pure,Result.andThen_ok,hr]
 unfold Oper.wp
 rw [hx,Oper.upon_value]
 exact hN _ (Out.of_post hp hf hput).noX
end
end Go.Ev
namespace Go.Ev
section
variable {P:Program} {E:Env} {ρ ρ':Ren} {D D':Dom} {K:Mem} {Pr:Nat→Prop} {s s':St} {w w':World} {fr fr':Fr} {a a':Act} {Q:Exit→Act→World→Prop} {rec:Rec}
theorem MemOk.keep (h:MemOk P ρ D K Pr s w) (hk:Keeps (fun b=>b<w.heap.size) w w'):MemOk P ρ D K Pr s w' where
 dom:=h.dom
 own:=fun n o hn=>by
  obtain ⟨h1,h2,h3,h4⟩:=h.own n o hn
  exact ⟨h1,h2,h3.move h2 rfl (Agree.refl D ρ) (hk.same _ h3.lt),h4⟩
 inj:=h.inj
 rd:=fun n o hn=>by
  obtain ⟨h1,h2,h3,h4⟩:=h.rd n o hn
  exact ⟨h1,h2,h3.move h2 rfl (Agree.refl D ρ) (hk.same _ (h.prlt _ h4)),h4⟩
 prlt:=fun b hb=>Nat.lt_of_lt_of_le (h.prlt b hb) hk.size
 gl:=h.gl
theorem Post.keep (h:MemOk P ρ D K Pr s w) (hk:Keeps (fun b=>b<w.heap.size) w w') {v:AV} (hd:v.inD D):Post P ρ D K Pr s w v s (v.toV ρ) w' ρ D :=
 ⟨Agree.refl D ρ,fun _ h=>h,fun _ h=>.inl h,h.keep hk,hk.mono fun b hb=>h.prlt b hb,rfl,hd,Nat.le_refl _⟩
end
end Go.Ev
namespace Go.Ev
noncomputable def eqAV (a b:AV):Bool:=bor (oelim a.asInt false fun p=>oelim b.asInt false fun q=>band (kindEq p.1 q.1) (ieq p.2 q.2)) (oelim a.asStr false fun s=>oelim b.asStr false fun t=>eqBytes s t)
theorem eqAV_eq {a b:AV} (h:eqAV a b=true):a=b:=by
 unfold eqAV at h
 cases a with
 | int k n =>
  cases hb:b.asInt with
  | none=>rw [hb] at h;cases h
  | some q =>
   rw [hb] at h
   have h:bor (band (kindEq k q.1) (ieq n q.2)) false=true:=h
   have h:band (kindEq k q.1) (ieq n q.2)=true:=by
    cases hx:band (kindEq k q.1) (ieq n q.2) with
    | true=>rfl
    | false=>rw [hx] at h;cases h
   rw [band_eq,Bool.and_eq_true,kindEq_eq,ieq_eq,decide_eq_true_eq,decide_eq_true_eq] at h
   rw [asInt_some hb,h.1,h.2]
 | str s =>
  cases hb:b.asStr with
  | none=>rw [hb] at h;cases h
  | some t =>
   rw [hb] at h
   have h:eqBytes s t=true:=h
   rw [eqBytes_eq,beq_iff_eq] at h
   rw [asStr_some hb,h]
 | _=>cases h
noncomputable def eqAVs (l:List AV):List AV→Bool:=@List.rec AV (fun _=>List AV→Bool) isNilB (fun a _ f y=>lcase y false fun b bs=>band (eqAV a b) (f bs)) l
theorem eqAVs_eq {l:List AV}:∀ {r:List AV},eqAVs l r=true→l=r:=by
 induction l with
 | nil =>
  intro r h
  cases r with
  | nil=>rfl
  | cons=>cases h
 | cons a l ih =>
  intro r h
  cases r with
  | nil=>cases h
  | cons b r =>
   have h:band (eqAV a b) (eqAVs l r)=true:=h
   rw [band_eq,Bool.and_eq_true] at h
   rw [eqAV_eq h.1,ih h.2]
noncomputable def eqObj (a b:AObj):Bool:=AObj.el (fun vs e f sh=>AObj.el (fun vs' e' f' sh'=>band (Nat.beq e e') (band (Nat.beq f f') (band (beqB sh sh') (eqAVs vs vs')))) (fun _ _=>false) (fun _ _=>false) b) (fun _ _=>false) (fun _ _=>false) a
noncomputable def eqObjs (K:Mem) (l:List (Nat×AObj)):Bool:=lall (fun p=>oelim (K.get p.1) false (eqObj p.2)) l
noncomputable def intObj (e:TypeId) (o:AObj):Option Int:=AObj.el (fun vs e' f sh=>grd (band (Nat.beq e' e) (band (Nat.beq f 0) (band (bnot sh) (Nat.beq (llen vs) 1)))) (obind (lget vs 0) fun v=>obind v.asInt fun p=>grd (kindEq p.1 .i64) (some p.2))) (fun _ _=>none) (fun _ _=>none) o
end Go.Ev
