/- A part of the proof: EvMem, EvLoudA, EvLoudB, EvLoudC, EvLoudD, EvLoudE, EvLoudF -/
import Derived.Test.YtimfnccfnefajaaGreatDoorVEvD
set_option linter.unusedSimpArgs false
set_option linter.unusedVariables false
namespace Go.Ev
structure MemOk (P:Program) (ρ:Ren) (D:Dom) (K:Mem) (Pr:Nat→Prop) (s:St) (w:World):Prop where
 dom:∀ n,D n→n<s.k
 own:∀ n o,s.H.get n=some o→D n∧o.inD D∧Own P ρ w n o∧¬ Pr (ρ n).blk
 inj:∀ n m o o',s.H.get n=some o→s.H.get m=some o'→n≠m→(ρ n).blk≠(ρ m).blk
 rd:∀ n o,K.get n=some o→D n∧o.inD D∧Rd P ρ w n o∧Pr (ρ n).blk
 prlt:∀ b,Pr b→b<w.heap.size
 gl:∀ g,g<P.globals.size→D g∧ρ g=⟨g,0,0⟩
structure Keeps (Pr:Nat→Prop) (w w':World):Prop where
 size:w.heap.size≤w'.heap.size
 same:∀ b,Pr b→w'.heap[b]? = w.heap[b]?
 os:w'.os=w.os
 output:w'.output=w.output
 tape:w'.tape=w.tape
theorem Keeps.refl (Pr:Nat→Prop) (w:World):Keeps Pr w w:=⟨Nat.le_refl _,fun _ _=>rfl,rfl,rfl,rfl⟩
theorem Keeps.trans {Pr:Nat→Prop} {w w' w'':World} (h:Keeps Pr w w') (h':Keeps Pr w' w''):Keeps Pr w w'' :=
 ⟨Nat.le_trans h.size h'.size,fun b hb=>(h'.same b hb).trans (h.same b hb),h'.os.trans h.os,h'.output.trans h.output,h'.tape.trans h.tape⟩
theorem Keeps.mono {Pr Pr':Nat→Prop} {w w':World} (h:Keeps Pr w w') (hp:∀ b,Pr' b→Pr b):Keeps Pr' w w':=⟨h.size,fun b hb=>h.same b (hp b hb),h.os,h.output,h.tape⟩
section
variable {P:Program} {E:Env} {ρ ρ':Ren} {D D':Dom} {K:Mem} {Pr:Nat→Prop} {s s':St} {w w':World}
theorem get_ext_cells {vs:List AV} {c:Array Value} {off:Nat} (h:Agree D ρ ρ') (hd:allIn D vs) (hc:∀ i v,vs[i]? = some v→c[off+i]? = some (v.toV ρ)):∀ i v,vs[i]? = some v→c[off+i]? = some (v.toV ρ'):=by
 intro i v hv
 rw [toV_ext h v (allIn_get hd hv)]
 exact hc i v hv
theorem map_ext_ent {es:List Ent} (h:Agree D ρ ρ') (hd:∀ e∈es,e.1.inD D∧e.2.1.inD D):es.map (entV ρ')=es.map (entV ρ) :=
 List.map_congr_left fun e he=>entV_ext h (hd e he).1 (hd e he).2
theorem Own.move {n:Nat} {o:AObj} (ho:Own P ρ w n o) (hd:o.inD D) (hn:ρ' n=ρ n) (ha:Agree D ρ ρ') (hb:w'.heap[(ρ n).blk]? = w.heap[(ρ n).blk]?):Own P ρ' w' n o:=by
 cases o with
 | cells vs e frz sh =>
  obtain ⟨c,fr,h1,h2,h3,h4,h5,h6⟩:=ho
  refine ⟨c,fr,by rw [hn,hb,h1],?_,by rw [hn];exact h3,by rw [hn];exact h4,by rw [hn];exact h5,by rw [hn];exact h6⟩
  rw [hn]
  exact get_ext_cells ha hd h2
 | map es clock =>
  show w'.heap[(ρ' n).blk]? = _
  rw [hn,hb,map_ext_ent ha hd]
  exact ho
 | siter b pos =>
  obtain ⟨h1,h2⟩:=ho
  exact ⟨by rw [hn,hb];exact h1,by rw [hn];exact h2⟩
theorem Rd.move {n:Nat} {o:AObj} (ho:Rd P ρ w n o) (hd:o.inD D) (hn:ρ' n=ρ n) (ha:Agree D ρ ρ') (hb:w'.heap[(ρ n).blk]? = w.heap[(ρ n).blk]?):Rd P ρ' w' n o:=by
 cases o with
 | cells vs e frz sh =>
  obtain ⟨c,fr,h1,h2,h3,h4⟩:=ho
  refine ⟨c,fr,by rw [hn,hb,h1],?_,by rw [hn];exact h3,by rw [hn];exact h4⟩
  rw [hn]
  exact get_ext_cells ha hd h2
 | map es clock =>
  show w'.heap[(ρ' n).blk]? = _
  rw [hn,hb,map_ext_ent ha hd]
  exact ho
 | siter b pos =>
  obtain ⟨h1,h2⟩:=ho
  exact ⟨by rw [hn,hb];exact h1,by rw [hn];exact h2⟩
theorem AObj.inD_mono {o:AObj} (h:o.inD D) (hd:∀ n,D n→D' n):o.inD D':=by
 cases o with
 | cells vs e frz sh=>exact allIn_mono hd vs h
 | map es clock=>exact fun e he=>⟨Go.Ev.inD_mono hd _ (h e he).1,Go.Ev.inD_mono hd _ (h e he).2⟩
 | siter=>trivial
theorem Own.lt {n:Nat} {o:AObj} (h:Own P ρ w n o):(ρ n).blk<w.heap.size:=by
 have:∃ x,w.heap[(ρ n).blk]? = some x:=by
  cases o with
  | cells=>obtain ⟨c,fr,h1,_⟩:=h;exact ⟨_,h1⟩
  | map=>exact ⟨_,h⟩
  | siter=>exact ⟨_,h.1⟩
 obtain ⟨x,hx⟩:=this
 exact (Array.getElem?_eq_some_iff.1 hx).1
theorem look_some {n:Nat} {o:AObj} (h:look K s n=some o):s.H.get n=some o∨(s.H.get n=none∧K.get n=some o):=by
 unfold look at h
 cases hs:s.H.get n with
 | none=>rw [hs] at h;exact .inr ⟨rfl,h⟩
 | some o'=>rw [hs] at h;exact .inl h
theorem MemOk.look (h:MemOk P ρ D K Pr s w) {n:Nat} {o:AObj} (ho:look K s n=some o):D n∧o.inD D∧Rd P ρ w n o:=by
 rcases look_some ho with h1 | ⟨_,h1⟩
 ·obtain ⟨h2,h3,h4,_⟩:=h.own n o h1
  exact ⟨h2,h3,h4.rd⟩
 ·obtain ⟨h2,h3,h4,_⟩:=h.rd n o h1
  exact ⟨h2,h3,h4⟩
def addD (D:Dom) (k:Nat):Dom:=fun n=>D n∨n=k
theorem get_newSt (ob:AObj) (s:St) (n:Nat):(newSt ob s).H.get n=if n=s.k then some ob else s.H.get n:=Tr.get_set _ _ _ _
theorem MemOk.alloc (h:MemOk P ρ D K Pr s w) {ob:AObj} {l:Loc} (hw:Pushed w w') (hl:l.blk=w.heap.size) (ho:Own P (upd ρ s.k l) w' s.k ob) (hd:ob.inD D) :
 MemOk P (upd ρ s.k l) (addD D s.k) K Pr (newSt ob s) w'∧Agree D ρ (upd ρ s.k l)∧Keeps Pr w w':=by
 have hk:¬ D s.k:=fun e=>Nat.lt_irrefl _ (h.dom _ e)
 have ha:Agree D ρ (upd ρ s.k l):=upd_agree hk
 have hmono:∀ n,D n→addD D s.k n:=fun n hn=>.inl hn
 have hold:∀ n o,s.H.get n=some o→n≠s.k∧Own P (upd ρ s.k l) w' n o∧(upd ρ s.k l) n=ρ n∧(ρ n).blk<w.heap.size:=by
  intro n o hn
  obtain ⟨h1,h2,h3,_⟩:=h.own n o hn
  have hne:n≠s.k:=fun e=>hk (e ▸ h1)
  have hlt:=h3.lt
  exact ⟨hne,h3.move h2 (ha n h1) ha (hw.old _ hlt),ha n h1,hlt⟩
 refine ⟨⟨?_,?_,?_,?_,?_,?_⟩,ha,⟨by rw [hw.size];omega,fun b hb=>hw.old b (h.prlt b hb),hw.os,hw.output,hw.tape⟩⟩
 ·intro n hn
  show n<s.k+1
  rcases hn with hn | hn
  ·have:=h.dom n hn;omega
  ·omega
 ·intro n o hn
  rw [get_newSt] at hn
  by_cases e:n=s.k
  ·subst e
   rw [if_pos rfl] at hn
   obtain rfl:=Option.some.inj hn
   refine ⟨.inr rfl,AObj.inD_mono hd hmono,ho,?_⟩
   rw [upd_same,hl]
   exact fun hp=>Nat.lt_irrefl _ (h.prlt _ hp)
  ·rw [if_neg e] at hn
   obtain ⟨h1,h2,_,h4⟩:=h.own n o hn
   obtain ⟨_,h5,h6,_⟩:=hold n o hn
   exact ⟨.inl h1,AObj.inD_mono h2 hmono,h5,by rw [h6];exact h4⟩
 ·intro n m o o' hn hm hne
  rw [get_newSt] at hn hm
  by_cases e:n=s.k
  ·subst e
   rw [if_neg (Ne.symm hne)] at hm
   obtain ⟨_,_,h6,h7⟩:=hold m o' hm
   rw [upd_same,h6,hl]
   omega
  ·rw [if_neg e] at hn
   obtain ⟨_,_,h6,h7⟩:=hold n o hn
   by_cases e':m=s.k
   ·subst e'
    rw [upd_same,h6,hl]
    omega
   ·rw [if_neg e'] at hm
    obtain ⟨_,_,h8,_⟩:=hold m o' hm
    rw [h6,h8]
    exact h.inj n m o o' hn hm hne
 ·intro n o hn
  obtain ⟨h1,h2,h3,h4⟩:=h.rd n o hn
  exact ⟨.inl h1,AObj.inD_mono h2 hmono,h3.move h2 (ha n h1) ha (hw.old _ (h.prlt _ h4)),by rw [ha n h1];exact h4⟩
 ·intro b hb
  rw [hw.size]
  have:=h.prlt b hb
  omega
 ·intro g hg
  obtain ⟨h1,h2⟩:=h.gl g hg
  exact ⟨.inl h1,by rw [ha g h1];exact h2⟩
structure Changed (b:Nat) (w w':World):Prop where
 size:w'.heap.size=w.heap.size
 old:∀ c,c≠b→w'.heap[c]? = w.heap[c]?
 os:w'.os=w.os
 output:w'.output=w.output
 tape:w'.tape=w.tape
theorem get_setObj (ob:AObj) (s:St) (n m:Nat):(setObj s n ob).H.get m=if m=n then some ob else s.H.get m:=Tr.get_set _ _ _ _
theorem MemOk.change (h:MemOk P ρ D K Pr s w) {n:Nat} {o ob:AObj} (hn:s.H.get n=some o) (hw:Changed (ρ n).blk w w') (ho:Own P ρ w' n ob) (hd:ob.inD D):MemOk P ρ D K Pr (setObj s n ob) w'∧Keeps Pr w w':=by
 obtain ⟨h1,h2,h3,h4⟩:=h.own n o hn
 refine ⟨⟨h.dom,?_,?_,?_,?_,h.gl⟩,⟨by rw [hw.size];exact Nat.le_refl _,fun b hb=>hw.old b (fun e=>h4 (e ▸ hb)),hw.os,hw.output,hw.tape⟩⟩
 ·intro m o' hm
  rw [get_setObj] at hm
  by_cases e:m=n
  ·subst e
   rw [if_pos rfl] at hm
   obtain rfl:=Option.some.inj hm
   exact ⟨h1,hd,ho,h4⟩
  ·rw [if_neg e] at hm
   obtain ⟨g1,g2,g3,g4⟩:=h.own m o' hm
   exact ⟨g1,g2,g3.move g2 rfl (Agree.refl D ρ) (hw.old _ (h.inj m n o' o hm hn e)),g4⟩
 ·intro m m' o1 o2 hm hm' hne
  rw [get_setObj] at hm hm'
  by_cases e:m=n
  ·subst e
   rw [if_neg (Ne.symm hne)] at hm'
   exact h.inj m m' o o2 hn hm' hne
  ·rw [if_neg e] at hm
   by_cases e':m'=n
   ·subst e'
    exact h.inj m m' o1 o hm hn hne
   ·rw [if_neg e'] at hm'
    exact h.inj m m' o1 o2 hm hm' hne
 ·intro m o' hm
  obtain ⟨g1,g2,g3,g4⟩:=h.rd m o' hm
  exact ⟨g1,g2,g3.move g2 rfl (Agree.refl D ρ) (hw.old _ (fun e=>h4 (e ▸ g4))),g4⟩
 ·intro b hb
  rw [hw.size]
  exact h.prlt b hb
end
end Go.Ev
namespace Go.Ev
section
variable {P:Program} {E:Env} {ρ ρ':Ren} {D D':Dom} {K:Mem} {Pr:Nat→Prop} {s s':St} {w w':World}
theorem Changed.refl (b:Nat) (w:World):Changed b w w:=⟨rfl,fun _ _=>rfl,rfl,rfl,rfl⟩
theorem Changed.trans {b:Nat} {w w' w'':World} (h:Changed b w w') (h':Changed b w' w''):Changed b w w'' :=
 ⟨h'.size.trans h.size,fun c hc=>(h'.old c hc).trans (h.old c hc),h'.os.trans h.os,h'.output.trans h.output,h'.tape.trans h.tape⟩
theorem heap_modify_same {a:Array Obj} {b:Nat} {x:Obj} (f:Obj→Obj) (h:a[b]? = some x):(a.modify b f)[b]? = some (f x):=by
 rw [Array.getElem?_modify];simp [h]
theorem heap_modify_ne {a:Array Obj} {b c:Nat} (f:Obj→Obj) (h:c≠b):(a.modify b f)[c]? = a[c]? := by
 rw [Array.getElem?_modify,if_neg (Ne.symm h)]
theorem changed_setCell {b off:Nat} {c:Array Value} {e:TypeId} {fr:Nat×Nat} (h:w.heap[b]? = some (.cells c e fr)) (v:Value) :
 Changed b w (w.setCell ⟨b,off,none⟩ v)∧(w.setCell ⟨b,off,none⟩ v).heap[b]? = some (.cells (c.setIfInBounds off v) e fr):=by
 refine ⟨⟨by simp [World.setCell],fun q hq=>?_,rfl,rfl,rfl⟩,?_⟩
 ·exact heap_modify_ne _ hq
 ·show (w.heap.modify b _)[b]? = _
  rw [heap_modify_same _ h]
  simp
theorem run_store_own {b off:Nat} {c:Array Value} {e:TypeId} {fr:Nat×Nat} (h:w.heap[b]? = some (.cells c e fr)) (hlt:off<c.size) (hf:¬ (fr.1≤off∧off<fr.2)) {v:Value} (hv:v.oneCell'=true) (m:Mode) :
 (store ⟨b,off,none⟩ v m).run P w=.ok () (w.setCell ⟨b,off,none⟩ v):=by
 have hc:w.cell? ⟨b,off,none⟩=some c[off]:=by simp [World.cell?,h,hlt]
 have hfr:w.frozen? ⟨b,off,none⟩=false:=by
  obtain ⟨lo,hi⟩:=fr
  simp only [World.frozen?,h]
  simp only at hf
  rw [Bool.and_eq_false_iff]
  by_cases h1:lo≤off
  ·right
   simp
   omega
  ·left
   simp [h1]
 rw [run_store P w _ v m hv,hc]
 simp [hfr]
theorem run_storeCells_own {b o:Nat} {e:TypeId} {fr:Nat×Nat}:∀ (vs:List Value) (i:Nat) (c:Array Value) (w:World),w.heap[b]? = some (.cells c e fr)→o+i+vs.length≤c.size →
 (∀ j,o+i≤j→j<o+i+vs.length→¬ (fr.1≤j∧j<fr.2))→(∀ v∈vs,v.oneCell'=true) →
 ∃ w',(storeCells ⟨b,o,none⟩ vs i).run P w=.ok () w'∧Changed b w w'∧w'.heap[b]? = some (.cells ⟨c.toList.take (o+i) ++ (vs ++ c.toList.drop (o+i+vs.length))⟩ e fr):=by
 intro vs
 induction vs with
 | nil =>
  intro i c w h _ _ _
  refine ⟨w,rfl,Changed.refl b w,?_⟩
  rw [h]
  simp
 | cons v vs ih =>
  intro i c w h hl hf h1
  simp only [List.length_cons] at hl hf
  have hst:=run_store_own (P:=P) (off:=o+i) h (by omega) (hf _ (Nat.le_refl _) (by omega)) (h1 v (by simp)) .plain
  obtain ⟨hc1,hc2⟩:=changed_setCell (off:=o+i) h v
  obtain ⟨w',h2,h3,h4⟩:=ih (i+1) (c.setIfInBounds (o+i) v) (w.setCell ⟨b,o+i,none⟩ v) hc2 (by simp;omega) (fun j h5 h6=>hf j (by omega) (by omega)) (fun x hx=>h1 x (List.mem_cons_of_mem _ hx))
  refine ⟨w',?_,hc1.trans h3,?_⟩
  ·have hadd:(⟨b,o,none⟩:Addr).add i=⟨b,o+i,none⟩:=by rw [Addr.add_lit]
   simp only [storeCells,Sem.run_bind,hadd,hst,Result.andThen_ok,h2]
  ·rw [h4]
   congr 2
   apply Array.ext'
   have hlt:o+i<c.toList.length:=by simp;omega
   simp only [Array.toList_setIfInBounds,List.length_cons]
   have e1:(c.toList.set (o+i) v).take (o+(i+1))=c.toList.take (o+i) ++ [v]:=by
    rw [show o+(i+1)=(o+i)+1 by omega,List.take_set,List.take_succ_eq_append_getElem hlt,List.set_append]
    simp only [List.length_take,Nat.min_eq_left (Nat.le_of_lt hlt),Nat.lt_irrefl,if_false,Nat.sub_self,List.set_cons_zero]
   have e2:(c.toList.set (o+i) v).drop (o+(i+1)+vs.length)=c.toList.drop (o+i+(vs.length+1)):=by
    rw [List.drop_set_of_lt (by omega)]
    congr 1;omega
   rw [e1,e2,List.append_assoc,List.singleton_append,List.cons_append]
theorem one_toV {v:AV} (h:v.one=true):(v.toV ρ).oneCell'=true:=by
 cases v <;> first | rfl | cases h | simp [AV.toV,Value.oneCell']
theorem storeAt_cons {a:Nat×Nat} {v:AV} {new:List AV} (h:storeAt a (v :: new) s=some s'):∃ vs e frz sh,s.H.get a.1=some (.cells vs e frz sh)∧frz≤a.2∧a.2+(v :: new).length≤vs.length∧(∀ x∈v :: new,x.one=true) ∧
 s'=setObj s a.1 (.cells (putCells (v :: new) a.2 vs) e frz sh):=by
 have h:obind (s.H.get a.1) (putObj s a.1 a.2 (v :: new))=some s':=h
 obtain ⟨o,ho,h⟩:=obind_some h
 cases o with
 | cells vs e frz sh =>
  obtain ⟨hc,h⟩:=grd_some (show grd (band (Nat.ble frz a.2) (band (Nat.ble (Nat.add a.2 (llen (v :: new))) (llen vs)) (lall AV.one (v :: new)))) (some (setObj s a.1 (.cells (putCells (v :: new) a.2 vs) e frz sh)))=some s' from h)
  rw [band_eq,band_eq,Bool.and_eq_true,Bool.and_eq_true,ble_eq,ble_eq,llen_eq,llen_eq,lall_iff] at hc
  exact ⟨vs,e,frz,sh,ho,of_decide_eq_true hc.1,of_decide_eq_true hc.2.1,hc.2.2,(Option.some.inj h).symm⟩
 | _=>cases h
theorem putCells_length {α:Type} (new vs:List α) (off:Nat) (h:off+new.length≤vs.length):(putCells new off vs).length=vs.length:=by
 rw [putCells_eq]
 simp
 omega
theorem putCells_get {α:Type} (new vs:List α) (off i:Nat) (h:off+new.length≤vs.length):(putCells new off vs)[i]? = if off≤i∧i<off+new.length then new[i - off]? else vs[i]? := by
 rw [putCells_eq]
 have hl:(vs.take off).length=off:=by simp;omega
 by_cases h1:i<off
 ·rw [List.getElem?_append_left (by omega),if_neg (by omega),List.getElem?_take,if_pos h1]
 ·rw [List.getElem?_append_right (by omega),hl]
  by_cases h2:i<off+new.length
  ·rw [List.getElem?_append_left (by omega),if_pos ⟨by omega,h2⟩]
  ·rw [List.getElem?_append_right (by omega),if_neg (by omega),List.getElem?_drop]
   congr 1
   omega
theorem storeAt_ok (h:MemOk P ρ D K Pr s w) {a:Nat×Nat} {new:List AV} (hd:allIn D new) (hs:storeAt a new s=some s') :
 ∃ w',(storeCells (adr ρ a) (toVs ρ new)).run P w=.ok () w'∧MemOk P ρ D K Pr s' w'∧Keeps Pr w w'∧s'.k=s.k:=by
 cases new with
 | nil =>
  obtain rfl:s=s':=Option.some.inj hs
  exact ⟨w,rfl,h,Keeps.refl _ _,rfl⟩
 | cons v new =>
  obtain ⟨vs,e,frz,sh,h1,h2,h3,h4,rfl⟩:=storeAt_cons hs
  obtain ⟨g1,g2,g3,g4⟩:=h.own _ _ h1
  obtain ⟨c,fr,c1,c2,c3,c4,c5,c6⟩:=g3
  have hlen:(toVs ρ (v :: new)).length=(v :: new).length:=toVs_length _
  obtain ⟨w',r1,r2,r3⟩:=run_storeCells_own (P:=P) (o:=(ρ a.1).off+a.2) (toVs ρ (v :: new)) 0 c w c1 (by rw [hlen];omega) (fun j h5 h6=>c5 j (by omega) (by rw [hlen] at h6;omega)) (fun x hx=>by
   rw [toVs_eq] at hx
   obtain ⟨y,hy,rfl⟩:=List.mem_map.1 hx
   exact one_toV (h4 y hy))
  have hown:Own P ρ w' a.1 (.cells (putCells (v :: new) a.2 vs) e frz sh):=by
   refine ⟨_,fr,r3,?_,c3,?_,?_,?_⟩
   ·intro i x hx
    rw [putCells_get _ _ _ _ h3] at hx
    rw [List.getElem?_toArray,hlen,Nat.add_zero]
    have ht:(c.toList.take ((ρ a.1).off+a.2)).length=(ρ a.1).off+a.2:=by simp;omega
    by_cases hi:i<a.2
    ·rw [if_neg (by omega)] at hx
     rw [List.getElem?_append_left (by omega),List.getElem?_take,if_pos (by omega),Array.getElem?_toList]
     exact c2 i x hx
    ·rw [List.getElem?_append_right (by omega),ht]
     by_cases hi2:i<a.2+(v :: new).length
     ·rw [if_pos ⟨by omega,hi2⟩] at hx
      have e1:(ρ a.1).off+i - ((ρ a.1).off+a.2)=i - a.2:=by omega
      rw [e1,List.getElem?_append_left (by rw [hlen];omega)]
      exact toVs_get hx
     ·rw [if_neg (by omega)] at hx
      rw [List.getElem?_append_right (by rw [hlen];omega),hlen,List.getElem?_drop,Array.getElem?_toList]
      have e1:(ρ a.1).off+a.2+(v :: new).length+((ρ a.1).off+i - ((ρ a.1).off+a.2) - (v :: new).length)=(ρ a.1).off+i:=by omega
      rw [e1]
      exact c2 i x hx
   ·rw [putCells_length _ _ _ h3]
    simp only [List.size_toArray,List.length_append,List.length_take,List.length_drop,Array.length_toList,hlen]
    omega
   ·rw [putCells_length _ _ _ h3];exact c5
   ·exact c6
  have hdo:(AObj.cells (putCells (v :: new) a.2 vs) e frz sh).inD D:=putCells_inD hd g2
  obtain ⟨m1,m2⟩:=h.change h1 r2 hown hdo
  exact ⟨w',r1,m1,m2,rfl⟩
end
end Go.Ev
namespace Go.Ev
noncomputable def evT (t:Tmp) (fr:Fr):AV:=(fr.tmps.get t).getD undefA
def DefOk (ρ:Ren) (d:Deferred) (p:FuncId×List AV):Prop:=∃ cap,d.target=.fn (.func p.1) cap∧d.args ++ cap=⟨toVs ρ p.2⟩
def DefsOk (ρ:Ren):List Deferred→List (FuncId×List AV)→Prop
 | [],[]=>True
 | d :: ds,p :: ps=>DefOk ρ d p∧DefsOk ρ ds ps
 | _,_=>False
structure FrOk (P:Program) (ρ:Ren) (D:Dom) (X:Tmp→Prop) (fr:Fr) (a:Act):Prop where
 size:a.tmps.size=fr.n
 gl:fr.gl=P.globals.size
 tmps:∀ t,¬ X t→a.tmps.getD t undef=(evT t fr).toV ρ∧(evT t fr).inD D
 defs:DefsOk ρ a.defers fr.defs∧∀ p∈fr.defs,allIn D p.2
structure Post (P:Program) (ρ:Ren) (D:Dom) (K:Mem) (Pr:Nat→Prop) (s:St) (w:World) (v:AV) (s':St) (val:Value) (w':World) (ρ':Ren) (D':Dom):Prop where
 agree:Agree D ρ ρ'
 grow:∀ n,D n→D' n
 fresh:∀ n,D' n→D n∨s.k≤n
 mem:MemOk P ρ' D' K Pr s' w'
 keeps:Keeps Pr w w'
 val:val=v.toV ρ'
 inD:v.inD D'
 le:s.k≤s'.k
def LoudOk (P:Program) (ρ:Ren) (D:Dom) (K:Mem) (Pr:Nat→Prop) (s:St) (w:World) (r:Result Next):Nx→Prop
 | .val v s'=>(∃ val w' ρ' D',(r=.ok (.value val) w'∨(r=.ok .skip w'∧val=undef))∧Post P ρ D K Pr s w v s' val w' ρ' D') ∨
  ∃ f args,r=.ok (.enter f args) w∧Calls P f args w fun e w'=>∃ val ρ' D',e=.returned val∧Post P ρ D K Pr s w v s' val w' ρ' D'
 | .call f args s'=>s'=s∧allIn D args∧∀ fn,P.funcs[f]? = some fn→(fn.name == "runtime.NumGoroutine")=false→fn.body.isNone=false→r=.ok (.enter f ⟨toVs ρ args⟩) w
 | .defer f args s'=>s'=s∧allIn D args∧∃ d,r=.ok (.defer d) w∧DefOk ρ d (f,args)
section
variable {P:Program} {E:Env} {ρ ρ':Ren} {D D':Dom} {K:Mem} {Pr:Nat→Prop} {s s':St} {w w':World} {fr:Fr} {ev:Operand→Value} {nx:Nx}
theorem Post.same (h:MemOk P ρ D K Pr s w) {v:AV} (hd:v.inD D):Post P ρ D K Pr s w v s (v.toV ρ) w ρ D :=
 ⟨Agree.refl D ρ,fun _ h=>h,fun _ h=>.inl h,h,Keeps.refl _ _,rfl,hd,Nat.le_refl _⟩
theorem Post.store (h:MemOk P ρ D K Pr s' w') (hk:Keeps Pr w w') (hs:s'.k=s.k) {v:AV} (hd:v.inD D):Post P ρ D K Pr s w v s' (v.toV ρ) w' ρ D :=
 ⟨Agree.refl D ρ,fun _ h=>h,fun _ h=>.inl h,h,hk,rfl,hd,by rw [hs];exact Nat.le_refl _⟩
theorem lAssign_ok {x:Operand} {o:Oper} (ho:o.op=.assign x) (h:MemOk P ρ D K Pr s w) (hs:Sees ρ D fr ev [x]) (hl:lAssign x E K fr s=some nx):LoudOk P ρ D K Pr s w ((execOp ev o).run P w) nx:=by
 obtain ⟨v,hv,rfl⟩:=omap_some hl
 obtain ⟨h1,h2⟩:=hs x (by simp) _ hv
 refine .inl ⟨ev x,w,ρ,D,.inl ?_,?_⟩
 ·simp [execOp,ho]
 ·rw [h1];exact Post.same h h2
theorem cells_len (v:AV):(v.toV ρ).cells.size=v.cells.length:=by rw [cells_toV];simp [toVs_length]
theorem lStore_ok (hE:TysOk P E) {t:TypeId} {x y:Operand} {o:Oper} (ho:o.op=.store t x y) (h:MemOk P ρ D K Pr s w) (hs:Sees ρ D fr ev [x,y]) (hl:lStore t x y E K fr s=some nx) :
 LoudOk P ρ D K Pr s w ((execOp ev o).run P w) nx:=by
 obtain ⟨v,hv,hl⟩:=obind_some hl
 obtain ⟨a,ha,hl⟩:=obind_some hl
 obtain ⟨u,hu,ha⟩:=obind_some ha
 obtain ⟨z,hz,hl⟩:=obind_some hl
 obtain ⟨hc,hl⟩:=grd_some hl
 obtain ⟨s',hs',rfl⟩:=omap_some hl
 have ha:=asPtr_some ha
 subst ha
 obtain ⟨h1,h2⟩:=hs x (by simp) _ hu
 obtain ⟨h3,h4⟩:=hs y (by simp) _ hv
 obtain ⟨j,hj,rfl⟩:=sizeT_some hz
 rw [nbeq_eq,llen_eq] at hc
 have hc:v.cells.length=j.size:=of_decide_eq_true hc
 obtain ⟨w',r1,r2,r3,r4⟩:=storeAt_ok h (cells_inD h4) hs'
 refine .inl ⟨undef,w',ρ,D,.inr ⟨?_,rfl⟩,?_⟩
 ·have hcs:(v.toV ρ).cells.toList=toVs ρ v.cells:=by rw [cells_toV]
  simp [execOp,ho,h1,h3,Instr.storeAt,AV.toV,Instr.sureAddr,storeVar,run_sizeOf (hE.ty _ _ hj),cells_len,hc,hcs,r1]
 ·exact Post.store (v:=undefA) r2 r3 r4 trivial
theorem run_setObj' {r:Nat} {o o':Obj} (hb:w.heap[r]? = some o) (hn:∀ c e f,o≠.cells c e f):(Go.setObj r o').run P w=.ok () { w with heap:=w.heap.setIfInBounds r o' }:=by
 cases o <;> first | exact absurd rfl (hn _ _ _) | simp [Go.setObj,Sem.run,hb]
theorem changed_set {r:Nat} {o:Obj} (hlt:r<w.heap.size):Changed r w { w with heap:=w.heap.setIfInBounds r o }∧({ w with heap:=w.heap.setIfInBounds r o }:World).heap[r]? = some o :=
 ⟨⟨by simp,fun c hc=>by simp [Ne.symm hc],rfl,rfl,rfl⟩,by simp [hlt]⟩
theorem sameFlat_ok {x y:AV} (h:sameFlat x y=true) (n:Nat):Instr.sameBits n (x.toV ρ) (y.toV ρ)=true:=by
 cases x with
 | bool a =>
  have h:oelim y.asBool false (beqB a)=true:=h
  cases hy:y.asBool with
  | none=>rw [hy] at h;cases h
  | some b =>
   rw [hy] at h
   have h:beqB a b=true:=h
   have hy:=asBool_some hy
   rw [beqB_eq] at h
   have hF:=h
   clear h
   subst hy
   cases n <;> (simp only [AV.toV,Instr.sameBits];simpa using hF)
 | int k a =>
  have h:oelim y.asInt false (fun p=>band (kindEq k p.1) (ieq a p.2))=true:=h
  cases hy:y.asInt with
  | none=>rw [hy] at h;cases h
  | some p =>
   rw [hy] at h
   have h:band (kindEq k p.1) (ieq a p.2)=true:=h
   have hy:=asInt_some hy
   rw [band_eq,kindEq_eq,ieq_eq] at h
   have hF:=h
   clear h
   subst hy
   cases n <;> (simp only [AV.toV,Instr.sameBits];simpa using hF)
 | str a =>
  have h:oelim y.asStr false (eqBytes a)=true:=h
  cases hy:y.asStr with
  | none=>rw [hy] at h;cases h
  | some b =>
   rw [hy] at h
   have h:eqBytes a b=true:=h
   have hy:=asStr_some hy
   rw [eqBytes_eq] at h
   have:a=b:=by simpa using h
   subst hy
   subst this
   cases n <;> simp [AV.toV,Instr.sameBits,beq_toListBytes]
 | _=>cases h
theorem sameCells_ok {n:Nat}:∀ {x y:List AV},sameCells x y=true→x.length=y.length∧((toVs ρ x).zip (toVs ρ y)).all (fun (p:Value×Value)=>Instr.sameBits n p.1 p.2)=true:=by
 intro x
 induction x with
 | nil =>
  intro y h
  cases y with
  | nil=>exact ⟨rfl,rfl⟩
  | cons b y=>cases h
 | cons a x ih =>
  intro y h
  cases y with
  | nil=>cases h
  | cons b y =>
   have h:band (sameFlat a b) (sameCells x y)=true:=h
   rw [band_eq,Bool.and_eq_true] at h
   obtain ⟨h1,h2⟩:=ih h.2
   refine ⟨by simp [h1],?_⟩
   simp only [toVs,List.zip_cons_cons,List.all_cons,Bool.and_eq_true]
   exact ⟨sameFlat_ok h.1 n,h2⟩
theorem sameBits_ok {x y:AV} (h:sameBits x y=true):Instr.sameBits 10000 (x.toV ρ) (y.toV ρ)=true:=by
 unfold sameBits at h
 cases hx:x.asAgg with
 | none=>rw [hx] at h;exact sameFlat_ok h _
 | some xs =>
  rw [hx] at h
  have h:oelim y.asAgg false (sameCells xs)=true:=h
  cases hy:y.asAgg with
  | none=>rw [hy] at h;cases h
  | some ys =>
   rw [hy] at h
   have h:sameCells xs ys=true:=h
   have hx:=asAgg_some hx
   have hy:=asAgg_some hy
   obtain ⟨h1,h2⟩:=sameCells_ok (ρ:=ρ) (n:=9999) h
   subst hx hy
   simp only [AV.toV,Instr.sameBits,Bool.and_eq_true]
   refine ⟨by simp [toVs_length,h1],h2⟩
theorem setEntry_eq (es:List Ent) (x:Ent) (q:Nat) (h:q<es.length):setEntry es x q=es.set q x:=by
 unfold setEntry
 rw [lapp_eq,ltake_eq,ldrop_eq,List.set_eq_take_append_cons_drop,if_pos h]
theorem modify_toArray {α:Type} (l:List α) (i:Nat) (f:α→α) (x:α) (h:l[i]? = some x):(l.toArray).modify i f=(l.set i (f x)).toArray:=by
 apply Array.ext'
 apply List.ext_getElem?
 intro j
 rw [Array.getElem?_toList,Array.getElem?_modify]
 simp only [List.getElem?_toArray,List.getElem?_set]
 by_cases e:i=j
 ·subst e
  have:=(List.getElem?_eq_some_iff.1 h).1
  have h2:=(List.getElem?_eq_some_iff.1 h).2
  simp [h2,this]
 ·simp [e]
theorem lMapUpdate_ok (hE:TysOk P E) {t:TypeId} {m k x:Operand} {o:Oper} (ho:o.op=.mapUpdate t m k x∨o.op=.insert t m k x) (h:MemOk P ρ D K Pr s w) (hs:Sees ρ D fr ev [m,k,x]) (hl:lMapUpdate t m k x E K fr s=some nx) :
 LoudOk P ρ D K Pr s w ((execOp ev o).run P w) nx:=by
 obtain ⟨p,hp,hl⟩:=obind_some hl
 obtain ⟨u,hu,hp⟩:=obind_some hp
 obtain ⟨hk,hl⟩:=grd_some hl
 obtain ⟨r,hr,hl⟩:=obind_some hl
 obtain ⟨r',hr',hr⟩:=obind_some hr
 obtain ⟨mv,hmv,hr'⟩:=obind_some hr'
 obtain ⟨key,hkey,hl⟩:=obind_some hl
 obtain ⟨hf,hl⟩:=grd_some hl
 obtain ⟨v,hv,hl⟩:=obind_some hl
 obtain ⟨q,hq,hl⟩:=obind_some hl
 obtain ⟨ob,hob,hq⟩:=obind_some hq
 obtain ⟨f,hfa,hl⟩:=obind_some hl
 have hr:r'=some r:=hr
 have hr':=asMap_some hr'
 subst hr'
 subst hr
 obtain ⟨i,hi,hiu⟩:=ukT_some hu
 subst hiu
 have hT:=uk_map (hE.ty _ _ hi) hp
 obtain ⟨h1,h2⟩:=hs m (by simp) _ hmv
 obtain ⟨h3,h4⟩:=hs k (by simp) _ hkey
 obtain ⟨h5,h6⟩:=hs x (by simp) _ hv
 cases ob with
 | map es clock =>
  have hq:(es,clock)=q:=Option.some.inj hq
  subst hq
  obtain ⟨g1,g2,g3,g4⟩:=h.own _ _ hob
  have hlt:=g3.lt
  obtain ⟨d,hdesc⟩:=keyOk_desc hE hk
  have hck:=checkKey_ok (P:=P) (ρ:=ρ) hE 20 p.1 key hk hf false 10000 (by omega) w
  have hfk:=findKey_ok (P:=P) (ρ:=ρ) (w:=w) hE hdesc hfa
  have hgo:=run_getObj_map' (P:=P) g3
  have hso:∀ o',(Go.setObj (ρ r).blk o').run P w=.ok () { w with heap:=w.heap.setIfInBounds (ρ r).blk o' }:=fun o'=>run_setObj' (o:=.map ⟨es.map (entV ρ)⟩ clock) g3 (by intro _ _ _ e;cases e)
  have hexec:(execOp ev o).run P w=((Instr.mapUpdate t (AV.toV ρ (.map (some r))) (key.toV ρ) (v.toV ρ)).run P w).andThen fun _ w'=>.ok .skip w':=by
   rcases ho with e | e <;> simp only [execOp,e,h1,h3,h5,Sem.run_bind,Sem.run_pure]
  rw [hexec]
  cases f with
  | none =>
   have hl:some (undefNx (setObj s r (.map (lapp es [(key,v,clock)]) (clock+1))))=some nx:=hl
   obtain rfl:=Option.some.inj hl
   obtain ⟨c1,c2⟩:=changed_set (w:=w) (o:=.map ((⟨es.map (entV ρ)⟩:Array MapEntry).push { key:=key.toV ρ,val:=v.toV ρ,born:=clock }) (clock+1)) hlt
   obtain ⟨m1,m2⟩:=h.change (ob:=.map (lapp es [(key,v,clock)]) (clock+1)) hob c1 (by
    show _=some (Obj.map _ _)
    rw [c2,lapp_eq]
    simp [entV]) (by
    rw [lapp_eq]
    intro e he
    rcases List.mem_append.1 he with he | he
    ·exact g2 e he
    ·obtain rfl:e=(key,v,clock):=by simpa using he
     exact ⟨h4,h6⟩)
   refine .inl ⟨undef,_,ρ,D,.inr ⟨?_,rfl⟩,Post.store (s:=s) (v:=undefA) m1 m2 rfl trivial⟩
   simp [Instr.mapUpdate,AV.toV,blkOf,run_underlying hT,hgo,hck,hfk,foundV,hso]
  | some q =>
   have hl:obind (lget es q.1) (fun e=>grd (sameBits e.1 key) (some (undefNx (setObj s r (.map (setEntry es (key,v,e.2.2) q.1) clock)))))=some nx:=hl
   obtain ⟨e,he,hl⟩:=obind_some hl
   obtain ⟨hsb,hl⟩:=grd_some hl
   obtain rfl:=Option.some.inj hl
   rw [lget_eq] at he
   have hql:=(List.getElem?_eq_some_iff.1 he).1
   have hme:(es.map (entV ρ))[q.1]? = some (entV ρ e):=by rw [List.getElem?_map,he];rfl
   have hsb':=sameBits_ok (ρ:=ρ) hsb
   obtain ⟨c1,c2⟩:=changed_set (w:=w) (o:=.map ((⟨es.map (entV ρ)⟩:Array MapEntry).modify q.1 fun e=>{ e with key:=key.toV ρ,val:=v.toV ρ }) clock) hlt
   obtain ⟨m1,m2⟩:=h.change (ob:=.map (setEntry es (key,v,e.2.2) q.1) clock) hob c1 (by
    show _=some (Obj.map _ _)
    rw [c2,setEntry_eq _ _ _ hql,modify_toArray _ _ _ _ hme,List.map_set]
    rfl) (by
    rw [setEntry_eq _ _ _ hql]
    intro e' he'
    rcases List.mem_or_eq_of_mem_set he' with he' | rfl
    ·exact g2 e' he'
    ·exact ⟨h4,h6⟩)
   refine .inl ⟨undef,_,ρ,D,.inr ⟨?_,rfl⟩,Post.store (s:=s) (v:=undefA) m1 m2 rfl trivial⟩
   simp [Instr.mapUpdate,AV.toV,blkOf,run_underlying hT,hgo,hck,hfk,foundV,hso,Instr.keyThatStays,he,entV,hsb']
 | _=>cases hq
end
end Go.Ev
namespace Go.Ev
section
variable {P:Program} {E:Env} {ρ ρ':Ren} {D D':Dom} {K:Mem} {Pr:Nat→Prop} {s s':St} {w w':World} {fr:Fr} {ev:Operand→Value} {nx:Nx}
theorem lNext_ok {it:Operand} {b:Bool} {o:Oper} (ho:o.op=.next it b) (h:MemOk P ρ D K Pr s w) (hs:Sees ρ D fr ev [it]) (hl:lNext it b E K fr s=some nx):LoudOk P ρ D K Pr s w ((execOp ev o).run P w) nx:=by
 obtain ⟨hb,hl⟩:=grd_some hl
 subst hb
 obtain ⟨a,ha,hl⟩:=obind_some hl
 obtain ⟨u,hu,ha⟩:=obind_some ha
 obtain ⟨h0,hl⟩:=grd_some hl
 obtain ⟨ob,hob,hl⟩:=obind_some hl
 have ha:=asPtr_some ha
 subst ha
 rw [nbeq_eq] at h0
 have h0:a.2=0:=of_decide_eq_true h0
 obtain ⟨h1,h2⟩:=hs it (by simp) _ hu
 cases ob with
 | siter b pos =>
  obtain ⟨g1,g2,g3,g4⟩:=h.own _ _ hob
  obtain ⟨g5,g6⟩:=g3
  have hlt:(ρ a.1).blk<w.heap.size:=(Array.getElem?_eq_some_iff.1 g5).1
  have hgo:(getObj (ρ a.1).blk).run P w=.ok (.stringIter ⟨⟨b⟩⟩ pos) w:=by simp [getObj,Sem.run,g5]
  have hv:ev it=.pointer (some ⟨(ρ a.1).blk,0,none⟩):=by rw [h1];simp [AV.toV,adr,g6,h0]
  have hsz:(ByteArray.mk ⟨b⟩).size=b.length:=rfl
  have hl:sw (nlt pos (llen b)) (some (.val (.tuple [.bool true,lenInt pos,.int .i32 (.ofNat (Utf8.decode ⟨⟨b⟩⟩ pos).1)]) (setObj s a.1 (.siter b (Nat.add pos (Utf8.decode ⟨⟨b⟩⟩ pos).2))))) (some (Nx.val (.tuple [.bool false]) s))=some nx:=hl
  rw [sw_eq,nlt_eq,llen_eq] at hl
  by_cases hp:pos<b.length
  ·simp only [hp,decide_true,if_true] at hl
   obtain rfl:=Option.some.inj hl
   have hso:∀ o',(Go.setObj (ρ a.1).blk o').run P w=.ok () { w with heap:=w.heap.setIfInBounds (ρ a.1).blk o' }:=fun o'=>run_setObj' g5 (by intro _ _ _ e;cases e)
   obtain ⟨c1,c2⟩:=changed_set (w:=w) (r:=(ρ a.1).blk) (o:=.stringIter ⟨⟨b⟩⟩ (pos+(Utf8.decode ⟨⟨b⟩⟩ pos).2)) hlt
   obtain ⟨m1,m2⟩:=h.change (ob:=.siter b (Nat.add pos (Utf8.decode ⟨⟨b⟩⟩ pos).2)) hob c1 ⟨c2,g6⟩ trivial
   refine .inl ⟨_,_,ρ,D,.inl ?_,Post.store (s:=s) (v:=.tuple [.bool true,lenInt pos,.int .i32 (.ofNat (Utf8.decode ⟨⟨b⟩⟩ pos).1)]) m1 m2 rfl ⟨trivial,trivial,trivial,trivial⟩⟩
   simp [execOp,ho,hv,Instr.next,hgo,hsz,hp,hso,AV.toV,toVs,lenInt,goInt]
  ·simp only [hp,decide_false,Bool.false_eq_true,if_false] at hl
   obtain rfl:=Option.some.inj hl
   refine .inl ⟨_,w,ρ,D,.inl ?_,Post.same h (v:=.tuple [.bool false]) ⟨trivial,trivial⟩⟩
   simp [execOp,ho,hv,Instr.next,hgo,hsz,AV.toV,toVs]
   intro hx
   exact absurd hx hp
 | _=>cases hl
theorem lenOf_ok {v:AV} {n:Nat} (h:lenOf v=some n) (w:World):(Builtin.lenOf (v.toV ρ)).run P w=.ok n w:=by
 cases v with
 | str b =>
  have h:some (llen b)=some n:=h
  rw [llen_eq] at h
  obtain rfl:=Option.some.inj h
  rfl
 | slice a m c o=>obtain rfl:m=n:=Option.some.inj h;rfl
 | sliceE m a b o=>obtain rfl:0=n:=Option.some.inj h;rfl
 | _=>cases h
theorem lmap_byteV (b:List UInt8):lmap byteV b=b.map byteV:=lmap_eq _ _
theorem firstCells_ok (h:MemOk P ρ D K Pr s w) {z n:Nat} {v:AV} {cs:List AV} (hd:v.inD D) (hc:firstCells K s z n v=some cs):(Builtin.firstCells z n (v.toV ρ)).run P w=.ok ⟨toVs ρ cs⟩ w∧allIn D cs:=by
 cases v with
 | str b =>
  obtain rfl:lmap byteV (ltake n b)=cs:=Option.some.inj hc
  rw [lmap_byteV,ltake_eq]
  refine ⟨?_,allIn_bytes _⟩
  have:((ByteArray.mk ⟨b⟩).extract 0 n).data.map (fun c=>Value.int .u8 c.toNat)=⟨toVs ρ ((b.take n).map byteV)⟩:=by
   rw [extract_bytes]
   apply Array.ext'
   simp [toVs_eq,List.map_map]
   rfl
  show Result.ok _ w=_
  rw [this]
 | slice a m c o =>
  have hc:oelim a (some []) (cellsOn K s (Nat.mul n z))=some cs:=hc
  cases a with
  | none =>
   obtain rfl:[]=cs:=Option.some.inj hc
   exact ⟨rfl,trivial⟩
  | some a =>
   have hc:cellsOn K s (Nat.mul n z) a=some cs:=hc
   unfold cellsOn at hc
   rw [sw_eq,nbeq_eq] at hc
   have hm:Nat.mul n z=n * z:=rfl
   rw [hm] at hc
   by_cases h0:n * z=0
   ·simp only [h0,decide_true,if_true] at hc
    obtain rfl:=Option.some.inj hc
    refine ⟨?_,trivial⟩
    simp only [AV.toV,Option.map_some,Builtin.firstCells,h0]
    rfl
   ·simp only [h0,decide_false,Bool.false_eq_true,if_false] at hc
    obtain ⟨ob,hob,hc⟩:=obind_some hc
    obtain ⟨vs,e,frz,sh,rfl,hc⟩:=cellsFrom_some hc
    obtain ⟨g1,g2,g3⟩:=h.look hob
    refine ⟨?_,(takeCells_ok (ρ:=ρ) (D:=D) hc).2.2.2 g2⟩
    simp only [AV.toV,Option.map_some,Builtin.firstCells]
    exact rd_loadCells g3 hc
 | sliceE m o0 o1 o =>
  obtain ⟨h0,hc⟩:=grd_some (show grd (Nat.beq (Nat.mul n z) 0) (some [])=some cs from hc)
  obtain rfl:=Option.some.inj hc
  rw [nbeq_eq] at h0
  have h0:n * z=0:=of_decide_eq_true h0
  refine ⟨?_,trivial⟩
  simp only [AV.toV,Builtin.firstCells,h0]
  rfl
 | _=>cases hc
theorem firstCells_zero {z n:Nat} {v:AV} (h:lenOf v=some n) (w:World):(Builtin.firstCells z 0 (v.toV ρ)).run P w=.ok #[] w:=by
 cases v with
 | str b =>
  have:(ByteArray.mk ⟨b⟩).extract 0 0=ByteArray.empty:=by rw [extract_bytes];simp;rfl
  have h2:ByteArray.empty.data=#[]:=rfl
  simp only [AV.toV,Builtin.firstCells,this,Sem.run_pure,h2,List.map_toArray,List.map_nil]
 | slice a m c o=>cases a <;> simp [AV.toV,Builtin.firstCells,loadCells,loadCellsFrom]
 | sliceE m a b o=>simp [AV.toV,Builtin.firstCells,loadCells,loadCellsFrom]
 | _=>cases h
theorem elemT_ok (hE:TysOk P E) {ts:Array TypeId} {e:TypeId} (h:elemT E ts.toList=some e):∃ t,ts[0]? = some t∧P.underlying t=some (.slice e):=by
 obtain ⟨u,hu,h⟩:=obind_some h
 obtain ⟨t,ht,hu⟩:=obind_some hu
 obtain ⟨i,hi,rfl⟩:=ukT_some hu
 rw [lget_eq] at ht
 exact ⟨t,by simpa using ht,uk_slice (hE.ty _ _ hi) h⟩
theorem bCopy_ok (hE:TysOk P E) {ts:Array TypeId} {ty:TypeId} {args:Array Operand} {vs:List AV} (ha:args.toList.map ev=toVs ρ vs) (hd:allIn D vs) (h:MemOk P ρ D K Pr s w) (hl:bCopy ts.toList vs E K s=some nx) :
 ∃ v s' val w' ρ' D',nx=.val v s'∧(Builtin.copy_ ts ty (args.map ev)).run P w=.ok val w'∧Post P ρ D K Pr s w v s' val w' ρ' D':=by
 obtain ⟨z,hz,hl⟩:=obind_some hl
 obtain ⟨e,he,hz⟩:=obind_some hz
 obtain ⟨x,hx,hl⟩:=obind_some hl
 obtain ⟨sl,hsl,hl⟩:=obind_some hl
 obtain ⟨d,hd0,hl⟩:=obind_some hl
 obtain ⟨t,ht,hT⟩:=elemT_ok hE he
 obtain ⟨j,hj,rfl⟩:=sizeT_some hz
 rw [lget_eq] at hx hd0
 have hg0:=args_get ha hd0
 have hg1:=args_get ha hx
 have hdx:=allIn_get hd hx
 have hlen:=lenOf_ok (P:=P) (ρ:=ρ) hsl
 have hsz:=fun w=>run_sizeOf (P:=P) (hE.ty _ _ hj) w
 cases d with
 | slice base dl c o =>
  obtain ⟨cs,hcs,hl⟩:=obind_some (show obind (firstCells K s j.size (min sl dl) x) (fun cs=>oelim base (some (.val (lenInt (min sl dl)) s)) fun a=>omap (fun s=>.val (lenInt (min sl dl)) s) (storeAt a cs s))=some nx from hl)
  obtain ⟨f1,f2⟩:=firstCells_ok h hdx hcs
  have hmin:Nat.min sl dl=min sl dl:=rfl
  cases base with
  | none =>
   obtain rfl:=Option.some.inj hl
   refine ⟨_,_,_,w,ρ,D,rfl,?_,Post.same h (v:=lenInt (min sl dl)) trivial⟩
   simp [Builtin.copy_,ht,hg0,hg1,AV.toV,run_underlying hT,hlen,hsz,f1,lenInt,goInt,hmin]
  | some a =>
   obtain ⟨s',hs',rfl⟩:=omap_some (show omap (fun s=>Nx.val (lenInt (min sl dl)) s) (storeAt a cs s)=some nx from hl)
   obtain ⟨w',r1,r2,r3,r4⟩:=storeAt_ok h f2 hs'
   refine ⟨_,_,_,w',ρ,D,rfl,?_,Post.store (s:=s) (v:=lenInt (min sl dl)) r2 r3 r4 trivial⟩
   simp [Builtin.copy_,ht,hg0,hg1,AV.toV,run_underlying hT,hlen,hsz,f1,r1,lenInt,goInt,hmin]
 | sliceE m o0 o1 o =>
  obtain rfl:Nx.val (lenInt 0) s=nx:=Option.some.inj hl
  refine ⟨_,_,_,w,ρ,D,rfl,?_,Post.same h (v:=lenInt 0) trivial⟩
  have hf:=firstCells_zero (P:=P) (ρ:=ρ) (z:=j.size) hsl
  simp [Builtin.copy_,ht,hg0,hg1,AV.toV,run_underlying hT,hlen,hsz,hf,storeCells,lenInt,goInt]
 | _=>cases hl
end
end Go.Ev
namespace Go.Ev
section
variable {P:Program} {E:Env} {ρ ρ':Ren} {D D':Dom} {K:Mem} {Pr:Nat→Prop} {s s':St} {w w':World} {fr:Fr} {ev:Operand→Value} {nx:Nx}
structure Same (w w':World):Prop where
 heap:w'.heap=w.heap
 os:w'.os=w.os
 output:w'.output=w.output
 tape:w'.tape=w.tape
theorem Own.same {n:Nat} {o:AObj} (h:Own P ρ w n o) (hw:Same w w'):Own P ρ w' n o:=by
 cases o <;> (simp only [Own] at h ⊢;rw [hw.heap];exact h)
theorem Rd.same {n:Nat} {o:AObj} (h:Rd P ρ w n o) (hw:Same w w'):Rd P ρ w' n o:=by
 cases o <;> (simp only [Rd] at h ⊢;rw [hw.heap];exact h)
theorem MemOk.same (h:MemOk P ρ D K Pr s w) (hw:Same w w'):MemOk P ρ D K Pr s w' :=
 ⟨h.dom,fun n o hn=>let ⟨a,b,c,d⟩:=h.own n o hn;⟨a,b,c.same hw,d⟩,h.inj,fun n o hn=>let ⟨a,b,c,d⟩:=h.rd n o hn;⟨a,b,c.same hw,d⟩,by rw [hw.heap];exact h.prlt,h.gl⟩
theorem get_moved (s:St) (a:Nat) (ob:AObj) (n:Nat):(Tr.set (s.H.erase a) s.k ob).get n=if n=s.k then some ob else if n=a then none else s.H.get n:=by
 rw [Tr.get_set,Tr.get_erase]
theorem MemOk.moveTo (h:MemOk P ρ D K Pr s w) {a:Nat} {o ob:AObj} {l:Loc} (ha:s.H.get a=some o) (hl:l.blk=(ρ a).blk) (hw:Changed (ρ a).blk w w') (ho:Own P (upd ρ s.k l) w' s.k ob) (hd:ob.inD D) :
 MemOk P (upd ρ s.k l) (addD D s.k) K Pr ⟨(s.H.erase a).set s.k ob,s.k+1⟩ w'∧Agree D ρ (upd ρ s.k l)∧Keeps Pr w w':=by
 obtain ⟨g1,g2,g3,g4⟩:=h.own a o ha
 have hk:¬ D s.k:=fun e=>Nat.lt_irrefl _ (h.dom _ e)
 have hag:Agree D ρ (upd ρ s.k l):=upd_agree hk
 have hmono:∀ n,D n→addD D s.k n:=fun n hn=>.inl hn
 have hold:∀ n o',s.H.get n=some o'→n≠a→n≠s.k∧Own P (upd ρ s.k l) w' n o'∧(upd ρ s.k l) n=ρ n∧(ρ n).blk≠(ρ a).blk:=by
  intro n o' hn hne
  obtain ⟨h1,h2,h3,_⟩:=h.own n o' hn
  have hb:=h.inj n a o' o hn ha hne
  exact ⟨fun e=>hk (e ▸ h1),h3.move h2 (hag n h1) hag (hw.old _ hb),hag n h1,hb⟩
 have hget:∀ n o',(Tr.set (s.H.erase a) s.k ob).get n=some o'→(n=s.k∧o'=ob)∨(n≠s.k∧n≠a∧s.H.get n=some o'):=by
  intro n o' hn
  rw [get_moved] at hn
  by_cases e:n=s.k
  ·rw [if_pos e] at hn;exact .inl ⟨e,(Option.some.inj hn).symm⟩
  ·rw [if_neg e] at hn
   by_cases e2:n=a
   ·rw [if_pos e2] at hn;cases hn
   ·rw [if_neg e2] at hn;exact .inr ⟨e,e2,hn⟩
 refine ⟨⟨?_,?_,?_,?_,?_,?_⟩,hag,⟨by rw [hw.size];exact Nat.le_refl _,fun b hb=>hw.old b (fun e=>g4 (e ▸ hb)),hw.os,hw.output,hw.tape⟩⟩
 ·intro n hn
  show n<s.k+1
  rcases hn with hn | hn
  ·have:=h.dom n hn;omega
  ·omega
 ·intro n o' hn
  rcases hget n o' hn with ⟨rfl,rfl⟩ | ⟨h1,h2,h3⟩
  ·exact ⟨.inr rfl,AObj.inD_mono hd hmono,ho,by rw [upd_same,hl];exact g4⟩
  ·obtain ⟨q1,q2,_,q4⟩:=h.own n o' h3
   obtain ⟨_,q5,q6,_⟩:=hold n o' h3 h2
   exact ⟨.inl q1,AObj.inD_mono q2 hmono,q5,by rw [q6];exact q4⟩
 ·intro n m o1 o2 hn hm hne
  rcases hget n o1 hn with ⟨rfl,rfl⟩ | ⟨h1,h2,h3⟩
  ·rcases hget m o2 hm with ⟨rfl,rfl⟩ | ⟨h4,h5,h6⟩
   ·exact absurd rfl hne
   ·obtain ⟨_,_,q6,q7⟩:=hold m o2 h6 h5
    rw [upd_same,hl,q6]
    exact Ne.symm q7
  ·obtain ⟨_,_,q6,q7⟩:=hold n o1 h3 h2
   rcases hget m o2 hm with ⟨rfl,rfl⟩ | ⟨h4,h5,h6⟩
   ·rw [upd_same,hl,q6];exact q7
   ·obtain ⟨_,_,q8,_⟩:=hold m o2 h6 h5
    rw [q6,q8]
    exact h.inj n m o1 o2 h3 h6 hne
 ·intro n o' hn
  obtain ⟨h1,h2,h3,h4⟩:=h.rd n o' hn
  exact ⟨.inl h1,AObj.inD_mono h2 hmono,h3.move h2 (hag n h1) hag (hw.old _ (fun e=>g4 (e ▸ h4))),by rw [hag n h1];exact h4⟩
 ·intro b hb
  rw [hw.size]
  exact h.prlt b hb
 ·intro g hg
  obtain ⟨h1,h2⟩:=h.gl g hg
  exact ⟨.inl h1,by rw [hag g h1];exact h2⟩
theorem MemOk.drop (h:MemOk P ρ D K Pr s w) (a:Nat):MemOk P ρ D K Pr ⟨s.H.erase a,s.k⟩ w:=by
 have hget:∀ n o',(s.H.erase a).get n=some o'→s.H.get n=some o':=by
  intro n o' hn
  rw [Tr.get_erase] at hn
  split at hn
  ·cases hn
  ·exact hn
 exact ⟨h.dom,fun n o hn=>h.own n o (hget n o hn),fun n m o o' hn hm hne=>h.inj n m o o' (hget n o hn) (hget m o' hm) hne,h.rd,h.prlt,h.gl⟩
theorem own_grown {e:TypeId} {j:TI} (hT:TyOk P e j) {all:List AV} {need newCap:Nat} {zs:Array Value} (hd:allIn D all) (hk:¬ D s.k) (hz:zs.size=(newCap - need) * j.size) (frz:Nat) (sh:Bool) :
 Own P (upd ρ s.k ⟨w.heap.size,0,newCap - need⟩) (w.drew.alloc (.cells (⟨toVs ρ all⟩ ++ zs) e)) s.k (.cells all e frz sh):=by
 have hag:Agree D ρ (upd ρ s.k ⟨w.heap.size,0,newCap - need⟩):=upd_agree hk
 refine ⟨_,(0,0),by rw [upd_same];exact heap_new_mark w _,?_,by rw [upd_same];exact Nat.zero_mod _,?_,?_,?_⟩
 ·intro i v hv
  rw [upd_same,toV_ext hag v (allIn_get hd hv)]
  have h1:=toVs_get (ρ:=ρ) hv
  have hl:=(List.getElem?_eq_some_iff.1 h1).1
  rw [Nat.zero_add,Array.getElem?_append_left (by simpa using hl)]
  simpa using h1
 ·rw [upd_same,cellsOf_size hT]
  simp [toVs_length,hz]
 ·intro i _ _ h;simp at h
 ·intro _;exact .inl rfl
theorem openOn_toV (ρ:Ren) (k need blk off tail:Nat):(openOn need k).toV (upd ρ k ⟨blk,off,tail⟩)=.slice (some ⟨blk,off,none⟩) need (need+tail):=by
 simp [openOn,AV.toV,adr,roomOf,upd_same]
end
end Go.Ev
namespace Go.Ev
section
variable {P:Program} {E:Env} {ρ ρ':Ren} {D D':Dom} {K:Mem} {Pr:Nat→Prop} {s s':St} {w w':World} {fr:Fr} {ev:Operand→Value} {nx:Nx}
theorem same_drew (w:World):Same w w.drew:=⟨rfl,rfl,rfl,rfl⟩
structure AppArg (P:Program) (ρ:Ren) (D:Dom) (ts:Array TypeId) (e:TypeId) (j:TI) (z:Bool) (x:AV) (n:Nat) (new:List AV) (w:World):Prop where
 zeros:(ts[1]? = none∧z=false)∨∃ t,ts[1]? = some t∧((z=true∧∃ k,P.underlying t=some (.int k))∨(z=false∧(P.underlying t=some .string∨∃ e,P.underlying t=some (.slice e))))
 count:if z then ∃ k,x=.int k n∧n≤1073741824∧n * j.bytes≤1099511627776 else ∀ w:World,(Builtin.lenOf (x.toV ρ)).run P w=.ok n w
 cells:if z then (n * j.size=0∧new=[])∨(n * j.size≠0∧∃ v:AV,(∀ w:World,(zeroValue e).run P w=.ok (v.toV ρ) w)∧Builtin.zeroCells (v.toV ρ).cells n=⟨toVs ρ new⟩)
  else (Builtin.firstCells j.size n (x.toV ρ)).run P w=.ok ⟨toVs ρ new⟩ w∧(Builtin.firstCells j.size n (x.toV ρ)).run P w.drew=.ok ⟨toVs ρ new⟩ w.drew
 inD:allIn D new
 len:new.length=n * j.size
set_option maxHeartbeats 4000000 in
theorem run_append_in {ts:Array TypeId} {ty t e:TypeId} {j:TI} {args:Array Value} {z:Bool} {x:AV} {n sLen sCap:Nat} {new:List AV} {base:Option Addr} (hJ:TyOk P e j)
 (ht:ts[0]? = some t) (hT:P.underlying t=some (.slice e)) (h0:args[0]? = some (.slice base sLen sCap)) (h1:args[1]? = some (x.toV ρ)) (ha:AppArg P ρ D ts e j z x n new w) (hin:sLen+n≤sCap)
 (hst:∀ a,base=some a→(storeCells (a.add (sLen * j.size)) (toVs ρ new)).run P w=.ok () w') (hw:base=none→w'=w) :
 (Builtin.append_ ts ty args).run P w=.ok (.slice base (sLen+n) sCap) w':=by
 have hsz:=fun w=>run_sizeOf (P:=P) hJ w
 obtain ⟨hz,hc,hn,_,_⟩:=ha
 obtain ⟨i,hi1,hi2,hi3,_⟩:=info_of hJ
 rcases hz with ⟨hz,rfl⟩ | ⟨t1,hz,⟨rfl,k0,hd⟩ | ⟨rfl,hd | ⟨e',hd⟩⟩⟩
 ·simp only [Bool.false_eq_true,if_false] at hc hn
  cases base with
  | none=>obtain rfl:=hw rfl;simp [Builtin.append_,ht,h0,h1,hz,run_underlying hT,hsz,hc,hn.1,hin]
  | some a=>simp [Builtin.append_,ht,h0,h1,hz,run_underlying hT,hsz,hc,hn.1,hin,hst a rfl]
 ·simp only [if_true] at hc hn
  obtain ⟨k,rfl,hb1,hb2⟩:=hc
  obtain ⟨hw1,hw2⟩:=makeSlice_sizes (b:=j.bytes) hb1 (by rw [Nat.mul_comm];exact hb2)
  have hneg:¬ ((n:Int)<0):=by omega
  have hbig:¬ (281474976710656<(n:Int) * (j.bytes:Int)):=by
   rw [Int.mul_comm]
   have:¬ ((j.bytes:Int) * (n:Int) > 2 ^ 48):=hw2
   omega
  rcases hn with ⟨hz0,rfl⟩ | ⟨hz0,v,hv1,hv2⟩
  ·cases base with
   | none=>obtain rfl:=hw rfl;simp [Builtin.append_,ht,h0,h1,hz,run_underlying hT,run_underlying hd,hsz,hin,AV.toV,asInt,asIntOf,typeInfo,hi1,hi3,hw1,hneg,hbig,hz0]
   | some a =>
    have:=hst a rfl
    simp [toVs] at this
    simp [Builtin.append_,ht,h0,h1,hz,run_underlying hT,run_underlying hd,hsz,hin,AV.toV,asInt,asIntOf,typeInfo,hi1,hi3,hw1,hneg,hbig,hz0,this]
  ·cases base with
   | none=>obtain rfl:=hw rfl;simp [Builtin.append_,ht,h0,h1,hz,run_underlying hT,run_underlying hd,hsz,hin,AV.toV,asInt,asIntOf,typeInfo,hi1,hi3,hw1,hneg,hbig,hz0,hv1,hv2]
   | some a=>simp [Builtin.append_,ht,h0,h1,hz,run_underlying hT,run_underlying hd,hsz,hin,AV.toV,asInt,asIntOf,typeInfo,hi1,hi3,hw1,hneg,hbig,hz0,hv1,hv2,hst a rfl]
 ·simp only [Bool.false_eq_true,if_false] at hc hn
  cases base with
  | none=>obtain rfl:=hw rfl;simp [Builtin.append_,ht,h0,h1,hz,run_underlying hT,run_underlying hd,hsz,hc,hn.1,hin]
  | some a=>simp [Builtin.append_,ht,h0,h1,hz,run_underlying hT,run_underlying hd,hsz,hc,hn.1,hin,hst a rfl]
 ·simp only [Bool.false_eq_true,if_false] at hc hn
  cases base with
  | none=>obtain rfl:=hw rfl;simp [Builtin.append_,ht,h0,h1,hz,run_underlying hT,run_underlying hd,hsz,hc,hn.1,hin]
  | some a=>simp [Builtin.append_,ht,h0,h1,hz,run_underlying hT,run_underlying hd,hsz,hc,hn.1,hin,hst a rfl]
set_option maxHeartbeats 4000000 in
theorem run_append_out {ts:Array TypeId} {ty t e:TypeId} {j:TI} {args:Array Value} {z:Bool} {x:AV} {n sLen sCap:Nat} {old new:List AV} {base:Option Addr} {zv:AV} (hJ:TyOk P e j) (hzv:j.zero=some zv)
 (ht:ts[0]? = some t) (hT:P.underlying t=some (.slice e)) (h0:args[0]? = some (.slice base sLen sCap)) (h1:args[1]? = some (x.toV ρ)) (ha:AppArg P ρ D ts e j z x n new w) (hout:sCap<sLen+n)
 (hsmall:(sLen+n) * (j.bytes+1)≤1099511627776) (hold:(Builtin.firstCells j.size sLen (.slice base sLen sCap)).run P w.drew=.ok ⟨toVs ρ old⟩ w.drew) :
 ∃ zs:Array Value,zs.size=(grownCap w (sLen+n) sCap e - (sLen+n)) * j.size ∧
  (Builtin.append_ ts ty args).run P w=.ok (.slice (some ⟨w.heap.size,0,none⟩) (sLen+n) (grownCap w (sLen+n) sCap e)) (w.drew.alloc (.cells (⟨toVs ρ (old ++ new)⟩ ++ zs) e)):=by
 have hsz:=fun w=>run_sizeOf (P:=P) hJ w
 obtain ⟨hz,hc,hn,_,_⟩:=ha
 obtain ⟨i,hi1,hi2,hi3,_⟩:=info_of hJ
 have hzz:=fun w=>run_zeroValue (P:=P) hJ hzv ρ w
 have hin:¬ (sLen+n≤sCap):=by omega
 have hb1:(sLen+n) * 1≤(sLen+n) * (j.bytes+1):=Nat.mul_le_mul_left _ (by omega)
 have hb2:(sLen+n) * j.bytes≤(sLen+n) * (j.bytes+1):=Nat.mul_le_mul_left _ (by omega)
 have h63:¬ (9223372036854775807<((sLen:Int)+(n:Int))):=by omega
 have h48:¬ (281474976710656<Builtin.nextslicecap (sLen+n) sCap * j.bytes):=by
  have:=growslice_fits (bytes:=j.bytes) hout (by omega)
  omega
 have happ:toVs ρ (old ++ new)=toVs ρ old ++ toVs ρ new:=by rw [toVs_eq,toVs_eq,toVs_eq,List.map_append]
 have harr:∀ z:Array Value,((⟨toVs ρ old⟩:Array Value) ++ ((⟨toVs ρ new⟩:Array Value) ++ z))=(⟨toVs ρ old ++ toVs ρ new⟩:Array Value) ++ z:=by intro z;apply Array.ext';simp
 have hzsz:(zv.toV ρ).cells.size=j.size:=by rw [cells_toV];simp [toVs_length,hJ.width zv hzv]
 refine ⟨Builtin.zeroCells (zv.toV ρ).cells (grownCap w (sLen+n) sCap e - (sLen+n)),by simp [Builtin.zeroCells,hzsz],?_⟩
 rcases hz with ⟨hz,rfl⟩ | ⟨t1,hz,⟨rfl,k0,hd⟩ | ⟨rfl,hd | ⟨e',hd⟩⟩⟩
 ·simp only [Bool.false_eq_true,if_false] at hc hn
  simp [Builtin.append_,ht,h0,h1,hz,run_underlying hT,hsz,hc,hn.2,hin,typeInfo,hi1,hi3,h63,h48,Question.forced,hold,hzz,newRow,grownCap,happ,harr]
 ·simp only [if_true] at hc hn
  obtain ⟨k,rfl,hb3,hb4⟩:=hc
  obtain ⟨hw1,hw2⟩:=makeSlice_sizes (b:=j.bytes) hb3 (by rw [Nat.mul_comm];exact hb4)
  have hneg:¬ ((n:Int)<0):=by omega
  have hbig:¬ (281474976710656<(n:Int) * (j.bytes:Int)):=by
   rw [Int.mul_comm]
   have:¬ ((j.bytes:Int) * (n:Int) > 2 ^ 48):=hw2
   omega
  rcases hn with ⟨hz0,rfl⟩ | ⟨hz0,v,hv1,hv2⟩
  ·simp [Builtin.append_,ht,h0,h1,hz,run_underlying hT,run_underlying hd,hsz,hin,typeInfo,hi1,hi3,h63,h48,Question.forced,hold,hzz,newRow,grownCap,happ,harr,AV.toV,asInt,asIntOf,hw1,hneg,hbig,hz0,toVs]
  ·have heq:zv.toV ρ=v.toV ρ:=by
    have h1:=hzz w
    rw [hv1 w] at h1
    exact (Result.ok.inj h1).1.symm
   rw [← heq] at hv2
   simp [Builtin.append_,ht,h0,h1,hz,run_underlying hT,run_underlying hd,hsz,hin,typeInfo,hi1,hi3,h63,h48,Question.forced,hold,hzz,newRow,grownCap,happ,harr,AV.toV,asInt,asIntOf,hw1,hneg,hbig,hz0,hv2]
 ·simp only [Bool.false_eq_true,if_false] at hc hn
  simp [Builtin.append_,ht,h0,h1,hz,run_underlying hT,run_underlying hd,hsz,hc,hn.2,hin,typeInfo,hi1,hi3,h63,h48,Question.forced,hold,hzz,newRow,grownCap,happ,harr]
 ·simp only [Bool.false_eq_true,if_false] at hc hn
  simp [Builtin.append_,ht,h0,h1,hz,run_underlying hT,run_underlying hd,hsz,hc,hn.2,hin,typeInfo,hi1,hi3,h63,h48,Question.forced,hold,hzz,newRow,grownCap,happ,harr]
end
end Go.Ev
namespace Go.Ev
section
variable {P:Program} {E:Env} {ρ ρ':Ren} {D D':Dom} {K:Mem} {Pr:Nat→Prop} {s s':St} {w w':World} {fr:Fr} {ev:Operand→Value} {nx:Nx}
theorem pushed_same {o:Obj}:Pushed w (w.drew.alloc o):=pushed_drew_alloc w o
theorem growTo_new (h:MemOk P ρ D K Pr s w) {e:TypeId} {j:TI} (hJ:TyOk P e j) {all:List AV} {need lo cap newCap:Nat} {opn:Bool} {base:Option (Nat×Nat)} {zs:Array Value} (hd:allIn D all) (hle:need≤newCap)
 (hz:zs.size=(newCap - need) * j.size) (hg:growTo e all need lo cap j.size opn s base=some nx) :
 ∃ v s' ρ' D',nx=.val v s'∧Post P ρ D K Pr s w v s' (.slice (some ⟨w.heap.size,0,none⟩) need newCap) (w.drew.alloc (.cells (⟨toVs ρ all⟩ ++ zs) e)) ρ' D':=by
 have hnew:∀ (s1:St) (frz:Nat) (sh:Bool),s1.k=s.k→MemOk P ρ D K Pr s1 w→Post P ρ D K Pr s w (openOn need s.k) (newSt (.cells all e frz sh) s1) (.slice (some ⟨w.heap.size,0,none⟩) need newCap) (w.drew.alloc (.cells (⟨toVs ρ all⟩ ++ zs) e))
  (upd ρ s.k ⟨w.heap.size,0,newCap - need⟩) (addD D s.k):=by
  intro s1 frz sh hk1 h1
  have hk:¬ D s1.k:=fun e=>Nat.lt_irrefl _ (h1.dom _ e)
  have ho:=own_grown (P:=P) (ρ:=ρ) (D:=D) (s:=s1) (w:=w) (need:=need) (newCap:=newCap) hJ hd hk hz frz sh
  obtain ⟨m1,m2,m3⟩:=h1.alloc (ob:=.cells all e frz sh) (l:=⟨w.heap.size,0,newCap - need⟩) pushed_same rfl ho hd
  rw [hk1] at m1 m2
  refine ⟨m2,fun n hn=>.inl hn,fun n hn=>hn.imp id (fun e=>by omega),m1,m3,?_,.inr rfl,?_⟩
  ·rw [openOn_toV]
   have:need+(newCap - need)=newCap:=by omega
   rw [this]
  ·show s.k≤s1.k+1
   omega
 cases base with
 | none =>
  obtain rfl:Nx.val (openOn need s.k) (newSt (.cells all e 0 false) s)=nx:=Option.some.inj hg
  exact ⟨_,_,_,_,rfl,hnew s 0 false rfl h⟩
 | some a =>
  have hg:sw opn (obind (s.H.get a.1) (grownOpen e all need lo cap j.size s a)) (grownNew e all need s)=some nx:=hg
  rw [sw_eq] at hg
  cases opn with
  | false =>
   have hg:grownNew e all need s=some nx:=by simpa using hg
   obtain rfl:=Option.some.inj hg
   exact ⟨_,_,_,_,rfl,hnew s 0 false rfl h⟩
  | true =>
   have hg:obind (s.H.get a.1) (grownOpen e all need lo cap j.size s a)=some nx:=by simpa using hg
   obtain ⟨ob,hob,hg⟩:=obind_some hg
   cases ob with
   | cells vs oe frz sh =>
    obtain ⟨_,hg⟩:=grd_some (show grd (band (Nat.beq oe e) (band (Nat.beq (Nat.mod a.2 j.size) 0) (band (Nat.ble frz (Nat.add a.2 lo)) (Nat.beq (Nat.add a.2 (Nat.mul cap j.size)) (llen vs)))))
     (some (.val (openOn need s.k) ⟨(s.H.erase a.1).set s.k (.cells all e (Nat.sub frz a.2) sh),Nat.succ s.k⟩))=some nx from hg)
    obtain rfl:=Option.some.inj hg
    exact ⟨_,_,_,_,rfl,hnew ⟨s.H.erase a.1,s.k⟩ (Nat.sub frz a.2) sh rfl (h.drop a.1)⟩
   | _=>cases hg
theorem growTo_in (h:MemOk P ρ D K Pr s w) {e:TypeId} {j:TI} (hJ:TyOk P e j) {a:Nat×Nat} {vs old new:List AV} {frz len n cap:Nat} {sh:Bool} (hob:s.H.get a.1=some (.cells vs e frz sh))
 (hmod:a.2 % j.size=0) (hfrz:frz≤a.2+len * j.size) (hcap:a.2+cap * j.size=vs.length) (hold:takeCells vs a.2 (len * j.size)=some old) (hd:allIn D new) (hone:∀ v∈new,v.one=true)
 (hlen:new.length=n * j.size) (hin:len+n≤cap+(ρ a.1).tail) :
 ∃ w',(storeCells (adr ρ (a.1,a.2+len * j.size)) (toVs ρ new)).run P w=.ok () w' ∧
  Post P ρ D K Pr s w (openOn (len+n) s.k) ⟨(s.H.erase a.1).set s.k (.cells (lapp old new) e (Nat.sub frz a.2) sh),s.k+1⟩ (.slice (some (adr ρ a)) (len+n) (cap+(ρ a.1).tail)) w'
   (upd ρ s.k ⟨(ρ a.1).blk,(ρ a.1).off+a.2,cap+(ρ a.1).tail - (len+n)⟩) (addD D s.k):=by
 obtain ⟨g1,g2,g3,g4⟩:=h.own _ _ hob
 obtain ⟨c,fz,c1,c2,c3,c4,c5,c6⟩:=g3
 have hcs:=cellsOf_size hJ
 rw [hcs] at c3 c4 c5
 obtain ⟨t1,t2,t3,t4⟩:=takeCells_ok (ρ:=ρ) (D:=D) hold
 have hk:¬ D s.k:=fun e=>Nat.lt_irrefl _ (h.dom _ e)
 have hag:Agree D ρ (upd ρ s.k ⟨(ρ a.1).blk,(ρ a.1).off+a.2,cap+(ρ a.1).tail - (len+n)⟩):=upd_agree hk
 have hmul:(len+n) * j.size≤(cap+(ρ a.1).tail) * j.size:=Nat.mul_le_mul_right _ hin
 rw [Nat.add_mul,Nat.add_mul] at hmul
 have hnl:(toVs ρ new).length=n * j.size:=by rw [toVs_length,hlen]
 obtain ⟨w',r1,r2,r3⟩:=run_storeCells_own (P:=P) (o:=(ρ a.1).off+a.2+len * j.size) (toVs ρ new) 0 c w c1 (by rw [hnl];omega) (fun q h5 h6=>c5 q (by omega) (by rw [hnl] at h6;omega)) (fun x hx=>by
  rw [toVs_eq] at hx
  obtain ⟨y,hy,rfl⟩:=List.mem_map.1 hx
  exact one_toV (hone y hy))
 have hdall:allIn D (lapp old new):=by
  rw [lapp_eq,allIn_iff]
  intro v hv
  rcases List.mem_append.1 hv with hv | hv
  ·exact (allIn_iff D _).1 (t4 g2) v hv
  ·exact (allIn_iff D _).1 hd v hv
 have hown:Own P (upd ρ s.k ⟨(ρ a.1).blk,(ρ a.1).off+a.2,cap+(ρ a.1).tail - (len+n)⟩) w' s.k (.cells (lapp old new) e (Nat.sub frz a.2) sh):=by
  have hal:(lapp old new).length=len * j.size+n * j.size:=by rw [lapp_eq,List.length_append,t3,hlen]
  have hsub:(cap+(ρ a.1).tail - (len+n)) * j.size=cap * j.size+(ρ a.1).tail * j.size - (len * j.size+n * j.size):=by rw [Nat.sub_mul,Nat.add_mul,Nat.add_mul]
  have hns:Nat.sub frz a.2=frz - a.2:=rfl
  refine ⟨_,fz,by rw [upd_same];exact r3,?_,?_,?_,?_,?_⟩
  ·intro i x hx
   rw [upd_same,toV_ext hag x (allIn_get hdall hx),List.getElem?_toArray,hnl,Nat.add_zero]
   have ht:(c.toList.take ((ρ a.1).off+a.2+len * j.size)).length=(ρ a.1).off+a.2+len * j.size:=by simp;omega
   rw [lapp_eq] at hx
   show (c.toList.take ((ρ a.1).off+a.2+len * j.size) ++ _)[(ρ a.1).off+a.2+i]? = _
   by_cases hi:i<len * j.size
   ·rw [List.getElem?_append_left (by rw [t3];exact hi)] at hx
    rw [List.getElem?_append_left (by omega),List.getElem?_take,if_pos (by omega),Array.getElem?_toList,Nat.add_assoc]
    refine c2 (a.2+i) x ?_
    obtain ⟨_,rfl⟩:=takeCells_some hold
    rw [List.getElem?_take,if_pos hi,List.getElem?_drop] at hx
    exact hx
   ·rw [List.getElem?_append_right (by rw [t3];omega),t3] at hx
    have hx2:=toVs_get (ρ:=ρ) hx
    have hlt:=(List.getElem?_eq_some_iff.1 hx2).1
    rw [List.getElem?_append_right (by omega),ht,List.getElem?_append_left (by omega)]
    have e1:(ρ a.1).off+a.2+i - ((ρ a.1).off+a.2+len * j.size)=i - len * j.size:=by omega
    rw [e1]
    exact hx2
  ·rw [upd_same,hcs]
   show ((ρ a.1).off+a.2) % j.size=0
   rw [Nat.add_mod,c3,hmod]
   simp
  ·rw [upd_same,hcs,hal]
   show (ρ a.1).off+a.2+(len * j.size+n * j.size)+(cap+(ρ a.1).tail - (len+n)) * j.size≤_
   rw [hsub]
   simp only [List.size_toArray,List.length_append,List.length_take,List.length_drop,Array.length_toList,hnl]
   omega
  ·rw [upd_same,hcs,hal,hns]
   show ∀ q,(ρ a.1).off+a.2+(frz - a.2)≤q→q<(ρ a.1).off+a.2+(len * j.size+n * j.size)+(cap+(ρ a.1).tail - (len+n)) * j.size→_
   rw [hsub]
   intro q h1 h2
   exact c5 q (by omega) (by omega)
  ·rw [upd_same,hns]
   intro hsh
   show _∨fz.2≤(ρ a.1).off+a.2+(frz - a.2)
   rcases c6 hsh with h1 | h1
   ·exact .inl h1
   ·exact .inr (by omega)
 obtain ⟨m1,m2,m3⟩:=h.moveTo (l:=⟨(ρ a.1).blk,(ρ a.1).off+a.2,cap+(ρ a.1).tail - (len+n)⟩) hob rfl r2 hown hdall
 refine ⟨w',?_,m2,fun q hq=>.inl hq,fun q hq=>hq.imp id (fun e=>by omega),m1,m3,?_,.inr rfl,Nat.le_succ _⟩
 ·have:adr ρ (a.1,a.2+len * j.size)=⟨(ρ a.1).blk,(ρ a.1).off+a.2+len * j.size,none⟩:=by simp [adr,Nat.add_assoc]
  rw [this]
  exact r1
 ·rw [openOn_toV]
  have:len+n+(cap+(ρ a.1).tail - (len+n))=cap+(ρ a.1).tail:=by omega
  rw [this]
  rfl
end
end Go.Ev
