/- A part of the proof: Ww -/
import Derived.Test.YtimfnccfnefajaaGreatDoorVWg
import Derived.Test.YtimfnccfnefajaaGreatDoorVWb
set_option linter.unusedSimpArgs false
set_option linter.unusedVariables false
namespace Go.Proofs
open Go.RowKit Go.Sp
def ecells (e:Ev) (h:Value):Array Value:=#[.int .i64 e.kind,.string ⟨e.user.toArray⟩,.string ⟨e.note.toArray⟩,.int .i64 e.tSp,.string ⟨e.tN.toArray⟩,.int .i64 e.oSp,.string ⟨e.oN.toArray⟩,.string ⟨e.text.toArray⟩,.int .i64 e.base,.int .i64 e.n,h]
def evV (e:Ev) (h:Value):Value:=.agg (ecells e h)
theorem EBlk.new (W:World) (e:Ev) (h:Value):EBlk (W.alloc (.cells (ecells e h) 33)) W.heap.size e h:=by
 constructor
 case fr=>intro j hj;simp [World.frozen?,World.alloc,-World.alloc_eq]
 all_goals simp [World.cell?,World.alloc,-World.alloc_eq,ecells]
def RetE (l:Bs) (w:World) (e:Ending) (w':World):Prop:=Below w.heap.size w w' ∧
 ((lineS l=none∧∃ x A m c,e=.returned (.tuple #[evV x (.slice A m c),.bool false])) ∨
  (∃ x h,lineS l=some x∧e=.returned (.tuple #[evV x h,.bool true])∧w'.ownsRow w.heap.size 66 6 h x.hist.length (hcells x.hist)))
structure PW (w W:World) (V S o n c:Nat) (L:List Bs):Prop where
 below:Below w.heap.size w W
 res:EBlk W w.heap.size (ev0 0) (.slice none 0 0)
 row:RowO W S o L
 var:W.cell? ⟨V,0,none⟩=some (.slice (some ⟨S,o,none⟩) n c)
 frz:W.frozen? ⟨V,0,none⟩=false
 ltS:S<V
 ltV:V<W.heap.size
 ltR:w.heap.size<S
 len:L.length=n
theorem PW.step {w W W':World} {V S o n c:Nat} {L:List Bs} (h:PW w W V S o n c L) (b:Below W.heap.size W W'):PW w W' V S o n c L :=
 ⟨h.below.trans (b.mono h.below.size),h.res.below h.res.lt b,h.row.below (Nat.lt_trans h.ltS h.ltV) b,(b.cell (p:=⟨V,0,none⟩) h.ltV).trans h.var,(b.frozen (p:=⟨V,0,none⟩) h.ltV).trans h.frz,h.ltS,Nat.lt_of_lt_of_le h.ltV b.size,h.ltR,h.len⟩
theorem RowS.toO {w:World} {B:Nat} {L:List Bs} (h:RowS w B L):RowO w B 0 L:=fun j hj=>by rw [Nat.zero_add];exact h.cell j hj
theorem PW.first {w W1 W2:World} {L:List Bs} (hb:Below W1.heap.size W1 W2) (h1:W1=w.alloc (.cells (ecells (ev0 0) (.slice none 0 0)) 33)) (hr:RowS W2 W1.heap.size L) (hl:W1.heap.size<W2.heap.size) :
 PW w (W2.alloc (.cells #[.slice (some ⟨W1.heap.size,0,none⟩) L.length L.length] 60)) W2.heap.size W1.heap.size 0 L.length L.length L:=by
 have hx:=(Below.refl W2.heap.size W2).alloc (Nat.le_refl _) (.cells #[.slice (some ⟨W1.heap.size,0,none⟩) L.length L.length] 60)
 have hy:=hb.trans (hx.mono hb.size)
 have hs:w.heap.size<W1.heap.size:=by subst h1;simp
 have he:EBlk W1 w.heap.size (ev0 0) (.slice none 0 0):=by subst h1;exact EBlk.new w _ _
 have hw:Below w.heap.size w W1:=by subst h1;exact (Below.refl _ w).alloc (Nat.le_refl _) _
 exact ⟨hw.trans (hy.mono hw.size),he.below hs hy,hr.toO.below hl hx,by simp [World.cell?,World.alloc,-World.alloc_eq],by simp [World.frozen?,World.alloc,-World.alloc_eq],hl,by simp,hs,rfl⟩
theorem EBlk.setKind {W:World} {b:Nat} {e:Ev} {h:Value} (k:EBlk W b e h) (v:Int):EBlk (W.setCell ⟨b,0,none⟩ (.int .i64 v)) b { e with kind:=v } h :=
 ⟨cell_put _ _ _ _ _ k.c0,(cell_far _ _ _ _ _ (by decide)).trans k.c1,(cell_far _ _ _ _ _ (by decide)).trans k.c2,(cell_far _ _ _ _ _ (by decide)).trans k.c3,(cell_far _ _ _ _ _ (by decide)).trans k.c4,(cell_far _ _ _ _ _ (by decide)).trans k.c5,(cell_far _ _ _ _ _ (by decide)).trans k.c6,(cell_far _ _ _ _ _ (by decide)).trans k.c7,(cell_far _ _ _ _ _ (by decide)).trans k.c8,(cell_far _ _ _ _ _ (by decide)).trans k.c9,(cell_far _ _ _ _ _ (by decide)).trans k.c10,fun j hj=>(World.frozen?_setCell _ _ _ _).trans (k.fr j hj),by simpa using k.lt⟩
abbrev putE (W:World) (b:Nat) (x:Ev) (g:Value):World:=((((((((((W.setCell ⟨b,0,none⟩ (.int .i64 x.kind)).setCell ⟨b,1,none⟩ (.string ⟨x.user.toArray⟩)).setCell ⟨b,2,none⟩ (.string ⟨x.note.toArray⟩)).setCell ⟨b,3,none⟩ (.int .i64 x.tSp)).setCell ⟨b,4,none⟩ (.string ⟨x.tN.toArray⟩)).setCell ⟨b,5,none⟩ (.int .i64 x.oSp)).setCell ⟨b,6,none⟩ (.string ⟨x.oN.toArray⟩)).setCell ⟨b,7,none⟩ (.string ⟨x.text.toArray⟩)).setCell ⟨b,8,none⟩ (.int .i64 x.base)).setCell ⟨b,9,none⟩ (.int .i64 x.n)).setCell ⟨b,10,none⟩ g
theorem EBlk.put {W:World} {b:Nat} {e:Ev} {h:Value} (k:EBlk W b e h) (x:Ev) (g:Value):EBlk (putE W b x g) b { x with hist:=e.hist } g :=
 ((((((((((k.setKind x.kind).setUser x.user).setNote x.note).setTSp x.tSp).setTN x.tN).setOSp x.oSp).setON x.oN).setText x.text).setBase x.base).setN x.n).setHist g
theorem putE_below (w:World) (b:Nat) (W:World) (x:Ev) (g:Value) (h:Below b w W):Below b w (putE W b x g) :=
 ((((((((((h.setCell (p:=⟨b,0,none⟩) (Nat.le_refl _) _).setCell (p:=⟨b,1,none⟩) (Nat.le_refl _) _).setCell (p:=⟨b,2,none⟩) (Nat.le_refl _) _).setCell (p:=⟨b,3,none⟩) (Nat.le_refl _) _).setCell (p:=⟨b,4,none⟩) (Nat.le_refl _) _).setCell (p:=⟨b,5,none⟩) (Nat.le_refl _) _).setCell (p:=⟨b,6,none⟩) (Nat.le_refl _) _).setCell (p:=⟨b,7,none⟩) (Nat.le_refl _) _).setCell (p:=⟨b,8,none⟩) (Nat.le_refl _) _).setCell (p:=⟨b,9,none⟩) (Nat.le_refl _) _).setCell (p:=⟨b,10,none⟩) (Nat.le_refl _) _
theorem idxF_go (v:Bs):∀ m k,m+k=21→(idxF v m k = -1∧(forms.drop k).find? (fun f=>f.verb == v)=none)∨∃ i:Nat,i<21∧idxF v m k=(i:Int)∧(forms.drop k).find? (fun f=>f.verb == v)=some (formAt i)
 | 0,k,h=>.inl ⟨rfl,by rw [List.drop_eq_nil_of_le (by rw [show forms.length=21 from rfl];omega)];rfl⟩
 | m+1,k,h=>by
  have hk:k<forms.length:=by rw [show forms.length=21 from rfl];omega
  have hd:forms.drop k=formAt k :: forms.drop (k+1):=by
   rw [List.drop_eq_getElem_cons hk]
   congr 1
   unfold formAt
   rw [List.getD_eq_getElem?_getD,List.getElem?_eq_getElem hk];rfl
  rw [idxF_succ,hd,List.find?_cons]
  by_cases hv:(formAt k).verb=v
  ·exact .inr ⟨k,by omega,by rw [if_pos hv],by rw [beq_iff_eq.2 hv]⟩
  ·rw [if_neg hv,beq_eq_false_iff_ne.2 hv]
   exact idxF_go v m (k+1) (by omega)
theorem lineS_at {l v:Bs} {ws L:List Bs} (h1:splitL 32 l=L) (h2:L=v :: ws):lineS l=(forms.find? fun f=>f.verb == v).bind fun f=>byForm f ws:=by
 unfold lineS;rw [h1,h2]
theorem kstrAt (i:Nat) (hi:i<21):Lib.trimSuffix (kstr (formAt i)) [42]=(formAt i).kinds.map runeB∧Lib.hasSuffix (kstr (formAt i)) [42]=(formAt i).many∧(∀ k∈(formAt i).kinds,k≠.many)∧(formAt i).kinds.length≤5:=by
 have:i=0∨i=1∨i=2∨i=3∨i=4∨i=5∨i=6∨i=7∨i=8∨i=9∨i=10∨i=11∨i=12∨i=13∨i=14∨i=15∨i=16∨i=17∨i=18∨i=19∨i=20:=by omega
 rcases this with rfl | rfl | rfl | rfl | rfl | rfl | rfl | rfl | rfl | rfl | rfl | rfl | rfl | rfl | rfl | rfl | rfl | rfl | rfl | rfl | rfl <;> refine ⟨by decide +kernel,by decide +kernel,by decide +kernel,by decide +kernel⟩
structure PE (w W:World) (V S o n c:Nat) (L:List Bs) (F E:Nat) (ev:Ev):Prop where
 pw:PW w W V S o n c L
 frow:FRow W F
 evt:EBlk W E ev (.slice none 0 0)
 ltF:V<F
 ltE:F<E
theorem PE.step {w W W':World} {V S o n c:Nat} {L:List Bs} {F E:Nat} {ev ev':Ev} (h:PE w W V S o n c L F E ev) (b:Below E W W') (he:EBlk W' E ev' (.slice none 0 0)):PE w W' V S o n c L F E ev':=by
 have hV:V<E:=Nat.lt_trans h.ltF h.ltE
 have hS:S<E:=Nat.lt_trans h.pw.ltS hV
 have hR:w.heap.size<E:=Nat.lt_trans h.pw.ltR hS
 exact ⟨⟨h.pw.below.trans (b.mono (Nat.le_of_lt hR)),h.pw.res.below hR b,h.pw.row.below hS b,(b.cell (p:=⟨V,0,none⟩) hV).trans h.pw.var,(b.frozen (p:=⟨V,0,none⟩) hV).trans h.pw.frz,h.pw.ltS,Nat.lt_of_lt_of_le h.pw.ltV b.size,h.pw.ltR,h.pw.len⟩,h.frow.below h.ltE b,he,h.ltF,h.ltE⟩
theorem PE.first {w W:World} {V S n F o:Nat} {L ws:List Bs} {v:Bs} {kd:Int} (h:PW w W V S 0 n n L) (hv:L=v :: ws) (hf:FRow W F) (hF:F<W.heap.size) (hVF:V<F) (ho:n=1∨o=1) :
 PE w ((W.setCell ⟨V,0,none⟩ (.slice (some ⟨S,o,none⟩) (n - 1) (n - 1))).alloc (.cells (ecells (ev0 kd) (.slice none 0 0)) 33)) V S o (n - 1) (n - 1) ws F W.heap.size (ev0 kd):=by
 have hx:Below V W (W.setCell ⟨V,0,none⟩ (.slice (some ⟨S,o,none⟩) (n - 1) (n - 1))):=(Below.refl V W).setCell (p:=⟨V,0,none⟩) (Nat.le_refl _) _
 have hc:=cell_put W V 0 _ (.slice (some ⟨S,o,none⟩) (n - 1) (n - 1)) h.var
 have hfz:(W.setCell ⟨V,0,none⟩ (.slice (some ⟨S,o,none⟩) (n - 1) (n - 1))).frozen? ⟨V,0,none⟩=false:=(World.frozen?_setCell _ _ _ _).trans h.frz
 have hfr:FRow (W.setCell ⟨V,0,none⟩ (.slice (some ⟨S,o,none⟩) (n - 1) (n - 1))) F:=by
  refine ⟨fun i hi=>?_,fun i hi=>?_,fun i hi=>?_⟩
  ·rw [World.cell?_setCell_other _ ⟨V,0,none⟩ ⟨F,3 * i,none⟩ _ (by intro e;injection e with e1 _ _;omega)];exact hf.verb i hi
  ·rw [World.cell?_setCell_other _ ⟨V,0,none⟩ ⟨F,3 * i+1,none⟩ _ (by intro e;injection e with e1 _ _;omega)];exact hf.kinds i hi
  ·rw [World.cell?_setCell_other _ ⟨V,0,none⟩ ⟨F,3 * i+2,none⟩ _ (by intro e;injection e with e1 _ _;omega)];exact hf.kind i hi
 have hsz:(W.setCell ⟨V,0,none⟩ (.slice (some ⟨S,o,none⟩) (n - 1) (n - 1))).heap.size=W.heap.size:=by simp
 generalize W.setCell ⟨V,0,none⟩ (.slice (some ⟨S,o,none⟩) (n - 1) (n - 1))=W1 at *
 have hy:=(Below.refl W1.heap.size W1).alloc (Nat.le_refl _) (.cells (ecells (ev0 kd) (.slice none 0 0)) 33)
 have hVW:=h.ltV
 have hSV:=h.ltS
 have hRS:=h.ltR
 have hz:=hx.trans (hy.mono (by rw [hsz];omega))
 have hlen:n=ws.length+1:=by rw [← h.len,hv];rfl
 refine ⟨⟨h.below.trans (hz.mono (by omega)),h.res.below (by omega) hz,?_,(hy.cell (p:=⟨V,0,none⟩) (by rw [hsz];omega)).trans hc,(hy.frozen (p:=⟨V,0,none⟩) (by rw [hsz];omega)).trans hfz,hSV,by show _<(W1.heap.push _).size;rw [Array.size_push];omega,hRS,by omega⟩,hfr.below (by rw [hsz];omega) hy,by rw [← hsz];exact EBlk.new _ _ _,hVF,hF⟩
 intro j hj
 rcases ho with rfl | rfl
 ·omega
 ·rw [hz.cell (p:=⟨S,1+j,none⟩) hSV]
  have:=h.row (j+1) (by rw [hv];simpa using hj)
  rw [hv,Nat.zero_add,List.getD_cons_succ,Nat.add_comm j 1] at this
  exact this
structure LRel (w:World) (V S o n1:Nat) (ws:List Bs) (F E:Nat) (f:Sp.Form) (kb:Bs) (IT pos:Nat) (wr:World):Prop where
 iter:wr.heap[IT]? = some (.stringIter ⟨kb.toArray⟩ pos)
 ltI:E<IT
 ev:∃ ev,PE w wr V S o n1 n1 ws F E ev∧fills (ev0 f.kind) f.kinds ws=fills ev (f.kinds.drop pos) (ws.drop pos)∧ev.hist=[]
theorem fillE_hist (e:Ev) (f:Fld) (x:Bs):(fillE e f x).hist=e.hist:=by cases f <;> simp only [fillE]
theorem LRel.first {w W:World} {V S o n1 F E:Nat} {ws:List Bs} {f:Sp.Form} {kb:Bs} {kd:Int} (h:PE w W V S o n1 n1 ws F E ⟨kd,[],[],0,[],0,[],[],0,0,[]⟩) (hk:f.kind=kd):LRel w V S o n1 ws F E f kb W.heap.size 0 (W.iter ⟨kb.toArray⟩ 0):=by
 have hx:=(Below.refl W.heap.size W).alloc (Nat.le_refl _) (.stringIter ⟨kb.toArray⟩ 0)
 refine ⟨World.iter_heap W ⟨kb.toArray⟩ 0,h.evt.lt,_,PE.step h (hx.mono (Nat.le_of_lt h.evt.lt)) (h.evt.below h.evt.lt hx),?_⟩
 rw [List.drop_zero,List.drop_zero,hk];exact ⟨rfl,rfl⟩
theorem revs_ok (u:Bs):∀ (D:List Bs) (i:Nat),(∀ j,j<D.length→(readS (D.getD j [])).2=true)→revs u i D=some ((List.range D.length).map fun j=>revAt u (i+j) (D.getD j []))
 | [],i,_=>rfl
 | x :: D,i,h=>by
  have h0:=h 0 (by simp)
  have ih:=revs_ok u D (i+1) (fun j hj=>by have:=h (j+1) (by simpa using hj);rwa [List.getD_cons_succ] at this)
  rw [List.getD_cons_zero] at h0
  unfold revs
  rw [rd_readS,if_pos h0,Option.bind_some,ih,Option.map_some,List.length_cons,List.range_succ_eq_map,List.map_cons,List.map_map]
  congr 2
  refine List.map_congr_left fun j _=>?_
  simp only [Function.comp,Nat.succ_eq_add_one,List.getD_cons_succ]
  rw [show i+1+j=i+(j+1) from by omega]
theorem revs_bad (u:Bs):∀ (D:List Bs) (i:Nat),(∃ j,j<D.length∧(readS (D.getD j [])).2=false)→revs u i D=none
 | [],i,⟨j,hj,_⟩=>by cases hj
 | x :: D,i,⟨0,_,h⟩=>by
  rw [List.getD_cons_zero] at h
  unfold revs
  rw [rd_readS,if_neg (by rw [h];exact Bool.false_ne_true)];rfl
 | x :: D,i,⟨j+1,hj,h⟩=>by
  rw [List.getD_cons_succ] at h
  unfold revs
  rw [revs_bad u D (i+1) ⟨j,by simpa using hj,h⟩]
  cases rd none x <;> rfl
theorem rune_int (k:Fld):((runeB k).toNat:Int)=runeF k:=by cases k <;> rfl
theorem rune_ascii (k:Fld):(runeB k).toNat<128:=by cases k <;> decide
theorem LRel.at {w wr:World} {V S o n1 F E IT pos:Nat} {ws:List Bs} {f:Sp.Form} {kb:Bs} (h:LRel w V S o n1 ws F E f kb IT pos wr) (hk:List.map runeB f.kinds=kb) (hp:pos<kb.length) (hw:kb.length≤ws.length) :
 ∃ (ev:Ev) (fld:Fld) (wi:World),fld∈f.kinds∧(∀ ty,(Instr.next (.pointer (some ⟨IT,0,none⟩)) true ty).run Tryz.prog wr=.ok (.tuple #[.bool true,.int .i64 pos,.int .i32 (runeF fld)]) wi)∧PE w wi V S o n1 n1 ws F E ev∧wi.heap[IT]? = some (.stringIter ⟨kb.toArray⟩ (pos+1))∧E<IT∧IT<wi.heap.size∧fills (ev0 f.kind) f.kinds ws=(fillW ev fld (ws.getD pos [])).bind (fun e=>fills e (f.kinds.drop (pos+1)) (ws.drop (pos+1)))∧ev.hist=[]:=by
 obtain ⟨ev,hE,hf,hh⟩:=h.ev
 have hkl:f.kinds.length=kb.length:=by rw [← hk,List.length_map]
 have hp2:pos<f.kinds.length:=by omega
 have hp3:pos<ws.length:=by omega
 have hkb:(⟨kb.toArray⟩:ByteArray)[pos]'(by show pos<kb.length;exact hp)=runeB (f.kinds[pos]):=by
  show kb.toArray[pos]'(by simpa using hp)=_
  subst hk
  simp
 have hnx:=fun ty=>Lib.run_next_ascii_at (P:=Tryz.prog) wr IT ⟨kb.toArray⟩ pos ty h.iter (by show pos<kb.length;exact hp) (by rw [hkb];exact rune_ascii _)
 have hlt:IT<wr.heap.size:=(Array.getElem?_eq_some_iff.1 h.iter).1
 have hx:=Lib.below_iterAt (Below.refl IT wr) (Nat.le_refl _) ⟨kb.toArray⟩ (pos+1)
 refine ⟨ev,f.kinds[pos],wr.iterAt IT ⟨kb.toArray⟩ (pos+1),List.getElem_mem _,fun ty=>?_,hE.step (hx.mono (Nat.le_of_lt h.ltI)) (hE.evt.below h.ltI hx),Lib.iterAt_heap wr IT _ pos (pos+1) h.iter,h.ltI,by rw [Lib.iterAt_size];exact hlt,?_,hh⟩
 ·rw [hnx ty,hkb,rune_int]
 ·rw [hf,List.drop_eq_getElem_cons hp2,List.drop_eq_getElem_cons hp3]
  rw [show ws.getD pos []=ws[pos] from by rw [List.getD_eq_getElem?_getD,List.getElem?_eq_getElem hp3];rfl]
  rfl
theorem owns_mono {w:World} {base base' e size:Nat} {v:Value} {n:Nat} {xs:List Value} (h:w.ownsRow base e size v n xs) (hb:base'≤base):w.ownsRow base' e size v n xs:=by
 refine ⟨h.1,?_⟩
 rcases h.2 with h2 | ⟨g,cap,cur,hv,hg,hh,hr⟩
 ·exact .inl h2
 ·exact .inr ⟨g,cap,cur,hv,Nat.le_trans hb hg,hh,hr⟩
theorem owns_put {w:World} {base e size:Nat} {v:Value} {n:Nat} {xs:List Value} (h:w.ownsRow base e size v n xs) {b:Nat} (hb:b<base) (x:Ev) (g:Value):(putE w b x g).ownsRow base e size v n xs :=
 owns_far (owns_far (owns_far (owns_far (owns_far (owns_far (owns_far (owns_far (owns_far (owns_far (owns_far h hb _) hb _) hb _) hb _) hb _) hb _) hb _) hb _) hb _) hb _) hb _
set_option maxRecDepth 100000 in
set_option maxHeartbeats 4000000 in
theorem parse_try (s:ByteArray) (w:World) (hs:s.size<4294960000) (hg:GlN w):Calls Tryz.prog 41 #[.string s] w (RetE s.data.toList w):=by
 have hb0:Below w.heap.size w (w.alloc (.cells (ecells (ev0 0) (.slice none 0 0)) 33)):=(Below.refl _ w).alloc (Nat.le_refl _) _
 have hSp:=splitOk s 32 (w.alloc (.cells (ecells (ev0 0) (.slice none 0 0)) 33)) (by omega) (hg.toGl.below hb0)
 have hF:=fun W=>forms_ok W
 have hpw:=fun W2 L=>@PW.first w (w.alloc (.cells (ecells (ev0 0) (.slice none 0 0)) 33)) W2 L
 unfold ecells ev0 at hSp hpw
 generalize hL:splitL 32 s.data.toList=L at *
 go_enter Tryz.func41,Tryz.ntmps41
 go_wp2_with (go_at_call 43;refine hSp.mono ?_)
 rintro e W2 ⟨rfl,b1,hr,hlt⟩
 have hp:=hpw W2 L b1 trivial hr hlt
 have hg2:GlN W2:=(hg.below hb0).below b1
 clear hpw b1 hr hlt hSp hb0
 generalize (w.alloc (.cells #[.int .i64 0,.string ⟨#[]⟩,.string ⟨#[]⟩,.int .i64 0,.string ⟨#[]⟩,.int .i64 0,.string ⟨#[]⟩,.string ⟨#[]⟩,.int .i64 0,.int .i64 0,.slice none 0 0] 33)).heap.size=S at *
 have hg3:GlN (W2.alloc (.cells #[.slice (some ⟨S,0,none⟩) L.length L.length] 60)):=hg2.below ((Below.refl _ W2).alloc (Nat.le_refl _) _)
 generalize hn:L.length=n at *
 go_wp2_with (go_at_call 35;refine (hF _).mono ?_)
 generalize W2.alloc (.cells #[.slice (some ⟨S,0,none⟩) n n] 60)=W3 at *
 generalize W2.heap.size=V at *
 rintro e W4 ⟨rfl,b4,hfr,hlt4⟩
 have hp4:=hp.step b4
 have hFV:V<W3.heap.size:=hp.ltV
 have hg4:=hg3.below b4
 clear hp b4 hg3 hg2
 generalize W3.heap.size=F at *
 obtain ⟨v,ws,hvw⟩:∃ v ws,L=v :: ws:=by rw [← hL];exact splitL_cons _ _
 have hnp:0<n:=by rw [← hn,hvw];simp
 have hwv:WVar W4 V S n n v:=⟨hp4.var,by have:=hp4.row 0 (by rw [hn];exact hnp);rw [hvw] at this;exact this,hp4.ltV,Nat.lt_trans hp4.ltS hp4.ltV⟩
 have hI:=index_ok F V S n n v W4 hnp hlt4 hfr hwv
 have HL:=Lib.hid hL
 have HN:=Lib.hid hn
 have HV:=Lib.hid hvw
 clear hL hn hvw
 go_wp2_with (go_at_call 36;refine hI.mono ?_)
 rintro e W5 ⟨rfl,b5⟩
 have hp5:=hp4.step b5
 have hfr5:=hfr.below hlt4 b5
 have hg5:=hg4.below b5
 have hF5:=Nat.lt_of_lt_of_le hlt4 b5.size
 clear hp4 hfr b5 hg4 hlt4 hwv hI hF
 rcases idxF_go v 21 0 rfl with ⟨hi,hfd⟩ | ⟨i,hi21,hi,hfd⟩
 ·rw [hi]
  have hres:lineS s.data.toList=none:=by rw [lineS_at HL.out HV.out];rw [List.drop_zero] at hfd;rw [hfd];rfl
  have HR:=Lib.hid hres
  have d:=hp5.res
  have d0:=d.c0
  have d1:=d.c1
  have d2:=d.c2
  have d3:=d.c3
  have d4:=d.c4
  have d5:=d.c5
  have d6:=d.c6
  have d7:=d.c7
  have d8:=d.c8
  have d9:=d.c9
  have d10:=d.c10
  have f0:=d.fr 0 (by decide)
  have f1:=d.fr 1 (by decide)
  have f2:=d.fr 2 (by decide)
  have f3:=d.fr 3 (by decide)
  have f4:=d.fr 4 (by decide)
  have f5:=d.fr 5 (by decide)
  have f6:=d.fr 6 (by decide)
  have f7:=d.fr 7 (by decide)
  have f8:=d.fr 8 (by decide)
  have f9:=d.fr 9 (by decide)
  have f10:=d.fr 10 (by decide)
  clear hi hfd hres d
  go_wp2
  have hF:=hp5.res.put (ev0 0) (.slice none 0 0)
  have hB:=putE_below w _ _ (ev0 0) (.slice none 0 0) hp5.below
  unfold putE at hF hB
  simp only [ev0] at hF hB
  have e0:=hF.c0
  have e1:=hF.c1
  have e2:=hF.c2
  have e3:=hF.c3
  have e4:=hF.c4
  have e5:=hF.c5
  have e6:=hF.c6
  have e7:=hF.c7
  have e8:=hF.c8
  have e9:=hF.c9
  have e10:=hF.c10
  exact bodyPost_ret (v:=.tuple #[evV (ev0 0) (.slice none 0 0),.bool false]) (by simp [results,Tryz.results41,go_sem,e0,e1,e2,e3,e4,e5,e6,e7,e8,e9,e10,evV,ecells,ev0]) rfl ⟨hB,.inl ⟨HR.out,_,_,_,_,rfl⟩⟩
 ·rw [hi]
  rw [List.drop_zero] at hfd
  have hlin:lineS s.data.toList=byForm (formAt i) ws:=by rw [lineS_at HL.out HV.out,hfd];rfl
  have HR:=Lib.hid hlin
  have c0:=hfr5.verb i hi21
  have c1:=hfr5.kinds i hi21
  have c2:=hfr5.kind i hi21
  rw [show 3 * i=i * 3 from by omega] at c0 c1 c2
  have v0:=hp5.var
  have v1:=hp5.frz
  have hVW:=hp5.ltV
  clear hlin hfd hi
  have hki:∀ W,FRow W F→W.cell? ⟨F,i * 3+1,none⟩=some (.string ⟨(kstr (formAt i)).toArray⟩):=fun W h=>by rw [show i * 3=3 * i from by omega];exact h.kinds i hi21
  have hcs:=Tryz.strings_CutSuffix ⟨(kstr (formAt i)).toArray⟩ ⟨#[42]⟩
  have hka:=kstrAt i hi21
  obtain ⟨ha1,ha2,ha3,ha4⟩:=hka
  have e1:Lib.trimSuffix (⟨(kstr (formAt i)).toArray⟩:ByteArray).data.toList (⟨#[42]⟩:ByteArray).data.toList=(formAt i).kinds.map runeB:=ha1
  have e2:Lib.hasSuffix (⟨(kstr (formAt i)).toArray⟩:ByteArray).data.toList (⟨#[42]⟩:ByteArray).data.toList=(formAt i).many:=ha2
  rw [e1,e2] at hcs
  have hsz:(⟨(kstr (formAt i)).toArray⟩:ByteArray).size≤9223372036854775807:=by
   show (kstr (formAt i)).length≤_
   unfold kstr
   rw [List.length_append,List.length_map]
   split <;> simp <;> omega
  have hcs2:=fun W=>hcs W hsz
  clear hcs hsz e1 e2 ha1 ha2
  have HA3:=Lib.hid ha3
  clear ha3
  generalize formAt i=f at *
  generalize hkd:f.kind=kd at *
  generalize hks:kstr f=ks at *
  have HK:=Lib.hid hkd
  have HS:=Lib.hid hks
  clear hkd hks c0
  go_upto_region 8 with fail
  have ho:∃ o,(n=1∨o=1)∧(if n=1 then some (⟨S,0,none⟩:Addr) else some ⟨S,1,none⟩)=some ⟨S,o,none⟩:=by
   by_cases h1:n=1
   ·exact ⟨0,.inl h1,by rw [if_pos h1]⟩
   ·exact ⟨1,.inr rfl,by rw [if_neg h1]⟩
  obtain ⟨o,ho1,ho2⟩:=ho
  rw [ho2]
  have hE:=PE.first (kd:=kd) hp5 HV.out hfr5 hF5 hFV ho1
  unfold ecells ev0 at hE
  simp only at hE
  generalize (W5.setCell ⟨V,0,none⟩ (.slice (some ⟨S,o,none⟩) (n - 1) (n - 1))).alloc (.cells #[.int .i64 kd,.string ⟨#[]⟩,.string ⟨#[]⟩,.int .i64 0,.string ⟨#[]⟩,.int .i64 0,.string ⟨#[]⟩,.string ⟨#[]⟩,.int .i64 0,.int .i64 0,.slice none 0 0] 33)=W6 at *
  clear hp5 hfr5 hg5 hF5 c2 v0 v1 hVW ho2
  generalize W5.heap.size=E at *
  clear c1
  have c1:=hki W6 hE.frow
  clear hki
  go_wp2_with (go_at_call 64;refine (hcs2 _).mono ?_)
  rintro e W7 ⟨rfl,rfl⟩
  clear hcs2 c1
  have hlw:ws.length=n - 1:=hE.pw.len
  have hkl:(List.map runeB f.kinds).length=f.kinds.length:=List.length_map _
  have v0:=hE.pw.var
  generalize hmany:f.many=mn at *
  generalize hk:List.map runeB f.kinds=kb at *
  generalize n - 1=n1 at *
  have HK2:=Lib.hid hk
  have HM:=Lib.hid hmany
  clear hk hmany
  cases hco:countOk f ws with
  | false =>
   have hres:lineS s.data.toList=none:=by rw [HR.out];exact byForm_count hco
   have HZ:=Lib.hid hres
   clear hres
   unfold countOk at hco
   rw [HM.out] at hco
   have d:=hE.pw.res
   have d0:=d.c0
   have d1:=d.c1
   have d2:=d.c2
   have d3:=d.c3
   have d4:=d.c4
   have d5:=d.c5
   have d6:=d.c6
   have d7:=d.c7
   have d8:=d.c8
   have d9:=d.c9
   have d10:=d.c10
   have f0:=d.fr 0 (by decide)
   have f1:=d.fr 1 (by decide)
   have f2:=d.fr 2 (by decide)
   have f3:=d.fr 3 (by decide)
   have f4:=d.fr 4 (by decide)
   have f5:=d.fr 5 (by decide)
   have f6:=d.fr 6 (by decide)
   have f7:=d.fr 7 (by decide)
   have f8:=d.fr 8 (by decide)
   have f9:=d.fr 9 (by decide)
   have f10:=d.fr 10 (by decide)
   clear d
   by_cases h1:n1<kb.length
   ·clear hco hlw hkl
    go_wp2
    have hF:=hE.pw.res.put (ev0 0) (.slice none 0 0)
    have hB:=putE_below w _ _ (ev0 0) (.slice none 0 0) hE.pw.below
    unfold putE at hF hB
    simp only [ev0] at hF hB
    have e0:=hF.c0
    have e1:=hF.c1
    have e2:=hF.c2
    have e3:=hF.c3
    have e4:=hF.c4
    have e5:=hF.c5
    have e6:=hF.c6
    have e7:=hF.c7
    have e8:=hF.c8
    have e9:=hF.c9
    have e10:=hF.c10
    exact bodyPost_ret (v:=.tuple #[evV (ev0 0) (.slice none 0 0),.bool false]) (by simp [results,Tryz.results41,go_sem,e0,e1,e2,e3,e4,e5,e6,e7,e8,e9,e10,evV,ecells,ev0]) rfl ⟨hB,.inl ⟨HZ.out,_,_,_,_,rfl⟩⟩
   ·have h2:mn=false∧kb.length<n1:=by
     rw [hlw,← hkl,decide_eq_true (show kb.length≤n1 by omega),Bool.true_and] at hco
     cases mn with
     | true=>cases hco
     | false=>rw [Bool.false_or,decide_eq_false_iff_not] at hco;exact ⟨rfl,by omega⟩
    obtain ⟨rfl,h3⟩:=h2
    clear hco hlw hkl
    go_wp2
    have hF:=hE.pw.res.put (ev0 0) (.slice none 0 0)
    have hB:=putE_below w _ _ (ev0 0) (.slice none 0 0) hE.pw.below
    unfold putE at hF hB
    simp only [ev0] at hF hB
    have e0:=hF.c0
    have e1:=hF.c1
    have e2:=hF.c2
    have e3:=hF.c3
    have e4:=hF.c4
    have e5:=hF.c5
    have e6:=hF.c6
    have e7:=hF.c7
    have e8:=hF.c8
    have e9:=hF.c9
    have e10:=hF.c10
    exact bodyPost_ret (v:=.tuple #[evV (ev0 0) (.slice none 0 0),.bool false]) (by simp [results,Tryz.results41,go_sem,e0,e1,e2,e3,e4,e5,e6,e7,e8,e9,e10,evV,ecells,ev0]) rfl ⟨hB,.inl ⟨HZ.out,_,_,_,_,rfl⟩⟩
  | true =>
   unfold countOk at hco
   rw [HM.out,hlw,← hkl] at hco
   have hle:kb.length≤n1:=by
    by_cases h:kb.length≤n1
    ·exact h
    ·rw [decide_eq_false h] at hco;cases hco
   have hWE:=hE.evt.lt
   have hwl:∀ j,(⟨(ws.getD j []).toArray⟩:ByteArray).size<4294960000:=fun j=>by
    show (ws.getD j []).length<_
    have h1:=splitL_at 32 s.data.toList (j+1)
    rw [HL.out,HV.out,List.getD_cons_succ] at h1
    rw [size_len] at hs
    omega
   have h0:LRel w V S o n1 ws F E f kb W7.heap.size 0 (W7.iter ⟨kb.toArray⟩ 0):=LRel.first hE HK.out
   cases mn with
   | false =>
    have hn1:n1=kb.length:=by
     rw [decide_eq_true hle,Bool.true_and,Bool.false_or,decide_eq_true_iff] at hco;omega
    clear hco hle
    go_wp2
    go_loopw [10,11] (fun _ _ wr=>∃ pos,pos≤kb.length∧LRel w V S o n1 ws F E f kb W7.heap.size pos wr) (fun _ _ wr=>kb.length - wr.iterPos W7.heap.size)
    case atStart=>exact ⟨0,Nat.zero_le _,h0⟩
    case round =>
     obtain ⟨pos,hpos,hI⟩:=hrel
     by_cases hlt:pos<kb.length
     ·obtain ⟨ev,fld,wi,hmem,hnx,hP,hit,hEI,hIw,hfl,hhi⟩:=hI.at HK2.out hlt (by omega)
      have hc:=hP.pw.row pos (by omega)
      have hv:=hP.pw.var
      have hfill:=fill_ok fld (HA3.out _ hmem) E ev (.slice none 0 0) ⟨(ws.getD pos []).toArray⟩ wi (hwl pos) (hg.below hP.pw.below) hP.evt
      change Calls Tryz.prog 65 _ wi (RetF (.bool (fillB fld (ws.getD pos []))) E (fillE ev fld (ws.getD pos [])) _ wi) at hfill
      have hfw:=fillW_eq ev fld (ws.getD pos [])
      have hit0:=hI.iter
      clear hI h0 hmem v0
      cases hok:fillB fld (ws.getD pos []) with
      | false =>
       rw [hok,if_neg Bool.false_ne_true] at hfw
       rw [hfw] at hfl
       rw [hok] at hfill
       have hres:lineS s.data.toList=none:=by rw [HR.out];unfold byForm;rw [hfl];rfl
       have HZ:=Lib.hid hres
       clear hres hfl hfw hok hlw hkl
       generalize ws.getD pos []=x at *
       generalize runeF fld=rn at *
       go_wp2_with (go_at_call 65;refine hfill.mono ?_)
       rintro e W8 ⟨rfl,b8,he8,_⟩
       have hP8:=hP.step b8 he8
       clear hfill hP hc hv b8 he8
       have d:=hP8.pw.res
       have d0:=d.c0
       have d1:=d.c1
       have d2:=d.c2
       have d3:=d.c3
       have d4:=d.c4
       have d5:=d.c5
       have d6:=d.c6
       have d7:=d.c7
       have d8:=d.c8
       have d9:=d.c9
       have d10:=d.c10
       have f0:=d.fr 0 (by decide)
       have f1:=d.fr 1 (by decide)
       have f2:=d.fr 2 (by decide)
       have f3:=d.fr 3 (by decide)
       have f4:=d.fr 4 (by decide)
       have f5:=d.fr 5 (by decide)
       have f6:=d.fr 6 (by decide)
       have f7:=d.fr 7 (by decide)
       have f8:=d.fr 8 (by decide)
       have f9:=d.fr 9 (by decide)
       have f10:=d.fr 10 (by decide)
       clear d
       go_wp2
       have hF:=hP8.pw.res.put (ev0 0) (.slice none 0 0)
       have hB:=putE_below w _ _ (ev0 0) (.slice none 0 0) hP8.pw.below
       unfold putE at hF hB
       simp only [ev0] at hF hB
       have e0:=hF.c0
       have e1:=hF.c1
       have e2:=hF.c2
       have e3:=hF.c3
       have e4:=hF.c4
       have e5:=hF.c5
       have e6:=hF.c6
       have e7:=hF.c7
       have e8:=hF.c8
       have e9:=hF.c9
       have e10:=hF.c10
       exact bodyPost_ret (v:=.tuple #[evV (ev0 0) (.slice none 0 0),.bool false]) (by simp [results,Tryz.results41,go_sem,e0,e1,e2,e3,e4,e5,e6,e7,e8,e9,e10,evV,ecells,ev0]) rfl ⟨hB,.inl ⟨HZ.out,_,_,_,_,rfl⟩⟩
      | true =>
       rw [hok,if_pos rfl] at hfw
       rw [hfw,Option.bind_some] at hfl
       rw [hok] at hfill
       have hhi2:=(fillE_hist ev fld (ws.getD pos [])).trans hhi
       have HF:=Lib.hid hfl
       have HW:=Lib.hid hlw
       have HKL:=Lib.hid hkl
       clear hfl hfw hok hlw hkl
       generalize fillE ev fld (ws.getD pos [])=ev' at *
       generalize ws.getD pos []=x at *
       generalize runeF fld=rn at *
       go_wp2_with (go_at_call 65;refine hfill.mono ?_)
       rintro e W8 ⟨rfl,b8,he8,k8⟩
       have hP8:=hP.step b8 he8
       have hit8:=(k8.block _ hIw (by omega)).trans hit
       clear hfill hP hc hv b8 he8 k8
       go_wp2
       go_roundw
       case rel=>exact ⟨pos+1,by omega,hit8,hEI,ev',hP8,HF.out,hhi2⟩
       case measure=>simp only [World.iterPos,hit8,hit0];omega
     ·have hpk:pos=kb.length:=by omega
      subst hpk
      have hnx:=fun ty=>Lib.run_next_end_at (P:=Tryz.prog) wr W7.heap.size ⟨kb.toArray⟩ kb.length ty hI.iter (by show ¬ kb.length<kb.length;omega)
      obtain ⟨ev,hP,hfl,hhi⟩:=hI.ev
      rw [List.drop_eq_nil_of_le (by omega),List.drop_eq_nil_of_le (by omega)] at hfl
      have hres:lineS s.data.toList=some ev:=by rw [HR.out];unfold byForm;rw [hfl,HM.out];rfl
      have HZ:=Lib.hid hres
      clear hres hfl hI h0 hlw hkl v0
      have q:=hP.evt
      have q0:=q.c0
      have q1:=q.c1
      have q2:=q.c2
      have q3:=q.c3
      have q4:=q.c4
      have q5:=q.c5
      have q6:=q.c6
      have q7:=q.c7
      have q8:=q.c8
      have q9:=q.c9
      have q10:=q.c10
      have d:=hP.pw.res
      have d0:=d.c0
      have d1:=d.c1
      have d2:=d.c2
      have d3:=d.c3
      have d4:=d.c4
      have d5:=d.c5
      have d6:=d.c6
      have d7:=d.c7
      have d8:=d.c8
      have d9:=d.c9
      have d10:=d.c10
      have f0:=d.fr 0 (by decide)
      have f1:=d.fr 1 (by decide)
      have f2:=d.fr 2 (by decide)
      have f3:=d.fr 3 (by decide)
      have f4:=d.fr 4 (by decide)
      have f5:=d.fr 5 (by decide)
      have f6:=d.fr 6 (by decide)
      have f7:=d.fr 7 (by decide)
      have f8:=d.fr 8 (by decide)
      have f9:=d.fr 9 (by decide)
      have f10:=d.fr 10 (by decide)
      clear d q
      go_wp2
      have hF:=hP.pw.res.put ev (.slice none 0 0)
      have hB:=putE_below w _ _ ev (.slice none 0 0) hP.pw.below
      unfold putE at hF hB
      have e0:=hF.c0
      have e1:=hF.c1
      have e2:=hF.c2
      have e3:=hF.c3
      have e4:=hF.c4
      have e5:=hF.c5
      have e6:=hF.c6
      have e7:=hF.c7
      have e8:=hF.c8
      have e9:=hF.c9
      have e10:=hF.c10
      exact bodyPost_ret (v:=.tuple #[evV ev (.slice none 0 0),.bool true]) (by simp [results,Tryz.results41,go_sem,e0,e1,e2,e3,e4,e5,e6,e7,e8,e9,e10,evV,ecells]) rfl ⟨hB,.inr ⟨ev,_,HZ.out,rfl,by rw [hhi];exact ⟨rfl,.inl ⟨rfl,rfl⟩⟩⟩⟩
   | true =>
    clear hco
    have hnl:¬ n1<f.kinds.length:=by omega
    go_wp2
    go_loopw [10,11] (fun _ _ wr=>∃ pos,pos≤kb.length∧LRel w V S o n1 ws F E f kb W7.heap.size pos wr) (fun _ _ wr=>kb.length - wr.iterPos W7.heap.size)
    case atStart=>exact ⟨0,Nat.zero_le _,h0⟩
    case round =>
     obtain ⟨pos,hpos,hI⟩:=hrel
     by_cases hlt:pos<kb.length
     ·obtain ⟨ev,fld,wi,hmem,hnx,hP,hit,hEI,hIw,hfl,hhi⟩:=hI.at HK2.out hlt (by omega)
      have hc:=hP.pw.row pos (by omega)
      have hv:=hP.pw.var
      have hfill:=fill_ok fld (HA3.out _ hmem) E ev (.slice none 0 0) ⟨(ws.getD pos []).toArray⟩ wi (hwl pos) (hg.below hP.pw.below) hP.evt
      change Calls Tryz.prog 65 _ wi (RetF (.bool (fillB fld (ws.getD pos []))) E (fillE ev fld (ws.getD pos [])) _ wi) at hfill
      have hfw:=fillW_eq ev fld (ws.getD pos [])
      have hit0:=hI.iter
      clear hI h0 hmem v0
      cases hok:fillB fld (ws.getD pos []) with
      | false =>
       rw [hok,if_neg Bool.false_ne_true] at hfw
       rw [hfw] at hfl
       rw [hok] at hfill
       have hres:lineS s.data.toList=none:=by rw [HR.out];unfold byForm;rw [hfl];rfl
       have HZ:=Lib.hid hres
       clear hres hfl hfw hok hlw hkl
       generalize ws.getD pos []=x at *
       generalize runeF fld=rn at *
       go_wp2_with (go_at_call 65;refine hfill.mono ?_)
       rintro e W8 ⟨rfl,b8,he8,_⟩
       have hP8:=hP.step b8 he8
       clear hfill hP hc hv b8 he8
       have d:=hP8.pw.res
       have d0:=d.c0
       have d1:=d.c1
       have d2:=d.c2
       have d3:=d.c3
       have d4:=d.c4
       have d5:=d.c5
       have d6:=d.c6
       have d7:=d.c7
       have d8:=d.c8
       have d9:=d.c9
       have d10:=d.c10
       have f0:=d.fr 0 (by decide)
       have f1:=d.fr 1 (by decide)
       have f2:=d.fr 2 (by decide)
       have f3:=d.fr 3 (by decide)
       have f4:=d.fr 4 (by decide)
       have f5:=d.fr 5 (by decide)
       have f6:=d.fr 6 (by decide)
       have f7:=d.fr 7 (by decide)
       have f8:=d.fr 8 (by decide)
       have f9:=d.fr 9 (by decide)
       have f10:=d.fr 10 (by decide)
       clear d
       go_wp2
       have hF:=hP8.pw.res.put (ev0 0) (.slice none 0 0)
       have hB:=putE_below w _ _ (ev0 0) (.slice none 0 0) hP8.pw.below
       unfold putE at hF hB
       simp only [ev0] at hF hB
       have e0:=hF.c0
       have e1:=hF.c1
       have e2:=hF.c2
       have e3:=hF.c3
       have e4:=hF.c4
       have e5:=hF.c5
       have e6:=hF.c6
       have e7:=hF.c7
       have e8:=hF.c8
       have e9:=hF.c9
       have e10:=hF.c10
       exact bodyPost_ret (v:=.tuple #[evV (ev0 0) (.slice none 0 0),.bool false]) (by simp [results,Tryz.results41,go_sem,e0,e1,e2,e3,e4,e5,e6,e7,e8,e9,e10,evV,ecells,ev0]) rfl ⟨hB,.inl ⟨HZ.out,_,_,_,_,rfl⟩⟩
      | true =>
       rw [hok,if_pos rfl] at hfw
       rw [hfw,Option.bind_some] at hfl
       rw [hok] at hfill
       have hhi2:=(fillE_hist ev fld (ws.getD pos [])).trans hhi
       have HF:=Lib.hid hfl
       have HW:=Lib.hid hlw
       have HKL:=Lib.hid hkl
       clear hfl hfw hok hlw hkl
       generalize fillE ev fld (ws.getD pos [])=ev' at *
       generalize ws.getD pos []=x at *
       generalize runeF fld=rn at *
       go_wp2_with (go_at_call 65;refine hfill.mono ?_)
       rintro e W8 ⟨rfl,b8,he8,k8⟩
       have hP8:=hP.step b8 he8
       have hit8:=(k8.block _ hIw (by omega)).trans hit
       clear hfill hP hc hv b8 he8 k8
       go_wp2
       go_roundw
       case rel=>exact ⟨pos+1,by omega,hit8,hEI,ev',hP8,HF.out,hhi2⟩
       case measure=>simp only [World.iterPos,hit8,hit0];omega
     ·have hpk:pos=kb.length:=by omega
      subst hpk
      have hnx:=fun ty=>Lib.run_next_end_at (P:=Tryz.prog) wr W7.heap.size ⟨kb.toArray⟩ kb.length ty hI.iter (by show ¬ kb.length<kb.length;omega)
      obtain ⟨ev,hP,hfl,hhi⟩:=hI.ev
      have v9:=hP.pw.var
      clear hI h0 v0
      have hVE:S<E:=Nat.lt_trans hP.pw.ltS (Nat.lt_trans hP.ltF hP.ltE)
      have hRE:w.heap.size<E:=Nat.lt_trans hP.pw.ltR hVE
      have hDl:(ws.drop f.kinds.length).length=n1 - f.kinds.length:=by rw [List.length_drop,hlw]
      have hDj:∀ j,(ws.drop f.kinds.length).getD j []=ws.getD (f.kinds.length+j) []:=fun j=>by
       rw [List.getD_eq_getElem?_getD,List.getElem?_drop,← List.getD_eq_getElem?_getD]
      have hws:ws.length<4294960001:=by
       have h1:=splitL_len 32 s.data.toList
       rw [HL.out,HV.out,List.length_cons,← size_len] at h1
       omega
      have hfl2:=hfl
      rw [List.drop_eq_nil_of_le (by omega)] at hfl2
      by_cases hq1:n1=kb.length
      ·have hIm:=imported_ok S o 0 [] E ev wr hVE (by decide) (fun j=>by simp) (fun j hj=>by cases hj) hP.evt
       have hres:lineS s.data.toList=none:=by
        rw [HR.out];unfold byForm;rw [hfl2,HM.out,List.drop_eq_nil_of_le (by omega)];rfl
       have HZ:=Lib.hid hres
       subst hq1
       have hz0:kb.length - kb.length=0:=Nat.sub_self _
       clear hres hfl hfl2 hDl hDj hws hkl hlw hnl hwl
       go_wp2_with (go_at_call 66;refine hIm.mono ?_)
       rintro e W9 (⟨rfl,b9,⟨A,m,c,he9⟩,_⟩ | ⟨_,hpos9,_⟩)
       ·have hr9:=hP.pw.res.below hRE b9
        have hB9:=hP.pw.below.trans (b9.mono (Nat.le_of_lt hRE))
        have q0:=he9.c0
        have q1:=he9.c1
        have q2:=he9.c2
        have q3:=he9.c3
        have q4:=he9.c4
        have q5:=he9.c5
        have q6:=he9.c6
        have q7:=he9.c7
        have q8:=he9.c8
        have q9:=he9.c9
        have q10:=he9.c10
        have d0:=hr9.c0
        have d1:=hr9.c1
        have d2:=hr9.c2
        have d3:=hr9.c3
        have d4:=hr9.c4
        have d5:=hr9.c5
        have d6:=hr9.c6
        have d7:=hr9.c7
        have d8:=hr9.c8
        have d9:=hr9.c9
        have d10:=hr9.c10
        have f0:=hr9.fr 0 (by decide)
        have f1:=hr9.fr 1 (by decide)
        have f2:=hr9.fr 2 (by decide)
        have f3:=hr9.fr 3 (by decide)
        have f4:=hr9.fr 4 (by decide)
        have f5:=hr9.fr 5 (by decide)
        have f6:=hr9.fr 6 (by decide)
        have f7:=hr9.fr 7 (by decide)
        have f8:=hr9.fr 8 (by decide)
        have f9:=hr9.fr 9 (by decide)
        have f10:=hr9.fr 10 (by decide)
        clear hP
        go_wp2
        have hF:=hr9.put ev (.slice A m c)
        have hB:=putE_below w _ _ ev (.slice A m c) hB9
        unfold putE at hF hB
        have e0:=hF.c0
        have e1:=hF.c1
        have e2:=hF.c2
        have e3:=hF.c3
        have e4:=hF.c4
        have e5:=hF.c5
        have e6:=hF.c6
        have e7:=hF.c7
        have e8:=hF.c8
        have e9:=hF.c9
        have e10:=hF.c10
        exact bodyPost_ret (v:=.tuple #[evV ev (.slice A m c),.bool false]) (by simp [results,Tryz.results41,go_sem,e0,e1,e2,e3,e4,e5,e6,e7,e8,e9,e10,evV,ecells]) rfl ⟨hB,.inl ⟨HZ.out,_,_,_,_,rfl⟩⟩
       ·exact absurd hpos9 (by decide)
      ·have hrw:RowO wr S (o+kb.length) (ws.drop f.kinds.length):=fun j hj=>by
        rw [hDl] at hj
        rw [hDj,Nat.add_assoc,hkl]
        exact hP.pw.row (f.kinds.length+j) (by omega)
       have hIm:=imported_ok S (o+kb.length) (n1 - kb.length) (ws.drop f.kinds.length) E ev wr hVE (by rw [hDl];omega) (fun j=>by rw [hDj];exact hwl _) hrw hP.evt
       rw [hDl,← hkl] at hIm
       rw [← hkl] at hDl hDj
       have hD0:ws.drop kb.length≠[]:=fun h=>by rw [← hkl] at *;rw [h] at hDl;simp at hDl;omega
       have hwr:w.heap.size<wr.heap.size:=Nat.lt_trans hRE hP.evt.lt
       generalize hD:ws.drop kb.length=D at *
       have HFL:=Lib.hid hfl2
       have HDL:=Lib.hid hDl
       clear hfl hfl2 hDl hDj hrw hws hkl hlw hnl hwl hD
       go_wp2_with (go_at_call 66;refine hIm.mono ?_)
       rintro e W9 (⟨rfl,b9,⟨A,m,c,he9⟩,hbad⟩ | ⟨rfl,hpos9,hv9,hI9⟩)
       ·have hr9:=hP.pw.res.below hRE b9
        have hB9:=hP.pw.below.trans (b9.mono (Nat.le_of_lt hRE))
        have hres:lineS s.data.toList=none:=by
         rw [HR.out];unfold byForm;rw [HFL.out,HM.out]
         show closes true (ev,D)=none
         unfold closes
         rw [if_pos rfl,if_neg hD0]
         rcases hbad with h | h
         ·exact absurd h hD0
         ·rw [revs_bad _ _ _ h];rfl
        have HZ:=Lib.hid hres
        clear hres hbad hIm hD0 HDL
        have q0:=he9.c0
        have q1:=he9.c1
        have q2:=he9.c2
        have q3:=he9.c3
        have q4:=he9.c4
        have q5:=he9.c5
        have q6:=he9.c6
        have q7:=he9.c7
        have q8:=he9.c8
        have q9:=he9.c9
        have q10:=he9.c10
        have d0:=hr9.c0
        have d1:=hr9.c1
        have d2:=hr9.c2
        have d3:=hr9.c3
        have d4:=hr9.c4
        have d5:=hr9.c5
        have d6:=hr9.c6
        have d7:=hr9.c7
        have d8:=hr9.c8
        have d9:=hr9.c9
        have d10:=hr9.c10
        have f0:=hr9.fr 0 (by decide)
        have f1:=hr9.fr 1 (by decide)
        have f2:=hr9.fr 2 (by decide)
        have f3:=hr9.fr 3 (by decide)
        have f4:=hr9.fr 4 (by decide)
        have f5:=hr9.fr 5 (by decide)
        have f6:=hr9.fr 6 (by decide)
        have f7:=hr9.fr 7 (by decide)
        have f8:=hr9.fr 8 (by decide)
        have f9:=hr9.fr 9 (by decide)
        have f10:=hr9.fr 10 (by decide)
        clear hP
        go_wp2
        have hF:=hr9.put ev (.slice A m c)
        have hB:=putE_below w _ _ ev (.slice A m c) hB9
        unfold putE at hF hB
        have e0:=hF.c0
        have e1:=hF.c1
        have e2:=hF.c2
        have e3:=hF.c3
        have e4:=hF.c4
        have e5:=hF.c5
        have e6:=hF.c6
        have e7:=hF.c7
        have e8:=hF.c8
        have e9:=hF.c9
        have e10:=hF.c10
        exact bodyPost_ret (v:=.tuple #[evV ev (.slice A m c),.bool false]) (by simp [results,Tryz.results41,go_sem,e0,e1,e2,e3,e4,e5,e6,e7,e8,e9,e10,evV,ecells]) rfl ⟨hB,.inl ⟨HZ.out,_,_,_,_,rfl⟩⟩
       ·have b9:=hI9.below
        have he9:=hI9.evt
        have ho9:=hI9.own
        have hr9:=hP.pw.res.below hRE b9
        have hB9:=hP.pw.below.trans (b9.mono (Nat.le_of_lt hRE))
        obtain ⟨A,m,c,rfl⟩:=owns_slice ho9
        have hres:lineS s.data.toList=some { ev with hist:=revsTo ev.user D D.length }:=by
         rw [HR.out];unfold byForm;rw [HFL.out,HM.out]
         show closes true (ev,D)=_
         unfold closes
         rw [if_pos rfl,if_neg hD0,revs_ok ev.user D 0 hI9.ok]
         simp only [Nat.zero_add];rfl
        have ho10:=owns_mono (owns_put ho9 hwr ev (.slice A m c)) (Nat.le_of_lt hwr)
        have hl10:(revsTo ev.user D D.length).length=D.length:=by simp [revsTo]
        have ho11:(putE W9 w.heap.size ev (.slice A m c)).ownsRow w.heap.size 66 6 (.slice A m c) (revsTo ev.user D D.length).length (hcells (revsTo ev.user D D.length)):=by rw [hl10];exact ho10
        have HZ:=Lib.hid hres
        have HO:=Lib.hid ho11
        clear hres hIm hD0 HDL ho9 ho10 ho11 hl10 hI9 b9 hpos9
        have q0:=he9.c0
        have q1:=he9.c1
        have q2:=he9.c2
        have q3:=he9.c3
        have q4:=he9.c4
        have q5:=he9.c5
        have q6:=he9.c6
        have q7:=he9.c7
        have q8:=he9.c8
        have q9:=he9.c9
        have q10:=he9.c10
        have d0:=hr9.c0
        have d1:=hr9.c1
        have d2:=hr9.c2
        have d3:=hr9.c3
        have d4:=hr9.c4
        have d5:=hr9.c5
        have d6:=hr9.c6
        have d7:=hr9.c7
        have d8:=hr9.c8
        have d9:=hr9.c9
        have d10:=hr9.c10
        have f0:=hr9.fr 0 (by decide)
        have f1:=hr9.fr 1 (by decide)
        have f2:=hr9.fr 2 (by decide)
        have f3:=hr9.fr 3 (by decide)
        have f4:=hr9.fr 4 (by decide)
        have f5:=hr9.fr 5 (by decide)
        have f6:=hr9.fr 6 (by decide)
        have f7:=hr9.fr 7 (by decide)
        have f8:=hr9.fr 8 (by decide)
        have f9:=hr9.fr 9 (by decide)
        have f10:=hr9.fr 10 (by decide)
        clear hP
        go_wp2
        have hF:=hr9.put ev (.slice A m c)
        have hB:=putE_below w _ _ ev (.slice A m c) hB9
        unfold putE at hF hB
        have e0:=hF.c0
        have e1:=hF.c1
        have e2:=hF.c2
        have e3:=hF.c3
        have e4:=hF.c4
        have e5:=hF.c5
        have e6:=hF.c6
        have e7:=hF.c7
        have e8:=hF.c8
        have e9:=hF.c9
        have e10:=hF.c10
        exact bodyPost_ret (v:=.tuple #[evV ev (.slice A m c),.bool true]) (by simp [results,Tryz.results41,go_sem,e0,e1,e2,e3,e4,e5,e6,e7,e8,e9,e10,evV,ecells]) rfl ⟨hB,.inr ⟨{ ev with hist:=revsTo ev.user D D.length },_,HZ.out,rfl,HO.out⟩⟩
end Go.Proofs
