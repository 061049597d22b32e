/- A part of the proof: Xc, Xd, Gj -/
import Derived.Test.YtimfnccfnefajaaGreatDoorVWj
set_option linter.unusedSimpArgs false
set_option linter.unusedVariables false
namespace Go.Proofs
open Go.RowKit Go.Sp
theorem info9:(Tryz.prog.info? 9).map (fun i=>(i.zero,i.size,i.bytes))=some (some (.string ⟨#[]⟩),1,16):=by kernel_rfl
theorem und60:Tryz.prog.underlying 60=some (.slice 9):=by kernel_rfl
def strs (L:List Bs):List Value:=L.map fun s=>Value.string ⟨s.toArray⟩
theorem strs_snoc (L:List Bs) (x:Bs):strs (L ++ [x])=strs L ++ [.string ⟨x.toArray⟩]:=by simp [strs]
structure FmR (w wr:World) (e:Ev) (h v:Value) (L:List Bs):Prop where
 below:Below w.heap.size w wr
 evt:EBlk wr w.heap.size e h
 row:wr.ownsRow (w.heap.size+1) 9 1 v L.length (strs L)
theorem FmR.step {w wr w':World} {e:Ev} {h v:Value} {L:List Bs} (k:FmR w wr e h v L) (x:Below wr.heap.size wr w'):FmR w w' e h v L :=
 ⟨k.below.trans (x.mono k.below.size),k.evt.below k.evt.lt x,owns_below k.row x⟩
theorem FmR.lt {w wr:World} {e:Ev} {h v:Value} {L:List Bs} (k:FmR w wr e h v L):w.heap.size+1≤wr.heap.size:=k.evt.lt
theorem EBlk.keep {w w':World} {b:Nat} {e:Ev} {h:Value} (k:EBlk w b e h) (hb:w'.heap[b]? = w.heap[b]?) (hs:w.heap.size≤w'.heap.size):EBlk w' b e h :=
 ⟨(World.cell?_of_block (a:=⟨b,0,none⟩) hb).trans k.c0,(World.cell?_of_block (a:=⟨b,1,none⟩) hb).trans k.c1,(World.cell?_of_block (a:=⟨b,2,none⟩) hb).trans k.c2,(World.cell?_of_block (a:=⟨b,3,none⟩) hb).trans k.c3,(World.cell?_of_block (a:=⟨b,4,none⟩) hb).trans k.c4,(World.cell?_of_block (a:=⟨b,5,none⟩) hb).trans k.c5,(World.cell?_of_block (a:=⟨b,6,none⟩) hb).trans k.c6,(World.cell?_of_block (a:=⟨b,7,none⟩) hb).trans k.c7,(World.cell?_of_block (a:=⟨b,8,none⟩) hb).trans k.c8,(World.cell?_of_block (a:=⟨b,9,none⟩) hb).trans k.c9,(World.cell?_of_block (a:=⟨b,10,none⟩) hb).trans k.c10,fun j hj=>(World.frozen?_of_block (a:=⟨b,j,none⟩) hb).trans (k.fr j hj),Nat.lt_of_lt_of_le k.lt hs⟩
theorem FmR.push {w W w1:World} {e:Ev} {h v v1:Value} {L:List Bs} {o:Obj} {x:Bs} (k:FmR w W e h v L) (hown:w1.ownsRow (w.heap.size+1) 9 1 v1 (L.length+1) (strs L ++ [.string ⟨x.toArray⟩])) (hg:(W.alloc o).grownBy w1 v.ownBlock):FmR w w1 e h v1 (L ++ [x]):=by
 have hx:Below (w.heap.size+1) W w1:=((Below.refl _ W).alloc k.lt o).grown hg (by have:=k.lt;simp;omega) (fun g hh=>owns_base k.row g hh)
 exact ⟨k.below.trans (hx.mono (Nat.le_succ _)),k.evt.keep (hx.block _ (Nat.lt_succ_self _)) hx.size,by rw [strs_snoc,List.length_append];exact hown⟩
theorem FmR.first {w W:World} {e:Ev} {h:Value} (x:Bs) (hb:Below w.heap.size w W) (he:EBlk W w.heap.size e h):FmR w (W.alloc (.cells #[.string ⟨x.toArray⟩] 9)) e h (.slice (some ⟨W.heap.size,0,none⟩) 1 1) [x]:=by
 have hx:Below W.heap.size W (W.alloc (.cells #[.string ⟨x.toArray⟩] 9)):=(Below.refl _ W).alloc (Nat.le_refl _) _
 refine ⟨hb.trans (hx.mono hb.size),he.below he.lt hx,rfl,.inr ⟨W.heap.size,1,#[.string ⟨x.toArray⟩],rfl,he.lt,?_,Nat.le_refl _,by unfold maxLen;omega,rfl,rfl⟩⟩
 exact heap_alloc_new W _
end Go.Proofs
namespace Go.Proofs
open Go.RowKit Go.Sp
def wordsAt (f:Sp.Form) (e:Ev) (pos:Nat):List Bs:=f.verb :: ((f.kinds.take pos).map (wordF e) ++ if f.kinds.length<pos then e.hist.map (fun r=>wr r.text) else [])
theorem wordsAt_zero (f:Sp.Form) (e:Ev):wordsAt f e 0=[f.verb]:=by simp [wordsAt]
theorem FmR.iter {w wr:World} {e:Ev} {h v:Value} {L:List Bs} (k:FmR w wr e h v L) {IT pos:Nat} {s:ByteArray} (hI:wr.heap[IT]? = some (.stringIter s pos)) (hl:w.heap.size<IT) (pos':Nat):FmR w (wr.iterAt IT s pos') e h v L:=by
 have ho:∀ j,j≠IT→(wr.iterAt IT s pos').heap[j]? = wr.heap[j]? := fun j hj=>Lib.iterAt_other _ _ _ _ _ hj
 refine ⟨Lib.below_iterAt k.below (Nat.le_of_lt hl) s pos',k.evt.keep (ho _ (by omega)) (by rw [Lib.iterAt_size];exact Nat.le_refl _),k.row.1,?_⟩
 rcases k.row.2 with h2 | ⟨g,cap,cur,hv,hb,hg,hr⟩
 ·exact .inl h2
 ·refine .inr ⟨g,cap,cur,hv,hb,(ho g ?_).trans hg,hr⟩
  rintro rfl
  rw [hI] at hg
  cases hg
structure FL (w:World) (e:Ev) (h:Value) (f:Sp.Form) (IT pos:Nat) (v:Value) (wr:World):Prop where
 iter:wr.heap[IT]? = some (.stringIter ⟨(kstr f).toArray⟩ pos)
 fm:FmR w wr e h v (wordsAt f e pos)
theorem FL.next {w wr:World} {e:Ev} {h v:Value} {f:Sp.Form} {IT pos:Nat} (k:FL w e h f IT pos v wr) (hl:w.heap.size<IT) {b:UInt8} (hb:(kstr f)[pos]? = some b) (ha:b.toNat<128) :
 ∃ wi,(∀ ty,(Instr.next (.pointer (some ⟨IT,0,none⟩)) true ty).run Tryz.prog wr=.ok (.tuple #[.bool true,.int .i64 pos,.int .i32 b.toNat]) wi)∧FmR w wi e h v (wordsAt f e pos)∧wi.heap[IT]? = some (.stringIter ⟨(kstr f).toArray⟩ (pos+1)):=by
 obtain ⟨hp,hq⟩:=List.getElem?_eq_some_iff.1 hb
 have hkb:(⟨(kstr f).toArray⟩:ByteArray)[pos]'(by show pos<(kstr f).length;exact hp)=b:=by
  show (kstr f).toArray[pos]'(by simpa using hp)=_
  simpa using hq
 have hnx:=fun ty=>Lib.run_next_ascii_at (P:=Tryz.prog) wr IT ⟨(kstr f).toArray⟩ pos ty k.iter (by show pos<(kstr f).length;exact hp) (by rw [hkb];exact ha)
 exact ⟨_,fun ty=>by rw [hnx ty,hkb],k.fm.iter k.iter hl _,Lib.iterAt_heap wr IT _ pos (pos+1) k.iter⟩
def RetM (e:Ev) (w:World) (en:Ending) (w':World):Prop:=Below w.heap.size w w'∧((∃ s,formatS e=some s∧en=.returned (.tuple #[.string ⟨s.toArray⟩,.int .i64 0]))∨(formatS e=none∧en=.returned (.tuple #[.string ⟨#[]⟩,.int .i64 7])))
theorem formAt_mem {i:Nat} (h:i<21):formAt i∈forms:=by
 unfold formAt
 rw [List.getD_eq_getElem?_getD,List.getElem?_eq_getElem (by exact h)]
 exact List.getElem_mem _
theorem FL.first {w W:World} {e:Ev} {h:Value} (f:Sp.Form) (hb:Below w.heap.size w W) (he:EBlk W w.heap.size e h):FL w e h f (W.heap.size+1) 0 (.slice (some ⟨W.heap.size,0,none⟩) 1 1) ((W.alloc (.cells #[.string ⟨f.verb.toArray⟩] 9)).iter ⟨(kstr f).toArray⟩ 0):=by
 have h1:=FmR.first f.verb hb he
 have hs:(W.alloc (.cells #[.string ⟨f.verb.toArray⟩] 9)).heap.size=W.heap.size+1:=by simp
 have hi:=World.iter_heap (W.alloc (.cells #[.string ⟨f.verb.toArray⟩] 9)) ⟨(kstr f).toArray⟩ 0
 rw [hs] at hi
 exact ⟨hi,by rw [wordsAt_zero];exact h1.step ((Below.refl _ _).alloc (Nat.le_refl _) (.stringIter ⟨(kstr f).toArray⟩ 0))⟩
theorem owns_max {w:World} {base e size:Nat} {v:Value} {n:Nat} {xs:List Value} (h:w.ownsRow base e size v n xs):n≤9223372036854775807:=by
 rcases h.2 with ⟨_,hn⟩ | ⟨g,cap,cur,_,_,_,h1,h2,_⟩
 ·omega
 ·unfold maxLen at h2;omega
end Go.Proofs
namespace Go.Proofs
open Go.RowKit Go.Sp
def pv (ps:List (Ev×Value)) (i:Nat):Ev×Value:=ps.getD i (ev0 0,.slice none 0 0)
structure EvAt (w:World) (g p:Nat) (e:Ev) (h:Value):Prop where
 c0:w.cell? ⟨g,p,none⟩=some (.int .i64 e.kind)
 c1:w.cell? ⟨g,p+1,none⟩=some (.string ⟨e.user.toArray⟩)
 c2:w.cell? ⟨g,p+2,none⟩=some (.string ⟨e.note.toArray⟩)
 c3:w.cell? ⟨g,p+3,none⟩=some (.int .i64 e.tSp)
 c4:w.cell? ⟨g,p+4,none⟩=some (.string ⟨e.tN.toArray⟩)
 c5:w.cell? ⟨g,p+5,none⟩=some (.int .i64 e.oSp)
 c6:w.cell? ⟨g,p+6,none⟩=some (.string ⟨e.oN.toArray⟩)
 c7:w.cell? ⟨g,p+7,none⟩=some (.string ⟨e.text.toArray⟩)
 c8:w.cell? ⟨g,p+8,none⟩=some (.int .i64 e.base)
 c9:w.cell? ⟨g,p+9,none⟩=some (.int .i64 e.n)
 c10:w.cell? ⟨g,p+10,none⟩=some h
theorem EvAt.keep {w w':World} {g p:Nat} {e:Ev} {h:Value} (k:EvAt w g p e h) (q:w'.heap[g]? = w.heap[g]?):EvAt w' g p e h :=
 ⟨(World.cell?_of_block (a:=⟨g,p,none⟩) q).trans k.c0,(World.cell?_of_block (a:=⟨g,p+1,none⟩) q).trans k.c1,(World.cell?_of_block (a:=⟨g,p+2,none⟩) q).trans k.c2,(World.cell?_of_block (a:=⟨g,p+3,none⟩) q).trans k.c3,(World.cell?_of_block (a:=⟨g,p+4,none⟩) q).trans k.c4,(World.cell?_of_block (a:=⟨g,p+5,none⟩) q).trans k.c5,(World.cell?_of_block (a:=⟨g,p+6,none⟩) q).trans k.c6,(World.cell?_of_block (a:=⟨g,p+7,none⟩) q).trans k.c7,(World.cell?_of_block (a:=⟨g,p+8,none⟩) q).trans k.c8,(World.cell?_of_block (a:=⟨g,p+9,none⟩) q).trans k.c9,(World.cell?_of_block (a:=⟨g,p+10,none⟩) q).trans k.c10⟩
def EvsRd (w:World) (A:Option Addr) (ps:List (Ev×Value)):Prop:=∀ i,i<ps.length→∃ g o B d,A=some ⟨g,o,none⟩∧g<w.heap.size∧(pv ps i).2=.slice B (pv ps i).1.hist.length d∧EvAt w g (o+i * 11) (pv ps i).1 (.slice B (pv ps i).1.hist.length d)∧HRd w B (pv ps i).1.hist∧(pv ps i).1.hist.length≤9223372036854775807
theorem EvsRd.below {w w':World} {A:Option Addr} {ps:List (Ev×Value)} (h:EvsRd w A ps) (x:Below w.heap.size w w'):EvsRd w' A ps:=fun i hi=>by
 obtain ⟨g,o,B,d,h1,h2,h3,h4,h5,h6⟩:=h i hi
 exact ⟨g,o,B,d,h1,Nat.lt_of_lt_of_le h2 x.size,h3,h4.keep (x.block g h2),h5.below x,h6⟩
end Go.Proofs
