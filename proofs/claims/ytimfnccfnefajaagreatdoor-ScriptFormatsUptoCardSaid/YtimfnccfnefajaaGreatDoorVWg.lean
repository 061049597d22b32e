/- A part of the proof: Wr, Ws, Wt, Wu, Wv -/
import Derived.Test.YtimfnccfnefajaaGreatDoorVWf
import Derived.Test.YtimfnccfnefajaaGreatDoorVWb
import Derived.OwnWalk
import Derived.Laws.AppendOwn
import Derived.Deep.RegionLaw
import Derived.IntWalk
import Derived.Lib.SliceRun
set_option linter.unusedSimpArgs false
set_option linter.unusedVariables false
namespace Go.Proofs
open Go.RowKit Go.Sp
theorem rd_readS (w:Bs):rd none w=if (readS w).2=true then some (readS w).1 else none:=by
 rw [rd_same none (some [126]) w]
 unfold rd readS
 split
 ·rfl
 ·split
  ·rfl
  ·cases h:dec (some [126]) w with
   | none=>rfl
   | some b =>
    simp only [Option.bind_some]
    by_cases hb:wr b=w
    ·rw [if_pos hb,if_pos (by simpa using hb)]
    ·rw [if_neg hb,if_neg (by simpa using hb)]
theorem rdT_titR (w:Bs):rdT parseR w=if titOk w=true then some (titR w).2 else none:=by
 rw [← rdT_same]
 unfold rdT titOk titR
 rw [rd_readS]
 generalize (readS w).2=ok
 generalize (readS w).1=t
 generalize hr:parseP t=r
 cases ok with
 | false=>simp
 | true =>
  by_cases h1:r.1=0 <;> by_cases h2:fmt r.2.1 r.2.2=t <;> simp [hr,h1,h2]
theorem numP_numV {w:Bs} {v:Int} (h:numP w=some v):numV w=v:=by
 unfold numP at h
 unfold numV
 cases hq:Lib.atoiAll w with
 | ok x =>
  rw [hq] at h
  simp only at h ⊢
  split at h
  ·exact Option.some.inj h
  ·cases h
 | _=>rw [hq] at h;cases h
def fillE (e:Ev) (f:Fld) (w:Bs):Ev:=match f with
 | .user=>{ e with user:=(readS w).1 }
 | .text=>{ e with text:=(readS w).1 }
 | .note=>{ e with note:=(readS w).1 }
 | .title=>{ e with tSp:=(titR w).2.1,tN:=(titR w).2.2 }
 | .to=>{ e with oSp:=(titR w).2.1,oN:=(titR w).2.2 }
 | .base=>{ e with base:=numV w }
 | .num=>{ e with n:=numV w }
 | .many=>e
def fillB (f:Fld) (w:Bs):Bool:=match f with
 | .user | .text | .note=>(readS w).2
 | .title | .to=>titOk w
 | .base | .num=>(numP w).isSome
 | .many=>false
theorem fillW_eq (e:Ev) (f:Fld) (w:Bs):fillW e f w=if fillB f w=true then some (fillE e f w) else none:=by
 have hn:∀ g:Int→Ev,(numP w).map g=if (numP w).isSome=true then some (g (numV w)) else none:=by
  intro g
  cases h:numP w with
  | none=>rfl
  | some v=>rw [numP_numV h];rfl
 have hs:∀ g:Bs→Ev,(rd none w).map g=if (readS w).2=true then some (g (readS w).1) else none:=by
  intro g;rw [rd_readS];cases (readS w).2 <;> rfl
 have ht:∀ g:Int×Bs→Ev,(rdT parseR w).map g=if titOk w=true then some (g (titR w).2) else none:=by
  intro g;rw [rdT_titR];cases titOk w <;> rfl
 cases f
 case many=>rfl
 all_goals first | exact hs _ | exact ht _ | exact hn _
structure EBlk (W:World) (b:Nat) (e:Ev) (h:Value):Prop where
 c0:W.cell? ⟨b,0,none⟩=some (.int .i64 e.kind)
 c1:W.cell? ⟨b,1,none⟩=some (.string ⟨e.user.toArray⟩)
 c2:W.cell? ⟨b,2,none⟩=some (.string ⟨e.note.toArray⟩)
 c3:W.cell? ⟨b,3,none⟩=some (.int .i64 e.tSp)
 c4:W.cell? ⟨b,4,none⟩=some (.string ⟨e.tN.toArray⟩)
 c5:W.cell? ⟨b,5,none⟩=some (.int .i64 e.oSp)
 c6:W.cell? ⟨b,6,none⟩=some (.string ⟨e.oN.toArray⟩)
 c7:W.cell? ⟨b,7,none⟩=some (.string ⟨e.text.toArray⟩)
 c8:W.cell? ⟨b,8,none⟩=some (.int .i64 e.base)
 c9:W.cell? ⟨b,9,none⟩=some (.int .i64 e.n)
 c10:W.cell? ⟨b,10,none⟩=some h
 fr:∀ j,j<11→W.frozen? ⟨b,j,none⟩=false
 lt:b<W.heap.size
theorem EBlk.below {W W':World} {b:Nat} {e:Ev} {h:Value} (k:EBlk W b e h) {B:Nat} (hB:b<B) (x:Below B W W'):EBlk W' b e h :=
 ⟨(x.cell (p:=⟨b,0,none⟩) hB).trans k.c0,(x.cell (p:=⟨b,1,none⟩) hB).trans k.c1,(x.cell (p:=⟨b,2,none⟩) hB).trans k.c2,(x.cell (p:=⟨b,3,none⟩) hB).trans k.c3,(x.cell (p:=⟨b,4,none⟩) hB).trans k.c4,(x.cell (p:=⟨b,5,none⟩) hB).trans k.c5,(x.cell (p:=⟨b,6,none⟩) hB).trans k.c6,(x.cell (p:=⟨b,7,none⟩) hB).trans k.c7,(x.cell (p:=⟨b,8,none⟩) hB).trans k.c8,(x.cell (p:=⟨b,9,none⟩) hB).trans k.c9,(x.cell (p:=⟨b,10,none⟩) hB).trans k.c10,fun j hj=>(x.frozen (p:=⟨b,j,none⟩) hB).trans (k.fr j hj),Nat.lt_of_lt_of_le k.lt x.size⟩
theorem cell_put (W:World) (b i:Nat) (x y:Value) (h:W.cell? ⟨b,i,none⟩=some x):(W.setCell ⟨b,i,none⟩ y).cell? ⟨b,i,none⟩=some y:=World.cell?_setCell_same _ _ _ h
theorem cell_far (W:World) (b i j:Nat) (y:Value) (h:i≠j):(W.setCell ⟨b,i,none⟩ y).cell? ⟨b,j,none⟩=W.cell? ⟨b,j,none⟩:=World.cell?_setCell_other _ ⟨b,i,none⟩ ⟨b,j,none⟩ _ (by simp)
theorem EBlk.setUser {W:World} {b:Nat} {e:Ev} {h:Value} (k:EBlk W b e h) (s:Bs):EBlk (W.setCell ⟨b,1,none⟩ (.string ⟨s.toArray⟩)) b { e with user:=s } h :=
 ⟨(cell_far _ _ _ _ _ (by decide)).trans k.c0,cell_put _ _ _ _ _ k.c1,(cell_far _ _ _ _ _ (by decide)).trans k.c2,(cell_far _ _ _ _ _ (by decide)).trans k.c3,(cell_far _ _ _ _ _ (by decide)).trans k.c4,(cell_far _ _ _ _ _ (by decide)).trans k.c5,(cell_far _ _ _ _ _ (by decide)).trans k.c6,(cell_far _ _ _ _ _ (by decide)).trans k.c7,(cell_far _ _ _ _ _ (by decide)).trans k.c8,(cell_far _ _ _ _ _ (by decide)).trans k.c9,(cell_far _ _ _ _ _ (by decide)).trans k.c10,fun j hj=>(World.frozen?_setCell _ _ _ _).trans (k.fr j hj),by simpa using k.lt⟩
theorem EBlk.setNote {W:World} {b:Nat} {e:Ev} {h:Value} (k:EBlk W b e h) (s:Bs):EBlk (W.setCell ⟨b,2,none⟩ (.string ⟨s.toArray⟩)) b { e with note:=s } h :=
 ⟨(cell_far _ _ _ _ _ (by decide)).trans k.c0,(cell_far _ _ _ _ _ (by decide)).trans k.c1,cell_put _ _ _ _ _ k.c2,(cell_far _ _ _ _ _ (by decide)).trans k.c3,(cell_far _ _ _ _ _ (by decide)).trans k.c4,(cell_far _ _ _ _ _ (by decide)).trans k.c5,(cell_far _ _ _ _ _ (by decide)).trans k.c6,(cell_far _ _ _ _ _ (by decide)).trans k.c7,(cell_far _ _ _ _ _ (by decide)).trans k.c8,(cell_far _ _ _ _ _ (by decide)).trans k.c9,(cell_far _ _ _ _ _ (by decide)).trans k.c10,fun j hj=>(World.frozen?_setCell _ _ _ _).trans (k.fr j hj),by simpa using k.lt⟩
theorem EBlk.setText {W:World} {b:Nat} {e:Ev} {h:Value} (k:EBlk W b e h) (s:Bs):EBlk (W.setCell ⟨b,7,none⟩ (.string ⟨s.toArray⟩)) b { e with text:=s } h :=
 ⟨(cell_far _ _ _ _ _ (by decide)).trans k.c0,(cell_far _ _ _ _ _ (by decide)).trans k.c1,(cell_far _ _ _ _ _ (by decide)).trans k.c2,(cell_far _ _ _ _ _ (by decide)).trans k.c3,(cell_far _ _ _ _ _ (by decide)).trans k.c4,(cell_far _ _ _ _ _ (by decide)).trans k.c5,(cell_far _ _ _ _ _ (by decide)).trans k.c6,cell_put _ _ _ _ _ k.c7,(cell_far _ _ _ _ _ (by decide)).trans k.c8,(cell_far _ _ _ _ _ (by decide)).trans k.c9,(cell_far _ _ _ _ _ (by decide)).trans k.c10,fun j hj=>(World.frozen?_setCell _ _ _ _).trans (k.fr j hj),by simpa using k.lt⟩
theorem EBlk.setBase {W:World} {b:Nat} {e:Ev} {h:Value} (k:EBlk W b e h) (s:Int):EBlk (W.setCell ⟨b,8,none⟩ (.int .i64 s)) b { e with base:=s } h :=
 ⟨(cell_far _ _ _ _ _ (by decide)).trans k.c0,(cell_far _ _ _ _ _ (by decide)).trans k.c1,(cell_far _ _ _ _ _ (by decide)).trans k.c2,(cell_far _ _ _ _ _ (by decide)).trans k.c3,(cell_far _ _ _ _ _ (by decide)).trans k.c4,(cell_far _ _ _ _ _ (by decide)).trans k.c5,(cell_far _ _ _ _ _ (by decide)).trans k.c6,(cell_far _ _ _ _ _ (by decide)).trans k.c7,cell_put _ _ _ _ _ k.c8,(cell_far _ _ _ _ _ (by decide)).trans k.c9,(cell_far _ _ _ _ _ (by decide)).trans k.c10,fun j hj=>(World.frozen?_setCell _ _ _ _).trans (k.fr j hj),by simpa using k.lt⟩
theorem EBlk.setN {W:World} {b:Nat} {e:Ev} {h:Value} (k:EBlk W b e h) (s:Int):EBlk (W.setCell ⟨b,9,none⟩ (.int .i64 s)) b { e with n:=s } h :=
 ⟨(cell_far _ _ _ _ _ (by decide)).trans k.c0,(cell_far _ _ _ _ _ (by decide)).trans k.c1,(cell_far _ _ _ _ _ (by decide)).trans k.c2,(cell_far _ _ _ _ _ (by decide)).trans k.c3,(cell_far _ _ _ _ _ (by decide)).trans k.c4,(cell_far _ _ _ _ _ (by decide)).trans k.c5,(cell_far _ _ _ _ _ (by decide)).trans k.c6,(cell_far _ _ _ _ _ (by decide)).trans k.c7,(cell_far _ _ _ _ _ (by decide)).trans k.c8,cell_put _ _ _ _ _ k.c9,(cell_far _ _ _ _ _ (by decide)).trans k.c10,fun j hj=>(World.frozen?_setCell _ _ _ _).trans (k.fr j hj),by simpa using k.lt⟩
theorem EBlk.setTSp {W:World} {b:Nat} {e:Ev} {h:Value} (k:EBlk W b e h) (s:Int):EBlk (W.setCell ⟨b,3,none⟩ (.int .i64 s)) b { e with tSp:=s } h :=
 ⟨(cell_far _ _ _ _ _ (by decide)).trans k.c0,(cell_far _ _ _ _ _ (by decide)).trans k.c1,(cell_far _ _ _ _ _ (by decide)).trans k.c2,cell_put _ _ _ _ _ k.c3,(cell_far _ _ _ _ _ (by decide)).trans k.c4,(cell_far _ _ _ _ _ (by decide)).trans k.c5,(cell_far _ _ _ _ _ (by decide)).trans k.c6,(cell_far _ _ _ _ _ (by decide)).trans k.c7,(cell_far _ _ _ _ _ (by decide)).trans k.c8,(cell_far _ _ _ _ _ (by decide)).trans k.c9,(cell_far _ _ _ _ _ (by decide)).trans k.c10,fun j hj=>(World.frozen?_setCell _ _ _ _).trans (k.fr j hj),by simpa using k.lt⟩
theorem EBlk.setTN {W:World} {b:Nat} {e:Ev} {h:Value} (k:EBlk W b e h) (s:Bs):EBlk (W.setCell ⟨b,4,none⟩ (.string ⟨s.toArray⟩)) b { e with tN:=s } h :=
 ⟨(cell_far _ _ _ _ _ (by decide)).trans k.c0,(cell_far _ _ _ _ _ (by decide)).trans k.c1,(cell_far _ _ _ _ _ (by decide)).trans k.c2,(cell_far _ _ _ _ _ (by decide)).trans k.c3,cell_put _ _ _ _ _ k.c4,(cell_far _ _ _ _ _ (by decide)).trans k.c5,(cell_far _ _ _ _ _ (by decide)).trans k.c6,(cell_far _ _ _ _ _ (by decide)).trans k.c7,(cell_far _ _ _ _ _ (by decide)).trans k.c8,(cell_far _ _ _ _ _ (by decide)).trans k.c9,(cell_far _ _ _ _ _ (by decide)).trans k.c10,fun j hj=>(World.frozen?_setCell _ _ _ _).trans (k.fr j hj),by simpa using k.lt⟩
theorem EBlk.setOSp {W:World} {b:Nat} {e:Ev} {h:Value} (k:EBlk W b e h) (s:Int):EBlk (W.setCell ⟨b,5,none⟩ (.int .i64 s)) b { e with oSp:=s } h :=
 ⟨(cell_far _ _ _ _ _ (by decide)).trans k.c0,(cell_far _ _ _ _ _ (by decide)).trans k.c1,(cell_far _ _ _ _ _ (by decide)).trans k.c2,(cell_far _ _ _ _ _ (by decide)).trans k.c3,(cell_far _ _ _ _ _ (by decide)).trans k.c4,cell_put _ _ _ _ _ k.c5,(cell_far _ _ _ _ _ (by decide)).trans k.c6,(cell_far _ _ _ _ _ (by decide)).trans k.c7,(cell_far _ _ _ _ _ (by decide)).trans k.c8,(cell_far _ _ _ _ _ (by decide)).trans k.c9,(cell_far _ _ _ _ _ (by decide)).trans k.c10,fun j hj=>(World.frozen?_setCell _ _ _ _).trans (k.fr j hj),by simpa using k.lt⟩
theorem EBlk.setON {W:World} {b:Nat} {e:Ev} {h:Value} (k:EBlk W b e h) (s:Bs):EBlk (W.setCell ⟨b,6,none⟩ (.string ⟨s.toArray⟩)) b { e with oN:=s } h :=
 ⟨(cell_far _ _ _ _ _ (by decide)).trans k.c0,(cell_far _ _ _ _ _ (by decide)).trans k.c1,(cell_far _ _ _ _ _ (by decide)).trans k.c2,(cell_far _ _ _ _ _ (by decide)).trans k.c3,(cell_far _ _ _ _ _ (by decide)).trans k.c4,(cell_far _ _ _ _ _ (by decide)).trans k.c5,cell_put _ _ _ _ _ k.c6,(cell_far _ _ _ _ _ (by decide)).trans k.c7,(cell_far _ _ _ _ _ (by decide)).trans k.c8,(cell_far _ _ _ _ _ (by decide)).trans k.c9,(cell_far _ _ _ _ _ (by decide)).trans k.c10,fun j hj=>(World.frozen?_setCell _ _ _ _).trans (k.fr j hj),by simpa using k.lt⟩
def runeF:Fld→Int
 | .user=>117 | .title=>116 | .to=>111 | .text=>120 | .note=>110 | .base=>98 | .num=>78 | .many=>42
structure Keep (b:Nat) (w w':World):Prop where
 size:w.heap.size≤w'.heap.size
 block:∀ j,j<w.heap.size→j≠b→w'.heap[j]? = w.heap[j]?
theorem Keep.of (b:Nat) {w w':World} (x:Below w.heap.size w w'):Keep b w w':=⟨x.size,fun j hj _=>x.block j hj⟩
theorem Keep.set {b:Nat} {w w':World} (h:Keep b w w') (i:Nat) (v:Value):Keep b w (w'.setCell ⟨b,i,none⟩ v) :=
 ⟨by simpa using h.size,fun j hj hn=>(Below.heap_setCell _ _ _ _ hn).trans (h.block j hj hn)⟩
def RetF (v:Value) (b:Nat) (ev:Ev) (h:Value) (w:World) (e:Ending) (w':World):Prop:=e=.returned v∧Below b w w'∧EBlk w' b ev h∧Keep b w w'
end Go.Proofs
namespace Go.Proofs
open Go.RowKit Go.Sp
theorem readL (s:ByteArray) (W:World) (hs:s.size<4294960000):Calls Tryz.prog 96 #[.string s] W (RetB (.tuple #[.string ⟨(readS s.data.toList).1.toArray⟩,.bool (readS s.data.toList).2]) W):=(read_ok s W (by omega)).mono fun _ _ h=>h
set_option maxRecDepth 100000 in
set_option maxHeartbeats 4000000 in
theorem fill_user (b:Nat) (ev:Ev) (h:Value) (s:ByteArray) (w:World) (hs:s.size<4294960000) (_hg:GlN w) (hb:EBlk w b ev h):Calls Tryz.prog 65 #[.pointer (some ⟨b,0,none⟩),.int .i32 117,.string s] w (RetF (.bool ((readS s.data.toList).2)) b { ev with user:=(readS s.data.toList).1 } h w):=by
 have hR:=readL s w hs
 generalize (readS s.data.toList).1=t at *
 generalize (readS s.data.toList).2=ok at *
 clear hs _hg
 go_enter Tryz.func65,Tryz.ntmps65
 go_wp2_with (go_at_call 96;refine hR.mono ?_)
 rintro e W1 ⟨rfl,b1⟩
 have hb1:=hb.below hb.lt b1
 have hB:=b1.mono (Nat.le_of_lt hb.lt)
 have hkp:=Keep.of b b1
 have c1:=hb1.c1
 have f1:=hb1.fr 1 (by decide)
 clear hb b1
 go_wp2
 go_ret
 exact ⟨rfl,(hB.setCell (p:=⟨b,1,none⟩) (Nat.le_refl _) _),hb1.setUser t,(hkp.set _ _)⟩
set_option maxRecDepth 100000 in
set_option maxHeartbeats 4000000 in
theorem fill_text (b:Nat) (ev:Ev) (h:Value) (s:ByteArray) (w:World) (hs:s.size<4294960000) (_hg:GlN w) (hb:EBlk w b ev h):Calls Tryz.prog 65 #[.pointer (some ⟨b,0,none⟩),.int .i32 120,.string s] w (RetF (.bool ((readS s.data.toList).2)) b { ev with text:=(readS s.data.toList).1 } h w):=by
 have hR:=readL s w hs
 generalize (readS s.data.toList).1=t at *
 generalize (readS s.data.toList).2=ok at *
 clear hs _hg
 go_enter Tryz.func65,Tryz.ntmps65
 go_wp2_with (go_at_call 96;refine hR.mono ?_)
 rintro e W1 ⟨rfl,b1⟩
 have hb1:=hb.below hb.lt b1
 have hB:=b1.mono (Nat.le_of_lt hb.lt)
 have hkp:=Keep.of b b1
 have c7:=hb1.c7
 have f7:=hb1.fr 7 (by decide)
 clear hb b1
 go_wp2
 go_ret
 exact ⟨rfl,(hB.setCell (p:=⟨b,7,none⟩) (Nat.le_refl _) _),hb1.setText t,(hkp.set _ _)⟩
set_option maxRecDepth 100000 in
set_option maxHeartbeats 4000000 in
theorem fill_note (b:Nat) (ev:Ev) (h:Value) (s:ByteArray) (w:World) (hs:s.size<4294960000) (_hg:GlN w) (hb:EBlk w b ev h):Calls Tryz.prog 65 #[.pointer (some ⟨b,0,none⟩),.int .i32 110,.string s] w (RetF (.bool ((readS s.data.toList).2)) b { ev with note:=(readS s.data.toList).1 } h w):=by
 have hR:=readL s w hs
 generalize (readS s.data.toList).1=t at *
 generalize (readS s.data.toList).2=ok at *
 clear hs _hg
 go_enter Tryz.func65,Tryz.ntmps65
 go_wp2_with (go_at_call 96;refine hR.mono ?_)
 rintro e W1 ⟨rfl,b1⟩
 have hb1:=hb.below hb.lt b1
 have hB:=b1.mono (Nat.le_of_lt hb.lt)
 have hkp:=Keep.of b b1
 have c2:=hb1.c2
 have f2:=hb1.fr 2 (by decide)
 clear hb b1
 go_wp2
 go_ret
 exact ⟨rfl,(hB.setCell (p:=⟨b,2,none⟩) (Nat.le_refl _) _),hb1.setNote t,(hkp.set _ _)⟩
set_option maxRecDepth 100000 in
set_option maxHeartbeats 4000000 in
theorem fill_title (b:Nat) (ev:Ev) (h:Value) (s:ByteArray) (w:World) (hs:s.size<4294960000) (hg:GlN w) (hb:EBlk w b ev h):Calls Tryz.prog 65 #[.pointer (some ⟨b,0,none⟩),.int .i32 116,.string s] w (RetF (.bool (titOk s.data.toList)) b { ev with tSp:=(titR s.data.toList).2.1,tN:=(titR s.data.toList).2.2 } h w):=by
 have hR:=readTitle_ok s w hs hg.toGl
 generalize (titR s.data.toList).2.1=sp at *
 generalize (titR s.data.toList).2.2=t at *
 generalize titOk s.data.toList=ok at *
 clear hs hg
 go_enter Tryz.func65,Tryz.ntmps65
 go_wp2_with (go_at_call 97;refine hR.mono ?_)
 rintro e W1 ⟨rfl,b1⟩
 have hb1:=hb.below hb.lt b1
 have hB:=b1.mono (Nat.le_of_lt hb.lt)
 have hkp:=Keep.of b b1
 have c3:=hb1.c3
 have f3:=hb1.fr 3 (by decide)
 have c4:=hb1.c4
 have f4:=hb1.fr 4 (by decide)
 clear hb b1
 go_wp2
 go_ret
 exact ⟨rfl,((hB.setCell (p:=⟨b,3,none⟩) (Nat.le_refl _) _).setCell (p:=⟨b,4,none⟩) (Nat.le_refl _) _),(hb1.setTSp sp).setTN t,((hkp.set _ _).set _ _)⟩
set_option maxRecDepth 100000 in
set_option maxHeartbeats 4000000 in
theorem fill_to (b:Nat) (ev:Ev) (h:Value) (s:ByteArray) (w:World) (hs:s.size<4294960000) (hg:GlN w) (hb:EBlk w b ev h):Calls Tryz.prog 65 #[.pointer (some ⟨b,0,none⟩),.int .i32 111,.string s] w (RetF (.bool (titOk s.data.toList)) b { ev with oSp:=(titR s.data.toList).2.1,oN:=(titR s.data.toList).2.2 } h w):=by
 have hR:=readTitle_ok s w hs hg.toGl
 generalize (titR s.data.toList).2.1=sp at *
 generalize (titR s.data.toList).2.2=t at *
 generalize titOk s.data.toList=ok at *
 clear hs hg
 go_enter Tryz.func65,Tryz.ntmps65
 go_wp2_with (go_at_call 97;refine hR.mono ?_)
 rintro e W1 ⟨rfl,b1⟩
 have hb1:=hb.below hb.lt b1
 have hB:=b1.mono (Nat.le_of_lt hb.lt)
 have hkp:=Keep.of b b1
 have c5:=hb1.c5
 have f5:=hb1.fr 5 (by decide)
 have c6:=hb1.c6
 have f6:=hb1.fr 6 (by decide)
 clear hb b1
 go_wp2
 go_ret
 exact ⟨rfl,((hB.setCell (p:=⟨b,5,none⟩) (Nat.le_refl _) _).setCell (p:=⟨b,6,none⟩) (Nat.le_refl _) _),(hb1.setOSp sp).setON t,((hkp.set _ _).set _ _)⟩
set_option maxRecDepth 100000 in
set_option maxHeartbeats 4000000 in
theorem fill_base (b:Nat) (ev:Ev) (h:Value) (s:ByteArray) (w:World) (hs:s.size<4294960000) (hg:GlN w) (hb:EBlk w b ev h):Calls Tryz.prog 65 #[.pointer (some ⟨b,0,none⟩),.int .i32 98,.string s] w (RetF (.bool ((numP s.data.toList).isSome)) b { ev with base:=numV s.data.toList } h w):=by
 have hR:=readNumber_ok s w (by omega) hg
 generalize numV s.data.toList=v at *
 generalize (numP s.data.toList).isSome=ok at *
 clear hs hg
 go_enter Tryz.func65,Tryz.ntmps65
 go_wp2_with (go_at_call 98;refine hR.mono ?_)
 rintro e W1 ⟨rfl,b1⟩
 have hb1:=hb.below hb.lt b1
 have hB:=b1.mono (Nat.le_of_lt hb.lt)
 have hkp:=Keep.of b b1
 have c8:=hb1.c8
 have f8:=hb1.fr 8 (by decide)
 clear hb b1
 go_wp2
 go_ret
 exact ⟨rfl,(hB.setCell (p:=⟨b,8,none⟩) (Nat.le_refl _) _),hb1.setBase v,(hkp.set _ _)⟩
set_option maxRecDepth 100000 in
set_option maxHeartbeats 4000000 in
theorem fill_num (b:Nat) (ev:Ev) (h:Value) (s:ByteArray) (w:World) (hs:s.size<4294960000) (hg:GlN w) (hb:EBlk w b ev h):Calls Tryz.prog 65 #[.pointer (some ⟨b,0,none⟩),.int .i32 78,.string s] w (RetF (.bool ((numP s.data.toList).isSome)) b { ev with n:=numV s.data.toList } h w):=by
 have hR:=readNumber_ok s w (by omega) hg
 generalize numV s.data.toList=v at *
 generalize (numP s.data.toList).isSome=ok at *
 clear hs hg
 go_enter Tryz.func65,Tryz.ntmps65
 go_wp2_with (go_at_call 98;refine hR.mono ?_)
 rintro e W1 ⟨rfl,b1⟩
 have hb1:=hb.below hb.lt b1
 have hB:=b1.mono (Nat.le_of_lt hb.lt)
 have hkp:=Keep.of b b1
 have c9:=hb1.c9
 have f9:=hb1.fr 9 (by decide)
 clear hb b1
 go_wp2
 go_ret
 exact ⟨rfl,(hB.setCell (p:=⟨b,9,none⟩) (Nat.le_refl _) _),hb1.setN v,(hkp.set _ _)⟩
theorem fill_ok (f:Fld) (hf:f≠.many) (b:Nat) (ev:Ev) (h:Value) (s:ByteArray) (w:World) (hs:s.size<4294960000) (hg:GlN w) (hb:EBlk w b ev h):Calls Tryz.prog 65 #[.pointer (some ⟨b,0,none⟩),.int .i32 (runeF f),.string s] w (RetF (.bool (fillB f s.data.toList)) b (fillE ev f s.data.toList) h w):=by
 cases f
 case many=>exact absurd rfl hf
 case user=>exact fill_user b ev h s w hs hg hb
 case text=>exact fill_text b ev h s w hs hg hb
 case note=>exact fill_note b ev h s w hs hg hb
 case title=>exact fill_title b ev h s w hs hg hb
 case «to»=>exact fill_to b ev h s w hs hg hb
 case base=>exact fill_base b ev h s w hs hg hb
 case num=>exact fill_num b ev h s w hs hg hb
end Go.Proofs
namespace Go.Proofs
open Go.RowKit Go.Sp
theorem info66:(Tryz.prog.info? 66).map (fun i=>(i.zero,i.size,i.bytes))=some (some (.agg #[.int .i64 0,.string ⟨#[]⟩,.string ⟨#[]⟩,.string ⟨#[]⟩,.int .i64 0,.int .i64 0]),6,72):=by kernel_rfl
theorem und31:Tryz.prog.underlying 31=some (.slice 66):=by kernel_rfl
theorem step_append_own {P:Program} {w:World} {ops:Array Oper} {o:Oper} {a:Act} {K:Act→World→Prop} {Q:Exit→Act→World→Prop} {E:Prop} (hgd:o.guard=none) (s x:Operand) (t:TypeId)
 (ho:o.op=.call { callee:=.builtin .append,args:=#[s,x],argTypes:=#[t,t] })
 (base:Nat) (e:TypeId) (i:TypeInfo) (z:Value) (size bytes:Nat) (ht:P.underlying t=some (.slice e)) (hi:P.info? e=some i) (hz:i.zero=some z)
 (hsize:i.size=size) (hby:i.bytes=bytes) (hzs:z.cells.size=size) (hsz:0<size)
 (v:Value) (n:Nat) (xs:List Value) (hs:a.eval s=v) (hown:w.ownsRow base e size v n xs)
 (ad:Addr) (m c:Nat) (news:List Value) (hx:a.eval x=.slice (some ad) m c) (hl:news.length=m * size) (hnews:∀ j u,news[j]? = some u→w.cell? (ad.add j)=some u) (h1:∀ u∈news,u.oneCell'=true)
 (h63:n+m≤maxLen) (hbytes:(n+m) * bytes≤140737488355328) (hbase:base≤w.heap.size)
 (h:∀ v' w',w'.ownsRow base e size v' (n+m) (xs ++ news)→w.grownBy w' v.ownBlock→(v'=.slice none 0 0↔v=.slice none 0 0∧m=0)→K (a.put o.dst v') w') :
 if Region.wanted o (yielded ops a.tmps)=true then Oper.wp P o a w K Q else E:=by
 have hw:Region.wanted o (yielded ops a.tmps)=true:=by simp [Region.wanted,hgd]
 rw [if_pos hw]
 exact wp_append_own w s x t ho base e i z size bytes ht hi hz hsize hby hzs hsz v n xs hs hown ad m c news hx hl hnews h1 h63 hbytes hbase h
def rcells (r:Rev):List Value:=[.int .i64 r.number,.string ⟨r.user.toArray⟩,.string ⟨r.note.toArray⟩,.string ⟨r.text.toArray⟩,.int .i64 r.minute,.int .i64 r.seq]
def hcells (L:List Rev):List Value:=L.flatMap rcells
def revAt (u:Bs) (i:Nat) (w:Bs):Rev:=⟨(i:Int)+1,u,[],(readS w).1,0,0⟩
def revsTo (u:Bs) (L:List Bs) (k:Nat):List Rev:=(List.range k).map fun i=>revAt u i (L.getD i [])
theorem revsTo_succ (u:Bs) (L:List Bs) (k:Nat):revsTo u L (k+1)=revsTo u L k ++ [revAt u k (L.getD k [])]:=by
 unfold revsTo
 rw [List.range_succ,List.map_append];rfl
theorem hcells_snoc (L:List Rev) (r:Rev):hcells (L ++ [r])=hcells L ++ rcells r:=by
 unfold hcells
 rw [List.flatMap_append];simp
def RowO (w:World) (B off:Nat) (L:List Bs):Prop:=∀ j,j<L.length→w.cell? ⟨B,off+j,none⟩=some (.string ⟨(L.getD j []).toArray⟩)
theorem RowO.below {w w':World} {B off:Nat} {L:List Bs} (h:RowO w B off L) {b:Nat} (hB:B<b) (x:Below b w w'):RowO w' B off L:=fun j hj=>(x.cell (p:=⟨B,off+j,none⟩) hB).trans (h j hj)
theorem owns_below {w w':World} {base e size:Nat} {v:Value} {n:Nat} {xs:List Value} (h:w.ownsRow base e size v n xs) (x:Below w.heap.size w w'):w'.ownsRow base e size v n xs:=by
 refine ⟨h.1,?_⟩
 rcases h.2 with h2 | ⟨g,cap,cur,hv,hb,hg,hr⟩
 ·exact .inl h2
 ·have hlt:g<w.heap.size:=by
   by_cases hl:g<w.heap.size
   ·exact hl
   ·rw [Array.getElem?_eq_none (by omega)] at hg;cases hg
  exact .inr ⟨g,cap,cur,hv,hb,(x.block g hlt).trans hg,hr⟩
theorem cell_new (W:World) (cs:Array Value) (ty:TypeId) (j:Nat) (u:Value) (h:cs.toList[j]? = some u):(W.alloc (.cells cs ty)).cell? ((⟨W.heap.size,0,none⟩:Addr).add j)=some u:=by
 have e:(⟨W.heap.size,0,none⟩:Addr).add j=⟨W.heap.size,j,none⟩:=by
  unfold Addr.add
  by_cases h0:j=0 <;> simp [h0]
 rw [e]
 simpa [World.cell?,World.alloc,-World.alloc_eq] using h
structure ImpRel (w:World) (b:Nat) (ev:Ev) (L:List Bs) (k:Nat) (wr:World) (hv:Value):Prop where
 below:Below b w wr
 evt:EBlk wr b ev hv
 own:wr.ownsRow w.heap.size 66 6 hv k (hcells (revsTo ev.user L k))
 ok:∀ i,i<k→(readS (L.getD i [])).2=true
 size:w.heap.size≤wr.heap.size
theorem owns_base {w:World} {base e size:Nat} {v:Value} {n:Nat} {xs:List Value} (h:w.ownsRow base e size v n xs) (g:Nat) (hg:v.ownBlock=some g):base≤g:=by
 rcases h.2 with ⟨rfl,_⟩ | ⟨g',cap,cur,rfl,hb,_⟩
 ·cases hg
 ·obtain rfl:=Option.some.inj hg;exact hb
theorem owns_slice {w:World} {base e size:Nat} {v:Value} {n:Nat} {xs:List Value} (h:w.ownsRow base e size v n xs):∃ A m c,v=.slice A m c:=by
 rcases h.2 with ⟨rfl,_⟩ | ⟨g',cap,cur,rfl,_⟩
 ·exact ⟨_,_,_,rfl⟩
 ·exact ⟨_,_,_,rfl⟩
theorem owns_far {w:World} {base e size:Nat} {v:Value} {n:Nat} {xs:List Value} (h:w.ownsRow base e size v n xs) {b i:Nat} (hb:b<base) (x:Value):(w.setCell ⟨b,i,none⟩ x).ownsRow base e size v n xs:=by
 refine ⟨h.1,?_⟩
 rcases h.2 with h2 | ⟨g,cap,cur,hv,hg,hh,hr⟩
 ·exact .inl h2
 ·exact .inr ⟨g,cap,cur,hv,hg,(Below.heap_setCell _ _ _ _ (by show g≠b;omega)).trans hh,hr⟩
theorem EBlk.setHist {W:World} {b:Nat} {e:Ev} {h:Value} (k:EBlk W b e h) (x:Value):EBlk (W.setCell ⟨b,10,none⟩ x) b e x :=
 ⟨(cell_far _ _ _ _ _ (by decide)).trans k.c0,(cell_far _ _ _ _ _ (by decide)).trans k.c1,(cell_far _ _ _ _ _ (by decide)).trans k.c2,(cell_far _ _ _ _ _ (by decide)).trans k.c3,(cell_far _ _ _ _ _ (by decide)).trans k.c4,(cell_far _ _ _ _ _ (by decide)).trans k.c5,(cell_far _ _ _ _ _ (by decide)).trans k.c6,(cell_far _ _ _ _ _ (by decide)).trans k.c7,(cell_far _ _ _ _ _ (by decide)).trans k.c8,(cell_far _ _ _ _ _ (by decide)).trans k.c9,cell_put _ _ _ _ _ k.c10,fun j hj=>(World.frozen?_setCell _ _ _ _).trans (k.fr j hj),by simpa using k.lt⟩
theorem one_cells (n:Int) (u t:ByteArray):∀ x∈[Value.int .i64 n,.string u,.string ⟨#[]⟩,.string t,.int .i64 0,.int .i64 0],x.oneCell'=true:=by
 intro x hx
 simp only [List.mem_cons,List.not_mem_nil,or_false] at hx
 rcases hx with rfl | rfl | rfl | rfl | rfl | rfl <;> rfl
theorem imp_push {w W1 w1:World} {b:Nat} {ev:Ev} {hv:Value} {k:Nat} {xs:List Value} {o:Obj} (hbl:b<w.heap.size) (h1:EBlk W1 b ev hv) (hb:Below b w W1) (ho:W1.ownsRow w.heap.size 66 6 hv k xs) (hz:w.heap.size≤W1.heap.size) (hg:(W1.drew.alloc o).grownBy w1 hv.ownBlock):EBlk w1 b ev hv∧Below b w w1∧w.heap.size≤w1.heap.size:=by
 have hx:Below w.heap.size W1 w1:=(((Below.refl w.heap.size W1).drew).alloc hz o).grown hg (by show _≤(W1.heap.push _).size;rw [Array.size_push];omega) (fun g h=>owns_base ho g h)
 exact ⟨h1.below hbl hx,hb.trans (hx.mono (Nat.le_of_lt hbl)),Nat.le_trans hz hx.size⟩
theorem imp_next {w w1:World} {b:Nat} {ev:Ev} {hv v1:Value} {k:Nat} {L:List Bs} {xs:List Value} (h1:EBlk w1 b ev hv) (hb:Below b w w1) (hz:w.heap.size≤w1.heap.size) (hbl:b<w.heap.size) (ho:w1.ownsRow w.heap.size 66 6 v1 (k+1) xs) (hs:hcells (revsTo ev.user L (k+1))=xs) (ha:∀ i,i<k+1→(readS (L.getD i [])).2=true):ImpRel w b ev L (k+1) (w1.setCell ⟨b,10,none⟩ v1) v1 :=
 ⟨hb.setCell (p:=⟨b,10,none⟩) (Nat.le_refl _) _,h1.setHist v1,by rw [hs];exact owns_far ho hbl v1,ha,by simpa using hz⟩
def RetI (L:List Bs) (b:Nat) (ev:Ev) (w:World) (e:Ending) (w':World):Prop :=
 (e=.returned (.bool false)∧Below b w w'∧(∃ A m c,EBlk w' b ev (.slice A m c))∧(L=[]∨∃ i,i<L.length∧(readS (L.getD i [])).2=false)) ∨
 (e=.returned (.bool true)∧0<L.length∧∃ hv,ImpRel w b ev L L.length w' hv)
set_option maxRecDepth 100000 in
set_option maxHeartbeats 4000000 in
theorem imported_ok (B off cap:Nat) (L:List Bs) (b:Nat) (ev:Ev) (w:World) (hB:B<b) (hL:L.length≤4294967296) (hl:∀ j,(L.getD j []).length<4294960000) (hr:RowO w B off L) (hb:EBlk w b ev (.slice none 0 0)) :
 Calls Tryz.prog 66 #[.pointer (some ⟨b,0,none⟩),.slice (some ⟨B,off,none⟩) L.length cap] w (RetI L b ev w):=by
 obtain ⟨i0,hi,hz0,hz1,hz2⟩:=info_parts info66
 have hR:=fun k W=>readL ⟨(L.getD k []).toArray⟩ W (hl k)
 have h0:ImpRel w b ev L 0 w (.slice none 0 0):=⟨Below.refl _ _,hb,⟨rfl,.inl ⟨rfl,rfl⟩⟩,fun i hi=>by omega,Nat.le_refl _⟩
 have hbl:=hb.lt
 clear hb hl
 generalize hn:L.length=n at *
 have HN:=Lib.hid hn;clear hn
 go_enter Tryz.func66,Tryz.ntmps66
 go_wp2
 go_loopw [11] (fun i wr=>∃ (k:Nat) (hv:Value),k≤n∧i=.int .i64 k∧ImpRel w b ev L k wr hv) (fun i _=>n - (intOf i).toNat)
 case atStart=>exact ⟨0,_,Nat.zero_le _,rfl,h0⟩
 case round =>
  obtain ⟨k,hv,hk,rfl,hI⟩:=hrel
  by_cases hlt:k<n
  ·have c:=hr.below hB hI.below k (by rw [HN.out];exact hlt)
   have hRk:=hR k
   have hz:=hI.size
   cases hok:(readS (L.getD k [])).2 with
   | false =>
    have hbad:∃ i,i<L.length∧(readS (L.getD i [])).2=false:=⟨k,by rw [HN.out];exact hlt,hok⟩
    rw [hok] at hRk
    have HB:=Lib.hid hbad
    clear hbad hok hR h0
    generalize (readS (L.getD k [])).1=t at *
    generalize L.getD k []=lk at *
    go_wp2_with (go_at_call 96;refine (hRk _).mono ?_)
    rintro e W1 ⟨rfl,b1⟩
    go_wp2
    go_ret
    obtain ⟨A1,m1,x1,rfl⟩:=owns_slice hI.own
    exact .inl ⟨rfl,hI.below.trans (b1.mono (by omega)),⟨_,_,_,hI.evt.below (by omega) b1⟩,.inr HB.out⟩
   | true =>
    rw [hok] at hRk
    have hstep:hcells (revsTo ev.user L (k+1))=hcells (revsTo ev.user L k) ++ rcells (revAt ev.user k (L.getD k [])):=by rw [revsTo_succ,hcells_snoc]
    have hall:∀ i,i<k+1→(readS (L.getD i [])).2=true:=fun i hi=>by
     by_cases h:i<k
     ·exact hI.ok i h
     ·rw [show i=k from by omega];exact hok
    unfold revAt rcells at hstep
    have HS:=Lib.hid hstep
    have HA:=Lib.hid hall
    clear hstep hall hok hR h0
    generalize (readS (L.getD k [])).1=t at *
    generalize L.getD k []=lk at *
    go_wp2_with (go_at_call 96;refine (hRk _).mono ?_)
    rintro e W1 ⟨rfl,b1⟩
    have hbw:b<wr.heap.size:=by omega
    have hI1:=hI.evt.below hbw b1
    have ho1:=owns_below hI.own b1
    have hb1:Below b w W1:=hI.below.trans (b1.mono (by omega))
    have hz1':=b1.size
    have c1:=hI1.c1
    have c10:=hI1.c10
    have f10:=hI1.fr 10 (by decide)
    clear hI b1 hRk c
    go_upto_region 7 with fail
    have hw1:IntKind.i64.wrap ((k:Int)+1)=(k:Int)+1:=IntWalk.i64_in _ ⟨by omega,by omega⟩
    have hdr:W1.drew.heap.size=W1.heap.size:=rfl
    clear HN
    have hbase:∀ o,w.heap.size≤(W1.drew.alloc o).heap.size:=fun o=>by show _≤(W1.heap.push _).size;rw [Array.size_push];omega
    have c10a:∀ o,(W1.alloc o).cell? ⟨b,10,none⟩=some hv:=fun o=>(((Below.refl W1.heap.size W1).alloc (Nat.le_refl _) o).cell (p:=⟨b,10,none⟩) hI1.lt).trans c10
    go_region_law (refine step_append_own rfl (.tmp 27) (.tmp 36) 31 rfl w.heap.size 66 i0 _ 6 72 und31 hi hz0 hz1 hz2 rfl (by decide) hv k (hcells (revsTo ev.user L k)) rfl (World.ownsRow.alloc ho1 _) ⟨W1.heap.size,0,none⟩ 1 1 [.int .i64 ((k:Int)+1),.string ⟨ev.user.toArray⟩,.string ⟨#[]⟩,.string ⟨t.toArray⟩,.int .i64 0,.int .i64 0] rfl rfl (cell_new _ _ _) (one_cells _ _ _) (by unfold maxLen;omega) (by omega) (hbase _) ?_;intro v1 w1 hown1 hgrow1 _hnil;obtain ⟨A1,m1,x1,rfl⟩:=owns_slice hown1;have hq:=imp_push hbl hI1 hb1 ho1 (Nat.le_trans hz hz1') hgrow1;have c10':=hq.1.c10;have f10':=hq.1.fr 10 (by decide))
    all_goals
     go_wp2
     go_roundw
     case rel=>exact ⟨k+1,_,by omega,by go_num,imp_next hq.1 hq.2.1 hq.2.2 hbl hown1 HS.out HA.out⟩
     case measure=>simp [intOf];omega
  ·have hkn:k=n:=by omega
   subst hkn
   by_cases hpos:0<k
   ·go_wp2
    go_ret
    exact .inr ⟨rfl,by rw [HN.out];exact hpos,hv,by rw [HN.out];exact hI⟩
   ·go_wp2
    go_ret
    obtain ⟨A1,m1,x1,rfl⟩:=owns_slice hI.own
    exact .inl ⟨rfl,hI.below,⟨_,_,_,hI.evt⟩,.inl (List.length_eq_zero_iff.1 (by rw [HN.out];omega))⟩
end Go.Proofs
namespace Go.Proofs
open Go.RowKit Go.Sp
def runeB:Fld→UInt8
 | .user=>117 | .title=>116 | .to=>111 | .text=>120 | .note=>110 | .base=>98 | .num=>78 | .many=>42
def kstr (f:Sp.Form):Bs:=f.kinds.map runeB ++ (if f.many then [42] else [])
def fcells (f:Sp.Form):List Value:=[.string ⟨f.verb.toArray⟩,.string ⟨(kstr f).toArray⟩,.int .i64 f.kind]
def formAt (i:Nat):Sp.Form:=forms.getD i ⟨[],[],false,0⟩
def formsCells:Array Value:=(forms.flatMap fcells).toArray
structure FRow (w:World) (B:Nat):Prop where
 verb:∀ i,i<21→w.cell? ⟨B,3 * i,none⟩=some (.string ⟨(formAt i).verb.toArray⟩)
 kinds:∀ i,i<21→w.cell? ⟨B,3 * i+1,none⟩=some (.string ⟨(kstr (formAt i)).toArray⟩)
 kind:∀ i,i<21→w.cell? ⟨B,3 * i+2,none⟩=some (.int .i64 (formAt i).kind)
theorem FRow.below {w w':World} {B b:Nat} (h:FRow w B) (hB:B<b) (x:Below b w w'):FRow w' B :=
 ⟨fun i hi=>(x.cell (p:=⟨B,3 * i,none⟩) hB).trans (h.verb i hi),fun i hi=>(x.cell (p:=⟨B,3 * i+1,none⟩) hB).trans (h.kinds i hi),fun i hi=>(x.cell (p:=⟨B,3 * i+2,none⟩) hB).trans (h.kind i hi)⟩
theorem formsAt (i:Nat) (hi:i<21):formsCells[3 * i]? = some (.string ⟨(formAt i).verb.toArray⟩)∧formsCells[3 * i+1]? = some (.string ⟨(kstr (formAt i)).toArray⟩)∧formsCells[3 * i+2]? = some (.int .i64 (formAt i).kind):=by
 have:i=0∨i=1∨i=2∨i=3∨i=4∨i=5∨i=6∨i=7∨i=8∨i=9∨i=10∨i=11∨i=12∨i=13∨i=14∨i=15∨i=16∨i=17∨i=18∨i=19∨i=20:=by omega
 rcases this with rfl | rfl | rfl | rfl | rfl | rfl | rfl | rfl | rfl | rfl | rfl | rfl | rfl | rfl | rfl | rfl | rfl | rfl | rfl | rfl | rfl <;> exact ⟨rfl,rfl,rfl⟩
theorem FRow.new (w:World):FRow (w.alloc (.cells formsCells 79)) w.heap.size:=by
 constructor <;> intro i hi <;> obtain ⟨h1,h2,h3⟩:=formsAt i hi <;> simpa [World.cell?,World.alloc,-World.alloc_eq]
def RetForms (w:World) (e:Ending) (w':World):Prop:=e=.returned (.slice (some ⟨w.heap.size,0,none⟩) 21 21)∧Below w.heap.size w w'∧FRow w' w.heap.size∧w.heap.size<w'.heap.size
set_option maxRecDepth 100000 in
set_option maxHeartbeats 4000000 in
theorem forms_ok (w:World):Calls Tryz.prog 35 #[] w (RetForms w):=by
 have hf:RetForms w (.returned (.slice (some ⟨w.heap.size,0,none⟩) 21 21)) (w.alloc (.cells formsCells 79)):=⟨rfl,(Below.refl _ w).alloc (Nat.le_refl _) _,FRow.new w,by simp⟩
 have HF:=Lib.hid hf
 clear hf
 go_enter Tryz.func35,Tryz.ntmps35
 go_wp2
 go_ret
 exact HF.out
end Go.Proofs
namespace Go.Proofs
open Go.RowKit Go.Sp
structure WVar (w:World) (V B n c:Nat) (v:Bs):Prop where
 var:w.cell? ⟨V,0,none⟩=some (.slice (some ⟨B,0,none⟩) n c)
 head:w.cell? ⟨B,0,none⟩=some (.string ⟨v.toArray⟩)
 ltV:V<w.heap.size
 ltB:B<w.heap.size
theorem WVar.below {w w':World} {V B n c:Nat} {v:Bs} (h:WVar w V B n c v) (x:Below w.heap.size w w'):WVar w' V B n c v :=
 ⟨(x.cell (p:=⟨V,0,none⟩) h.ltV).trans h.var,(x.cell (p:=⟨B,0,none⟩) h.ltB).trans h.head,Nat.lt_of_lt_of_le h.ltV x.size,Nat.lt_of_lt_of_le h.ltB x.size⟩
set_option maxRecDepth 100000 in
set_option maxHeartbeats 4000000 in
theorem pred_ok (a b:Bs) (m:Int) (V B n c:Nat) (v:Bs) (w:World) (hn:0<n) (h:WVar w V B n c v):Calls Tryz.prog 63 #[.agg #[.string ⟨a.toArray⟩,.string ⟨b.toArray⟩,.int .i64 m],.pointer (some ⟨V,0,none⟩)] w (RetB (.bool (a == v)) w):=by
 have h1:=h.var
 have h2:=h.head
 have h3:=h.ltV
 have h4:=h.ltB
 clear h
 go_enter Tryz.func63,Tryz.ntmps63
 go_upto_region 1 with fail
 have hb:=(Below.refl w.heap.size w).alloc (Nat.le_refl _) (.cells #[.string ⟨a.toArray⟩,.string ⟨b.toArray⟩,.int .i64 m] 79)
 have c0:(w.alloc (.cells #[.string ⟨a.toArray⟩,.string ⟨b.toArray⟩,.int .i64 m] 79)).cell? ⟨w.heap.size,0,none⟩=some (.string ⟨a.toArray⟩):=by simp [World.cell?,World.alloc,-World.alloc_eq]
 have c1:=(hb.cell (p:=⟨V,0,none⟩) h3).trans h1
 have c2:=(hb.cell (p:=⟨B,0,none⟩) h4).trans h2
 generalize w.alloc (.cells #[.string ⟨a.toArray⟩,.string ⟨b.toArray⟩,.int .i64 m] 79)=W at *
 clear h1 h2 h3 h4
 go_region
 go_wp2
 go_ret
 exact ⟨by simp,hb.drew⟩
def idxF (v:Bs):Nat→Nat→Int
 | 0,_ => -1
 | m+1,k=>if (formAt k).verb=v then (k:Int) else idxF v m (k+1)
theorem idxF_succ (v:Bs) (m k:Nat):idxF v (m+1) k=if (formAt k).verb=v then (k:Int) else idxF v m (k+1):=rfl
theorem enter63:∀ args w,(callFunc 63 args).run Tryz.prog w=.ok (.enter 63 args) w:=enters_of Tryz.func63 (by kernel_rfl) rfl
structure IdxRel (w:World) (B V W0 n c:Nat) (v:Bs) (k:Nat) (r:Int) (wr:World):Prop where
 below:Below w.heap.size w wr
 row:FRow wr B
 var:WVar wr V W0 n c v
 eq:r=idxF v (21 - k) k
set_option maxRecDepth 100000 in
set_option maxHeartbeats 4000000 in
theorem index_ok (B V W0 n c:Nat) (v:Bs) (w:World) (hn:0<n) (hB:B<w.heap.size) (h:FRow w B) (hv:WVar w V W0 n c v):Calls Tryz.prog 36 #[.slice (some ⟨B,0,none⟩) 21 21,.func (.func 63) #[] #[.pointer (some ⟨V,0,none⟩)]] w (RetB (.int .i64 (idxF v 21 0)) w):=by
 have h0:IdxRel w B V W0 n c v 0 (idxF v 21 0) w:=⟨Below.refl _ _,h,hv,rfl⟩
 clear h hv
 have hen:=enter63
 generalize idxF v 21 0=r at *
 go_enter Tryz.func36,Tryz.ntmps36
 go_wp2
 go_loopw [8] (fun i wr=>∃ (k:Nat),k≤21∧i=.int .i64 k∧IdxRel w B V W0 n c v k r wr) (fun i _=>21 - (intOf i).toNat)
 case atStart=>exact ⟨0,Nat.zero_le _,rfl,h0⟩
 case round =>
  obtain ⟨k,hk,rfl,hI⟩:=hrel
  clear h0
  by_cases hlt:k<21
  ·have c0:=hI.row.verb k hlt
   have c1:=hI.row.kinds k hlt
   have c2:=hI.row.kind k hlt
   have hP:=pred_ok (formAt k).verb (kstr (formAt k)) (formAt k).kind V W0 n c v
   generalize hq:(formAt k).verb=q at *
   generalize kstr (formAt k)=q1 at *
   generalize (formAt k).kind=q2 at *
   rw [show 3 * k=k * 3 from by omega] at c0 c1 c2
   go_wp2_with (go_at_call 63;refine (hP wr hn hI.var).mono ?_)
   rintro e W1 ⟨rfl,b1⟩
   have hx:=hI.below.size
   have hrow:=hI.row.below (Nat.lt_of_lt_of_le hB hx) b1
   have hvar:=hI.var.below b1
   have hbel:=hI.below.trans (b1.mono hx)
   have heq:=hI.eq
   clear hI c0 c1 c2 hP b1
   have hs:idxF v (21 - k) k=if q=v then (k:Int) else idxF v (21 - (k+1)) (k+1):=by
    rw [show 21 - k=(21 - (k+1))+1 from by omega,idxF_succ,hq]
   by_cases hqv:q=v
   ·have f1:(q == v)=true:=by simp [hqv]
    rw [if_pos hqv] at hs
    have HS:=Lib.hid (hs.symm.trans heq.symm)
    clear hs heq hq hqv
    go_wp2
    go_ret
    exact ⟨by rw [← HS.out];rfl,hbel⟩
   ·have f1:(q == v)=false:=by simp [hqv]
    rw [if_neg hqv] at hs
    have HS:=Lib.hid (heq.trans hs)
    clear hs heq hq hqv
    go_wp2
    go_roundw
    case rel=>exact ⟨k+1,by omega,by go_num,hbel,hrow,hvar,HS.out⟩
    case measure=>simp [intOf];omega
  ·have hkn:k=21:=by omega
   subst hkn
   go_wp2
   go_ret
   exact ⟨by rw [hI.eq];rfl,hI.below⟩
end Go.Proofs
