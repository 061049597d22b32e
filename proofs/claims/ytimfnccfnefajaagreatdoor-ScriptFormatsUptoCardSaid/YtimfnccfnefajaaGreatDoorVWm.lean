/- A part of the proof: Gf, Gg -/
import Derived.Test.YtimfnccfnefajaaGreatDoorVWl
import Derived.Test.YtimfnccfnefajaaGreatDoorVWk
import Derived.Deep.Cut
import Derived.Deep.DeepCutAuto
set_option linter.unusedSimpArgs false
set_option linter.unusedVariables false
namespace Go.Proofs
open Go.RowKit Go.Sp
theorem owns_gk {W W':World} {sb base e size:Nat} {v:Value} {n:Nat} {xs:List Value} (h:W.ownsRow base e size v n xs) (k:GK sb W W') (hb:sb<base):W'.ownsRow base e size v n xs:=by
 refine ⟨h.1,?_⟩
 rcases h.2 with h2 | ⟨g,cap,cur,hv,hg,hh,hr⟩
 ·exact .inl h2
 ·exact .inr ⟨g,cap,cur,hv,hg,(k.keep.block g (Array.getElem?_eq_some_iff.1 hh).1 (by omega)).trans hh,hr⟩
theorem GK.grown {sb:Nat} {w W w1:World} {v:Value} {e size n:Nat} {xs:List Value} {o:Obj} (h:GK sb w W) (k:W.ownsRow w.heap.size e size v n xs) (hg:(W.alloc o).grownBy w1 v.ownBlock):GK sb w w1:=by
 have hx:Below w.heap.size W w1:=((Below.refl _ W).alloc h.keep.size o).grown hg (by have:=h.keep.size;simp;omega) (fun g hh=>owns_base k g hh)
 have hs:=h.lt
 obtain ⟨A,m,c,i,s,q⟩:=h.src
 exact ⟨h.lt,h.below.trans (hx.mono (Nat.le_of_lt h.lt)),⟨Nat.le_trans h.keep.size hx.size,fun j hj hn=>(hx.block j hj).trans (h.keep.block j hj hn)⟩,A,m,c,i,s,q.below h.lt hx⟩
def RetV (sb:Nat) (w:World) (e:Ending) (w':World):Prop:=∃ (hist:List Rev) (v:Value),1≤hist.length∧hist.length≤3∧(∀ r∈hist,r.text.length≤300)∧e=.returned v∧GK sb w w'∧w'.ownsRow w.heap.size 66 6 v hist.length (hcells hist)
set_option maxRecDepth 100000 in
set_option maxHeartbeats 4000000 in
theorem revisions_ok (sb:Nat) (w:World) (h:SrcOk w sb):Calls Tryz.prog 34 #[.pointer (some ⟨sb,0,none⟩),.int .i64 0] w (RetV sb w):=by
 obtain ⟨i0,hi,hz0,hz1,hz2⟩:=info_parts info66
 have hN:=fun W h=>next_ok 3 sb W (by decide) (by decide) h
 have hU:=fun W h=>user_ok sb W h
 have hNo:=fun W h=>note_ok sb W h
 have hTx:=fun W h=>text_ok sb W h
 have hsb:=h.lt
 have hN0:=hN w h
 clear h
 go_enter Tryz.func34,Tryz.ntmps34
 go_wp2_with (go_at_call 28;refine hN0.mono ?_)
 rintro e W ⟨k,hk,rfl,hG⟩
 clear hN0
 have hw1:wrap64 (1+(k:Int))=((k+1:Nat):Int):=by rw [IntWalk.wrap64_in _ ⟨by omega,by omega⟩];omega
 have HW1:=Lib.hid hw1
 clear hw1
 go_wp2
 go_loopw [5,6,7] (fun v m c wr=>∃ (hist:List Rev) (j:Nat),m=.int .i64 0∧c=.int .i64 j∧hist.length+j=k+1∧(∀ r∈hist,r.text.length≤300)∧GK sb w wr∧wr.ownsRow w.heap.size 66 6 v hist.length (hcells hist)) (fun _ _ c _=>(intOf c).toNat)
 case atStart=>exact ⟨[],k+1,rfl,by rw [show 1+(k:Int)=((k+1:Nat):Int) by omega],by simp,by simp,hG,World.ownsRow_nil _ _ _ _⟩
 case round =>
  obtain ⟨hist,j,rfl,rfl,hsum,hall,hI,hown⟩:=hrel
  by_cases hj:0<j
  ·obtain ⟨A,m,c,rfl⟩:=owns_slice hown
   have hm:=(owns_rd hown).1
   have hj1:(0:Int)<j:=by omega
   have hlen:=hsum
   generalize hl:hist.length=l at *
   have HL:=Lib.hid hl
   clear hl
   subst hm
   go_wp2_with (go_at_call 30;refine (hU _ hI.src).mono ?_)
   rintro e W1 ⟨u,hu,rfl,g1⟩
   have hI1:=hI.trans g1
   have ho1:=owns_gk hown g1 hsb
   clear hI g1 hown hU
   go_wp2_with (go_at_call 33;refine (hNo _ hI1.src).mono ?_)
   rintro e W2 ⟨no,hno,rfl,g2⟩
   have hI2:=hI1.trans g2
   have ho2:=owns_gk ho1 g2 hsb
   clear hI1 g2 ho1 hNo
   go_wp2_with (go_at_call 32;refine (hTx _ hI2.src).mono ?_)
   rintro e W3 ⟨tx,htx,rfl,g3⟩
   have hI3:=hI2.trans g3
   have ho3:=owns_gk ho2 g3 hsb
   have hz:=hI3.keep.size
   clear hI2 g3 ho2 hTx
   go_wp2_with (at_builtin;refine wpList_append_own _ rfl _ _ 31 rfl w.heap.size 66 i0 _ 6 72 und31 hi hz0 hz1 hz2 rfl (by decide) _ m (hcells hist) rfl (ho3.alloc _) ⟨W3.heap.size,0,none⟩ 1 1 [.int .i64 ((m:Int)+1),.string ⟨u.toArray⟩,.string ⟨no.toArray⟩,.string ⟨tx.toArray⟩,.int .i64 0,.int .i64 0] rfl rfl (cell_new _ _ _) (by intro x hx;simp only [List.mem_cons,List.not_mem_nil,or_false] at hx;rcases hx with rfl | rfl | rfl | rfl | rfl | rfl <;> rfl) (by unfold maxLen;omega) (by omega) (by simp;omega) ?_;intro v1 w1 hown1 hgrow1 _hnil)
   have hg4:GK sb w w1:=hI3.grown ho3 hgrow1
   clear hgrow1 _hnil hI3 ho3
   go_wp2_with (go_at_call 28;refine (hN _ hg4.src).mono ?_)
   rintro e W4 ⟨k4,hk4,rfl,g4⟩
   have hI5:=hg4.trans g4
   have ho5:=owns_gk hown1 g4 hsb
   have ho6:W4.ownsRow w.heap.size 66 6 v1 (hist ++ [(⟨(m:Int)+1,u,no,tx,0,0⟩:Rev)]).length (hcells (hist ++ [⟨(m:Int)+1,u,no,tx,0,0⟩])):=by
    rw [hcells_snoc,List.length_append,HL.out];exact ho5
   have hall2:∀ r∈hist ++ [(⟨(m:Int)+1,u,no,tx,0,0⟩:Rev)],r.text.length≤300:=fun r hr=>by
    rcases List.mem_append.1 hr with h | h
    ·exact hall r h
    ·rw [List.mem_singleton.1 h];exact htx
   have hl2:(hist ++ [(⟨(m:Int)+1,u,no,tx,0,0⟩:Rev)]).length=m+1:=by rw [List.length_append,HL.out];rfl
   have HL2:=Lib.hid hl2
   clear hl2 hg4 g4 hown1 ho5 hN
   go_wp2
   go_roundw
   case rel=>exact ⟨_,j - 1,by rw [show min (0:Int) (k4:Int)=0 by omega],by go_num,by rw [HL2.out];omega,hall2,hI5,ho6⟩
   case measure=>simp [intOf];omega
  ·have hj1:¬ (0:Int)<j:=by omega
   obtain ⟨A,m,c,rfl⟩:=owns_slice hown
   clear hN hU hNo hTx hi hz0 hz1 hz2
   go_wp2
   go_ret
   exact ⟨hist,_,by omega,by omega,hall,rfl,hI,hown⟩
end Go.Proofs
namespace Go.Proofs
open Go.RowKit Go.Sp
theorem EBlk.gk {W W':World} {sb b:Nat} {e:Ev} {h:Value} (k:EBlk W b e h) (g:GK sb W W') (hb:b≠sb):EBlk W' b e h:=k.keep (g.keep.block b k.lt hb) g.keep.size
theorem EBlk.drew {W:World} {b:Nat} {e:Ev} {h:Value} (k:EBlk W b e h):EBlk W.drew b e h:=⟨k.c0,k.c1,k.c2,k.c3,k.c4,k.c5,k.c6,k.c7,k.c8,k.c9,k.c10,k.fr,k.lt⟩
structure St (w:World) (sb:Nat) (ob:Option Nat) (ev:Ev) (h:Value) (W:World):Prop where
 gk:GK sb w W
 res:EBlk W w.heap.size (ev0 0) (.slice none 0 0)
 evt:∀ b,ob=some b→EBlk W b ev h∧w.heap.size<b
theorem St.first {w:World} {sb:Nat} (h:SrcOk w sb):St w sb none (ev0 0) (.slice none 0 0) (w.alloc (.cells (ecells (ev0 0) (.slice none 0 0)) 33)) :=
 ⟨(GK.refl h).alloc _,EBlk.new w _ _,fun b hb=>by cases hb⟩
theorem St.drew {w W:World} {sb:Nat} {ob:Option Nat} {ev:Ev} {h:Value} (k:St w sb ob ev h W):St w sb ob ev h W.drew :=
 ⟨k.gk.drewN 1,k.res.drew,fun b hb=>⟨(k.evt b hb).1.drew,(k.evt b hb).2⟩⟩
theorem St.alloc {w W:World} {sb:Nat} {o1:Option Nat} {e1:Ev} {h1:Value} (k:St w sb o1 e1 h1 W) (ev:Ev) (h:Value):St w sb (some W.heap.size) ev h (W.alloc (.cells (ecells ev h) 33)) :=
 ⟨k.gk.alloc _,k.res.below k.res.lt ((Below.refl _ W).alloc (Nat.le_refl _) _),fun b hb=>by
  obtain rfl:=Option.some.inj hb
  exact ⟨EBlk.new W ev h,k.res.lt⟩⟩
theorem St.step {w W W':World} {sb:Nat} {ob:Option Nat} {ev:Ev} {h:Value} (k:St w sb ob ev h W) (g:GK sb W W'):St w sb ob ev h W':=by
 have hs:=k.gk.lt
 exact ⟨k.gk.trans g,k.res.gk g (by omega),fun b hb=>⟨(k.evt b hb).1.gk g (by have:=(k.evt b hb).2;omega),(k.evt b hb).2⟩⟩
theorem next_st {w W:World} {sb:Nat} {ob:Option Nat} {ev:Ev} {h:Value} (n:Nat) (hn:0<n) (hn2:n≤2147483648) (k:St w sb ob ev h W):Calls Tryz.prog 28 #[.pointer (some ⟨sb,0,none⟩),.int .i64 n] W (fun e w'=>∃ k:Nat,k<n∧e=.returned (.int .i64 k)∧St w sb ob ev h w') :=
 (next_ok n sb W hn hn2 k.gk.src).mono fun _ _ ⟨j,h1,h2,h3⟩=>⟨j,h1,h2,k.step h3⟩
theorem user_st {w W:World} {sb:Nat} {ob:Option Nat} {ev:Ev} {h:Value} (k:St w sb ob ev h W):Calls Tryz.prog 30 #[.pointer (some ⟨sb,0,none⟩)] W (fun e w'=>∃ s:Bs,s.length≤40∧e=.returned (.string ⟨s.toArray⟩)∧St w sb ob ev h w') :=
 (user_ok sb W k.gk.src).mono fun _ _ ⟨j,h1,h2,h3⟩=>⟨j,h1,h2,k.step h3⟩
theorem note_st {w W:World} {sb:Nat} {ob:Option Nat} {ev:Ev} {h:Value} (k:St w sb ob ev h W):Calls Tryz.prog 33 #[.pointer (some ⟨sb,0,none⟩)] W (fun e w'=>∃ s:Bs,s.length≤40∧e=.returned (.string ⟨s.toArray⟩)∧St w sb ob ev h w') :=
 (note_ok sb W k.gk.src).mono fun _ _ ⟨j,h1,h2,h3⟩=>⟨j,h1,h2,k.step h3⟩
theorem text_st {w W:World} {sb:Nat} {ob:Option Nat} {ev:Ev} {h:Value} (k:St w sb ob ev h W):Calls Tryz.prog 32 #[.pointer (some ⟨sb,0,none⟩)] W (fun e w'=>∃ s:Bs,s.length≤300∧e=.returned (.string ⟨s.toArray⟩)∧St w sb ob ev h w') :=
 (text_ok sb W k.gk.src).mono fun _ _ ⟨j,h1,h2,h3⟩=>⟨j,h1,h2,k.step h3⟩
theorem title_st {w W:World} {sb:Nat} {ob:Option Nat} {ev:Ev} {h:Value} (k:St w sb ob ev h W):Calls Tryz.prog 31 #[.pointer (some ⟨sb,0,none⟩)] W (fun e w'=>∃ sp n,valid sp n=true∧n.length≤3∧e=.returned (.agg #[.int .i64 sp,.string ⟨n.toArray⟩])∧St w sb ob ev h w') :=
 (title_made sb W k.gk.src).mono fun _ _ ⟨sp,n,h0,h1,h2,h3⟩=>⟨sp,n,h0,h1,h2,k.step h3⟩
def kinds30:List Nat:=[1,1,1,1,1,2,3,4,5,6,7,8,9,10,11,11,11,12,12,12,13,14,15,16,17,18,19,19,19,20]
theorem kind_at {k:Nat} (hk:k<30):∃ kd:Nat,1≤kd∧kd≤20∧∀ W,(Instr.index 71 (.agg #[.int .i64 1,.int .i64 1,.int .i64 1,.int .i64 1,.int .i64 1,.int .i64 2,.int .i64 3,.int .i64 4,.int .i64 5,.int .i64 6,.int .i64 7,.int .i64 8,.int .i64 9,.int .i64 10,.int .i64 11,.int .i64 11,.int .i64 11,.int .i64 12,.int .i64 12,.int .i64 12,.int .i64 13,.int .i64 14,.int .i64 15,.int .i64 16,.int .i64 17,.int .i64 18,.int .i64 19,.int .i64 19,.int .i64 19,.int .i64 20]) (.int .i64 k)).run Tryz.prog W=.ok (.int .i64 kd) W:=by
 have hm:∀ x∈kinds30,1≤x∧x≤20:=by decide
 have hl:k<kinds30.length:=hk
 have h1:=hm _ (List.getElem_mem hl)
 refine ⟨kinds30[k],h1.1,h1.2,idx_one u71 p3 i3 c3 hk ?_⟩
 show ((kinds30.map fun x:Nat=>Value.int .i64 (x:Int)).toArray)[k]? = _
 rw [List.getElem?_toArray,List.getElem?_map,List.getElem?_eq_getElem hl];rfl
theorem St.cell {w W:World} {sb B:Nat} {ev ev':Ev} {h h':Value} (k:St w sb (some B) ev h W) (i:Nat) (v:Value) (hE:EBlk (W.setCell ⟨B,i,none⟩ v) B ev' h'):St w sb (some B) ev' h' (W.setCell ⟨B,i,none⟩ v):=by
 have hB:=(k.evt B rfl).2
 refine ⟨k.gk.store (Nat.le_of_lt hB) i v,k.res.keep (Below.heap_setCell _ _ _ _ (by show w.heap.size≠B;omega)) (by simp),fun b hb=>?_⟩
 obtain rfl:=Option.some.inj hb
 exact ⟨hE,hB⟩
theorem St.put {w W:World} {sb B:Nat} {ev:Ev} {h:Value} (k:St w sb (some B) ev h W) (x:Ev) (g:Value):St w sb (some B) { x with hist:=ev.hist } g (putE W B x g):=by
 have hB:=(k.evt B rfl).2
 have hb:=Nat.le_of_lt hB
 have hg:=k.gk
 refine ⟨((((((((((hg.store hb _ _).store hb _ _).store hb _ _).store hb _ _).store hb _ _).store hb _ _).store hb _ _).store hb _ _).store hb _ _).store hb _ _).store hb _ _,k.res.keep ((putE_below W B W x g (Below.refl _ _)).block _ hB) (by simp),fun b hb=>?_⟩
 obtain rfl:=Option.some.inj hb
 exact ⟨(k.evt B rfl).1.put x g,hB⟩
structure Ev1 (x:Ev):Prop where
 kind:1≤x.kind∧x.kind≤20
 user:x.user.length≤40
 title:valid x.tSp x.tN=true
 tN:x.tN.length≤3
 note:x.note=[]
 text:x.text=[]
 oN:x.oN=[]
 hist:x.hist=[]
structure Ev2 (x:Ev):Prop where
 b:Ev1 x
 base:0≤x.base∧x.base≤3
 n:0≤x.n∧x.n≤2000
structure MadeEv (x:Ev):Prop where
 kind:1≤x.kind∧x.kind≤20
 user:x.user.length≤40
 title:valid x.tSp x.tN=true
 tN:x.tN.length≤3
 note:x.note.length≤40
 text:x.text.length≤300
 oN:x.oN.length≤3
 «to»:x.kind=2→valid x.oSp x.oN=true
 base:0≤x.base∧x.base≤3
 n:0≤x.n∧x.n≤2000
 h5:x.kind=5→1≤x.hist.length
 h3:x.hist.length≤3
 ht:∀ r∈x.hist,r.text.length≤300
def RetEv (sb:Nat) (w:World) (e:Ending) (w':World):Prop:=∃ x A m c,MadeEv x∧e=.returned (evV x (.slice A m c))∧GK sb w w'∧w'.ownsRow w.heap.size 66 6 (.slice A m c) x.hist.length (hcells x.hist)
theorem GK.putE {sb:Nat} {w W:World} (k:GK sb w W) {b:Nat} (hb:w.heap.size≤b) (x:Ev) (g:Value):GK sb w (putE W b x g) :=
 ((((((((((k.store hb _ _).store hb _ _).store hb _ _).store hb _ _).store hb _ _).store hb _ _).store hb _ _).store hb _ _).store hb _ _).store hb _ _).store hb _ _
theorem revs_st {w W:World} {sb:Nat} {ob:Option Nat} {ev:Ev} {h:Value} (k:St w sb ob ev h W):Calls Tryz.prog 34 #[.pointer (some ⟨sb,0,none⟩),.int .i64 0] W (fun e w'=>∃ (hist:List Rev) (v:Value),1≤hist.length∧hist.length≤3∧(∀ r∈hist,r.text.length≤300)∧e=.returned v∧St w sb ob ev h w'∧w'.ownsRow W.heap.size 66 6 v hist.length (hcells hist)) :=
 (revisions_ok sb W k.gk.src).mono fun _ _ ⟨hi,v,h0,h1,h2,h3,h4,h5⟩=>⟨hi,v,h0,h1,h2,h3,k.step h4,h5⟩
def Fin (w:World) (sb B:Nat) (h:Value) (W:World):Prop:=∃ z:Ev,MadeEv z∧St w sb (some B) z h W∧W.ownsRow (w.heap.size+1) 66 6 h z.hist.length (hcells z.hist)
theorem Fin.of {w W:World} {sb B:Nat} {h:Value} {z:Ev} (hS:St w sb (some B) z h W) (hM:MadeEv z) (hO:W.ownsRow (w.heap.size+1) 66 6 h z.hist.length (hcells z.hist)):Fin w sb B h W:=⟨z,hM,hS,hO⟩
theorem Fin.nil {w W:World} {sb B:Nat} {z:Ev} (hS:St w sb (some B) z (.slice none 0 0) W) (hM:MadeEv z) (hz:z.hist=[]):Fin w sb B (.slice none 0 0) W:=⟨z,hM,hS,by rw [hz];exact World.ownsRow_nil _ _ _ _⟩
set_option maxRecDepth 100000 in
set_option maxHeartbeats 4000000 in
theorem event_ok (sb:Nat) (w:World) (h:SrcOk w sb):Calls Tryz.prog 18 #[.pointer (some ⟨sb,0,none⟩)] w (RetEv sb w):=by
 have hS0:=St.first h
 have hsb:=h.lt
 clear h
 unfold ecells ev0 at hS0
 go_enter Tryz.func18,Tryz.ntmps18
 go_upto_region 1 with fail
 change St w sb none (ev0 0) (.slice none 0 0) _ at hS0
 generalize w.alloc _=W0 at *
 go_cut [3] from 4 (fun b wx=>∃ (B:Nat) (x:Ev),b=.pointer (some ⟨B,0,none⟩)∧St w sb (some B) x (.slice none 0 0) wx∧Ev1 x)
 case first =>
  go_region_with (first
   | (go_at_call 28;refine (next_st 30 (by decide) (by decide) (show St w sb _ _ _ _ by first | exact hS0 | exact hS0.drew | exact hS0.alloc (ev0 0) (.slice none 0 0) | exact hS0.drew.alloc (ev0 0) (.slice none 0 0) | exact (hS0.alloc (ev0 0) (.slice none 0 0)).drew)).mono ?_;rintro e w1 ⟨k,hk,rfl,hS1⟩;obtain ⟨kd,hk1,hk2,hx⟩:=kind_at hk)
   | (go_at_call 30;refine (user_st (show St w sb _ _ _ _ by first | exact hS1 | exact hS1.alloc (ev0 0) (.slice none 0 0))).mono ?_;rintro e w2 ⟨us,hus,rfl,hS2⟩)
   | (go_at_call 31;refine (title_st (show St w sb _ _ _ _ by first | exact hS2 | exact hS2.alloc (ev0 0) (.slice none 0 0))).mono ?_;rintro e w3 ⟨sp,tn,hv,htn,rfl,hS3⟩;try ((first | have hE:=(hS3.evt W0.heap.size rfl).1 | have hE:=(hS3.evt w1.heap.size rfl).1 | have hE:=(hS3.evt w2.heap.size rfl).1);have c0:=hE.c0;have c1:=hE.c1;have c2:=hE.c2;have c3:=hE.c3;have c4:=hE.c4;have c5:=hE.c5;have c6:=hE.c6;have c7:=hE.c7;have c8:=hE.c8;have c9:=hE.c9;have c10:=hE.c10;have f0:=hE.fr 0 (by decide);have f1:=hE.fr 1 (by decide);have f2:=hE.fr 2 (by decide);have f3:=hE.fr 3 (by decide);have f4:=hE.fr 4 (by decide);have f5:=hE.fr 5 (by decide);have f6:=hE.fr 6 (by decide);have f7:=hE.fr 7 (by decide);have f8:=hE.fr 8 (by decide);have f9:=hE.fr 9 (by decide);have f10:=hE.fr 10 (by decide);clear hE)))
  all_goals
   go_wp2_with fail
   go_meet
   have h1:Ev1 (⟨kd,us,[],sp,tn,0,[],[],0,0,[]⟩:Ev):=⟨⟨by show (1:Int)≤kd;omega,by show (kd:Int)≤20;omega⟩,hus,hv,htn,rfl,rfl,rfl,rfl⟩
   first
    | exact ⟨_,(⟨kd,us,[],sp,tn,0,[],[],0,0,[]⟩:Ev),rfl,hS3.alloc (⟨kd,us,[],sp,tn,0,[],[],0,0,[]⟩:Ev) (.slice none 0 0),h1⟩
    | exact ⟨_,(⟨kd,us,[],sp,tn,0,[],[],0,0,[]⟩:Ev),rfl,hS3.put (⟨kd,us,[],sp,tn,0,[],[],0,0,[]⟩:Ev) (.slice none 0 0),h1⟩
 case rest =>
  obtain ⟨B,x,rfl,hS,hx⟩:=hcut
  clear hS0
  have hB:=(hS.evt B rfl).2
  go_wp2_with (go_at_call 28;refine (next_st 3 (by decide) (by decide) hS).mono ?_)
  rintro e W1 ⟨k1,hk1,rfl,hS1⟩
  clear hS
  have q8:=(hS1.evt B rfl).1.c8
  go_wp2_with (go_at_call 28;refine (next_st 4 (by decide) (by decide) hS1).mono ?_)
  rintro e W2 ⟨k2,hk2,rfl,hS2⟩
  clear hS1 q8
  have hE:=(hS2.evt B rfl).1
  have p8:=hE.c8
  have p9:=hE.c9
  have f8:=hE.fr 8 (by decide)
  have f9:=hE.fr 9 (by decide)
  have hS3:=(hS2.cell 9 (.int .i64 k1) (hE.setN k1))
  have hS4:=(hS3.cell 8 (.int .i64 k2) ((hS3.evt B rfl).1.setBase k2))
  clear hE hS2 hS3
  go_upto_region 3 with fail
  generalize (W2.setCell _ _).setCell _ _=W3 at *
  have hyk:Ev2 ({ x with n:=(k1:Int),base:=(k2:Int) }:Ev):=⟨⟨hx.kind,hx.user,hx.title,hx.tN,hx.note,hx.text,hx.oN,hx.hist⟩,by show (0:Int)≤k2∧(k2:Int)≤3;omega,by show (0:Int)≤k1∧(k1:Int)≤2000;omega⟩
  generalize ({ x with n:=(k1:Int),base:=(k2:Int) }:Ev)=y at *
  clear p8 p9 f8 f9 hx hk1 hk2
  by_cases hk:y.kind=1
  ·skip
   have q0:W3.cell? ⟨B,0,none⟩=some (.int .i64 1):=by rw [← hk];exact (hS4.evt B rfl).1.c0
   go_wp2_with (go_at_call 32;refine (text_st hS4).mono ?_)
   rintro e W4 ⟨tx,htx,rfl,hS5⟩
   clear hS4 q0
   go_wp2_with (go_at_call 33;refine (note_st hS5).mono ?_)
   rintro e W5 ⟨no,hno,rfl,hS6⟩
   clear hS5
   go_wp2_with (go_at_call 28;refine (next_st 3 (by decide) (by decide) hS6).mono ?_)
   rintro e W6 ⟨k3,hk3,rfl,hS7⟩
   clear hS6
   have hE:=(hS7.evt B rfl).1
   have p7:=hE.c7
   have p2:=hE.c2
   have p8:=hE.c8
   have f7:=hE.fr 7 (by decide)
   have f2:=hE.fr 2 (by decide)
   have f8:=hE.fr 8 (by decide)
   have hS8:=hS7.cell 7 _ (hE.setText tx)
   have hS9:=hS8.cell 2 _ ((hS8.evt B rfl).1.setNote no)
   have hS10:=hS9.cell 8 _ ((hS9.evt B rfl).1.setBase k3)
   have hM:MadeEv ({ y with text:=tx,note:=no,base:=(k3:Int) }:Ev):=⟨hyk.b.kind,hyk.b.user,hyk.b.title,hyk.b.tN,hno,htx,by show y.oN.length≤3;rw [hyk.b.oN];decide,fun h=>absurd (show y.kind=2 from h) (by rw [hk];decide),by show (0:Int)≤k3∧(k3:Int)≤3;omega,hyk.n,fun h=>absurd (show y.kind=5 from h) (by rw [hk];decide),by show y.hist.length≤3;rw [hyk.b.hist];decide,fun r hr=>by rw [show (({ y with text:=tx,note:=no,base:=(k3:Int) }:Ev)).hist=[] from hyk.b.hist] at hr;cases hr⟩
   have hFin:=Fin.nil hS10 hM hyk.b.hist
   clear hE hS7 hS8 hS9 hS10 hyk hk hM
   go_upto_region 14 with fail
   generalize ((W6.setCell _ _).setCell _ _).setCell _ _=W7 at *
   obtain ⟨z,hM,hSz,hnz⟩:=hFin
   clear p7 p2 p8 f7 f2 f8
   have hE:=(hSz.evt _ rfl).1
   have q0:=hE.c0
   have q1:=hE.c1
   have q2:=hE.c2
   have q3:=hE.c3
   have q4:=hE.c4
   have q5:=hE.c5
   have q6:=hE.c6
   have q7:=hE.c7
   have q8:=hE.c8
   have q9:=hE.c9
   have q10:=hE.c10
   have d0:=hSz.res.c0
   have d1:=hSz.res.c1
   have d2:=hSz.res.c2
   have d3:=hSz.res.c3
   have d4:=hSz.res.c4
   have d5:=hSz.res.c5
   have d6:=hSz.res.c6
   have d7:=hSz.res.c7
   have d8:=hSz.res.c8
   have d9:=hSz.res.c9
   have d10:=hSz.res.c10
   have g0:=hSz.res.fr 0 (by decide)
   have g1:=hSz.res.fr 1 (by decide)
   have g2:=hSz.res.fr 2 (by decide)
   have g3:=hSz.res.fr 3 (by decide)
   have g4:=hSz.res.fr 4 (by decide)
   have g5:=hSz.res.fr 5 (by decide)
   have g6:=hSz.res.fr 6 (by decide)
   have g7:=hSz.res.fr 7 (by decide)
   have g8:=hSz.res.fr 8 (by decide)
   have g9:=hSz.res.fr 9 (by decide)
   have g10:=hSz.res.fr 10 (by decide)
   have hF:=hSz.res.put z (.slice none 0 0)
   have hG:=hSz.gk.putE (Nat.le_refl _) z (.slice none 0 0)
   have hO:=owns_mono (owns_put hnz (Nat.lt_succ_self _) z (.slice none 0 0)) (Nat.le_succ _)
   have HG:=Lib.hid hG
   have HO:=Lib.hid hO
   have HF:=Lib.hid hF
   have hM:MadeEv z:=hM
   have HM:=Lib.hid hM
   clear hE hF hG hO hM
   go_wp2
   have hF:=HF.out
   unfold putE at hF
   have e0:=hF.c0
   have e1:=hF.c1
   have e2:=hF.c2
   have e3:=hF.c3
   have e4:=hF.c4
   have e5:=hF.c5
   have e6:=hF.c6
   have e7:=hF.c7
   have e8:=hF.c8
   have e9:=hF.c9
   have e10:=hF.c10
   exact bodyPost_ret (v:=evV z (.slice none 0 0)) (by simp [results,Tryz.results18,go_sem,e0,e1,e2,e3,e4,e5,e6,e7,e8,e9,e10,evV,ecells]) rfl ⟨z,_,_,_,HM.out,rfl,HG.out,HO.out⟩
  by_cases hk:y.kind=2
  ·skip
   have q0:W3.cell? ⟨B,0,none⟩=some (.int .i64 2):=by rw [← hk];exact (hS4.evt B rfl).1.c0
   go_wp2_with (go_at_call 31;refine (title_st hS4).mono ?_)
   rintro e W4 ⟨sp,tn,hv,htn,rfl,hS5⟩
   clear hS4 q0
   have hE:=(hS5.evt B rfl).1
   have p5:=hE.c5
   have p6:=hE.c6
   have f5:=hE.fr 5 (by decide)
   have f6:=hE.fr 6 (by decide)
   have hS6:=hS5.cell 5 _ (hE.setOSp sp)
   have hS7:=hS6.cell 6 _ ((hS6.evt B rfl).1.setON tn)
   have hM:MadeEv ({ y with oSp:=sp,oN:=tn }:Ev):=⟨hyk.b.kind,hyk.b.user,hyk.b.title,hyk.b.tN,by show y.note.length≤40;rw [hyk.b.note];decide,by show y.text.length≤300;rw [hyk.b.text];decide,htn,fun _=>hv,hyk.base,hyk.n,fun h=>absurd (show y.kind=5 from h) (by rw [hk];decide),by show y.hist.length≤3;rw [hyk.b.hist];decide,fun r hr=>by rw [show (({ y with oSp:=sp,oN:=tn }:Ev)).hist=[] from hyk.b.hist] at hr;cases hr⟩
   have hFin:=Fin.nil hS7 hM hyk.b.hist
   clear hE hS5 hS6 hS7 hyk hk hM
   go_upto_region 14 with fail
   generalize (W4.setCell _ _).setCell _ _=W7 at *
   obtain ⟨z,hM,hSz,hnz⟩:=hFin
   clear p5 p6 f5 f6
   have hE:=(hSz.evt _ rfl).1
   have q0:=hE.c0
   have q1:=hE.c1
   have q2:=hE.c2
   have q3:=hE.c3
   have q4:=hE.c4
   have q5:=hE.c5
   have q6:=hE.c6
   have q7:=hE.c7
   have q8:=hE.c8
   have q9:=hE.c9
   have q10:=hE.c10
   have d0:=hSz.res.c0
   have d1:=hSz.res.c1
   have d2:=hSz.res.c2
   have d3:=hSz.res.c3
   have d4:=hSz.res.c4
   have d5:=hSz.res.c5
   have d6:=hSz.res.c6
   have d7:=hSz.res.c7
   have d8:=hSz.res.c8
   have d9:=hSz.res.c9
   have d10:=hSz.res.c10
   have g0:=hSz.res.fr 0 (by decide)
   have g1:=hSz.res.fr 1 (by decide)
   have g2:=hSz.res.fr 2 (by decide)
   have g3:=hSz.res.fr 3 (by decide)
   have g4:=hSz.res.fr 4 (by decide)
   have g5:=hSz.res.fr 5 (by decide)
   have g6:=hSz.res.fr 6 (by decide)
   have g7:=hSz.res.fr 7 (by decide)
   have g8:=hSz.res.fr 8 (by decide)
   have g9:=hSz.res.fr 9 (by decide)
   have g10:=hSz.res.fr 10 (by decide)
   have hF:=hSz.res.put z (.slice none 0 0)
   have hG:=hSz.gk.putE (Nat.le_refl _) z (.slice none 0 0)
   have hO:=owns_mono (owns_put hnz (Nat.lt_succ_self _) z (.slice none 0 0)) (Nat.le_succ _)
   have HG:=Lib.hid hG
   have HO:=Lib.hid hO
   have HF:=Lib.hid hF
   have hM:MadeEv z:=hM
   have HM:=Lib.hid hM
   clear hE hF hG hO hM
   go_wp2
   have hF:=HF.out
   unfold putE at hF
   have e0:=hF.c0
   have e1:=hF.c1
   have e2:=hF.c2
   have e3:=hF.c3
   have e4:=hF.c4
   have e5:=hF.c5
   have e6:=hF.c6
   have e7:=hF.c7
   have e8:=hF.c8
   have e9:=hF.c9
   have e10:=hF.c10
   exact bodyPost_ret (v:=evV z (.slice none 0 0)) (by simp [results,Tryz.results18,go_sem,e0,e1,e2,e3,e4,e5,e6,e7,e8,e9,e10,evV,ecells]) rfl ⟨z,_,_,_,HM.out,rfl,HG.out,HO.out⟩
  by_cases hk:y.kind=5
  ·skip
   have q0:W3.cell? ⟨B,0,none⟩=some (.int .i64 5):=by rw [← hk];exact (hS4.evt B rfl).1.c0
   go_wp2_with (go_at_call 34;refine (revs_st hS4).mono ?_)
   rintro e W4 ⟨hi,v,hi1,hi3,hit,rfl,hS5,ho5⟩
   have hB4:=(hS4.evt B rfl).1.lt
   have hw4:=hS4.res.lt
   clear hS4 q0
   obtain ⟨A,m,c,rfl⟩:=owns_slice ho5
   have hE:=(hS5.evt B rfl).1
   have hBR:=(hS5.evt B rfl).2
   have p10:=hE.c10
   have f10:=hE.fr 10 (by decide)
   have hS6:St w sb (some B) ({ y with hist:=hi }:Ev) (.slice A m c) (W4.setCell ⟨B,10,none⟩ (.slice A m c)):=hS5.cell 10 _ (by
    have q:=hE.setHist (.slice A m c)
    exact ⟨q.c0,q.c1,q.c2,q.c3,q.c4,q.c5,q.c6,q.c7,q.c8,q.c9,q.c10,q.fr,q.lt⟩)
   have ho6:(W4.setCell ⟨B,10,none⟩ (.slice A m c)).ownsRow (w.heap.size+1) 66 6 (.slice A m c) hi.length (hcells hi):=owns_mono (owns_far ho5 hB4 (.slice A m c)) hw4
   have hM:MadeEv ({ y with hist:=hi }:Ev):=⟨hyk.b.kind,hyk.b.user,hyk.b.title,hyk.b.tN,by show y.note.length≤40;rw [hyk.b.note];decide,by show y.text.length≤300;rw [hyk.b.text];decide,by show y.oN.length≤3;rw [hyk.b.oN];decide,fun h=>absurd (show y.kind=2 from h) (by rw [hk];decide),hyk.base,hyk.n,fun _=>hi1,hi3,hit⟩
   have hFin:=Fin.of hS6 hM ho6
   clear hE hS5 hS6 ho5 ho6 hyk hk hM hBR hB4 hw4
   go_upto_region 14 with fail
   generalize W4.setCell _ _=W7 at *
   obtain ⟨z,hM,hSz,hnz⟩:=hFin
   clear p10 f10
   have hE:=(hSz.evt _ rfl).1
   have q0:=hE.c0
   have q1:=hE.c1
   have q2:=hE.c2
   have q3:=hE.c3
   have q4:=hE.c4
   have q5:=hE.c5
   have q6:=hE.c6
   have q7:=hE.c7
   have q8:=hE.c8
   have q9:=hE.c9
   have q10:=hE.c10
   have d0:=hSz.res.c0
   have d1:=hSz.res.c1
   have d2:=hSz.res.c2
   have d3:=hSz.res.c3
   have d4:=hSz.res.c4
   have d5:=hSz.res.c5
   have d6:=hSz.res.c6
   have d7:=hSz.res.c7
   have d8:=hSz.res.c8
   have d9:=hSz.res.c9
   have d10:=hSz.res.c10
   have g0:=hSz.res.fr 0 (by decide)
   have g1:=hSz.res.fr 1 (by decide)
   have g2:=hSz.res.fr 2 (by decide)
   have g3:=hSz.res.fr 3 (by decide)
   have g4:=hSz.res.fr 4 (by decide)
   have g5:=hSz.res.fr 5 (by decide)
   have g6:=hSz.res.fr 6 (by decide)
   have g7:=hSz.res.fr 7 (by decide)
   have g8:=hSz.res.fr 8 (by decide)
   have g9:=hSz.res.fr 9 (by decide)
   have g10:=hSz.res.fr 10 (by decide)
   have hF:=hSz.res.put z (.slice A m c)
   have hG:=hSz.gk.putE (Nat.le_refl _) z (.slice A m c)
   have hO:=owns_mono (owns_put hnz (Nat.lt_succ_self _) z (.slice A m c)) (Nat.le_succ _)
   have HG:=Lib.hid hG
   have HO:=Lib.hid hO
   have HF:=Lib.hid hF
   have hM:MadeEv z:=hM
   have HM:=Lib.hid hM
   clear hE hF hG hO hM
   go_wp2
   have hF:=HF.out
   unfold putE at hF
   have e0:=hF.c0
   have e1:=hF.c1
   have e2:=hF.c2
   have e3:=hF.c3
   have e4:=hF.c4
   have e5:=hF.c5
   have e6:=hF.c6
   have e7:=hF.c7
   have e8:=hF.c8
   have e9:=hF.c9
   have e10:=hF.c10
   exact bodyPost_ret (v:=evV z (.slice A m c)) (by simp [results,Tryz.results18,go_sem,e0,e1,e2,e3,e4,e5,e6,e7,e8,e9,e10,evV,ecells]) rfl ⟨z,_,_,_,HM.out,rfl,HG.out,HO.out⟩
  by_cases hk:y.kind=10
  ·skip
   have q0:W3.cell? ⟨B,0,none⟩=some (.int .i64 10):=by rw [← hk];exact (hS4.evt B rfl).1.c0
   go_wp2_with (go_at_call 28;refine (next_st 2000 (by decide) (by decide) hS4).mono ?_)
   rintro e W4 ⟨k3,hk3,rfl,hS5⟩
   clear hS4 q0
   have hE:=(hS5.evt B rfl).1
   have p9:=hE.c9
   have f9:=hE.fr 9 (by decide)
   have hS6:=hS5.cell 9 _ (hE.setN ((1:Int)+k3))
   have hM:MadeEv ({ y with n:=(1:Int)+k3 }:Ev):=⟨hyk.b.kind,hyk.b.user,hyk.b.title,hyk.b.tN,by show y.note.length≤40;rw [hyk.b.note];decide,by show y.text.length≤300;rw [hyk.b.text];decide,by show y.oN.length≤3;rw [hyk.b.oN];decide,fun h=>absurd (show y.kind=2 from h) (by rw [hk];decide),hyk.base,by show (0:Int)≤1+k3∧(1:Int)+k3≤2000;omega,fun h=>absurd (show y.kind=5 from h) (by rw [hk];decide),by show y.hist.length≤3;rw [hyk.b.hist];decide,fun r hr=>by rw [show (({ y with n:=(1:Int)+k3 }:Ev)).hist=[] from hyk.b.hist] at hr;cases hr⟩
   have hFin:=Fin.nil hS6 hM hyk.b.hist
   clear hE hS5 hS6 hyk hk hM
   go_upto_region 14 with fail
   generalize W4.setCell _ _=W7 at *
   obtain ⟨z,hM,hSz,hnz⟩:=hFin
   clear p9 f9
   have hE:=(hSz.evt _ rfl).1
   have q0:=hE.c0
   have q1:=hE.c1
   have q2:=hE.c2
   have q3:=hE.c3
   have q4:=hE.c4
   have q5:=hE.c5
   have q6:=hE.c6
   have q7:=hE.c7
   have q8:=hE.c8
   have q9:=hE.c9
   have q10:=hE.c10
   have d0:=hSz.res.c0
   have d1:=hSz.res.c1
   have d2:=hSz.res.c2
   have d3:=hSz.res.c3
   have d4:=hSz.res.c4
   have d5:=hSz.res.c5
   have d6:=hSz.res.c6
   have d7:=hSz.res.c7
   have d8:=hSz.res.c8
   have d9:=hSz.res.c9
   have d10:=hSz.res.c10
   have g0:=hSz.res.fr 0 (by decide)
   have g1:=hSz.res.fr 1 (by decide)
   have g2:=hSz.res.fr 2 (by decide)
   have g3:=hSz.res.fr 3 (by decide)
   have g4:=hSz.res.fr 4 (by decide)
   have g5:=hSz.res.fr 5 (by decide)
   have g6:=hSz.res.fr 6 (by decide)
   have g7:=hSz.res.fr 7 (by decide)
   have g8:=hSz.res.fr 8 (by decide)
   have g9:=hSz.res.fr 9 (by decide)
   have g10:=hSz.res.fr 10 (by decide)
   have hF:=hSz.res.put z (.slice none 0 0)
   have hG:=hSz.gk.putE (Nat.le_refl _) z (.slice none 0 0)
   have hO:=owns_mono (owns_put hnz (Nat.lt_succ_self _) z (.slice none 0 0)) (Nat.le_succ _)
   have HG:=Lib.hid hG
   have HO:=Lib.hid hO
   have HF:=Lib.hid hF
   have hM:MadeEv z:=hM
   have HM:=Lib.hid hM
   clear hE hF hG hO hM
   go_wp2
   have hF:=HF.out
   unfold putE at hF
   have e0:=hF.c0
   have e1:=hF.c1
   have e2:=hF.c2
   have e3:=hF.c3
   have e4:=hF.c4
   have e5:=hF.c5
   have e6:=hF.c6
   have e7:=hF.c7
   have e8:=hF.c8
   have e9:=hF.c9
   have e10:=hF.c10
   exact bodyPost_ret (v:=evV z (.slice none 0 0)) (by simp [results,Tryz.results18,go_sem,e0,e1,e2,e3,e4,e5,e6,e7,e8,e9,e10,evV,ecells]) rfl ⟨z,_,_,_,HM.out,rfl,HG.out,HO.out⟩
  by_cases hk:y.kind=16
  ·skip
   have q0:W3.cell? ⟨B,0,none⟩=some (.int .i64 16):=by rw [← hk];exact (hS4.evt B rfl).1.c0
   go_wp2_with (go_at_call 28;refine (next_st 4 (by decide) (by decide) hS4).mono ?_)
   rintro e W4 ⟨k3,hk3,rfl,hS5⟩
   obtain ⟨tx,htx,hix⟩:=search_at hk3
   clear hS4 q0
   have hE:=(hS5.evt B rfl).1
   have p7:=hE.c7
   have f7:=hE.fr 7 (by decide)
   have hS6:=hS5.cell 7 _ (hE.setText tx)
   have hM:MadeEv ({ y with text:=tx }:Ev):=⟨hyk.b.kind,hyk.b.user,hyk.b.title,hyk.b.tN,by show y.note.length≤40;rw [hyk.b.note];decide,by show tx.length≤300;omega,by show y.oN.length≤3;rw [hyk.b.oN];decide,fun h=>absurd (show y.kind=2 from h) (by rw [hk];decide),hyk.base,hyk.n,fun h=>absurd (show y.kind=5 from h) (by rw [hk];decide),by show y.hist.length≤3;rw [hyk.b.hist];decide,fun r hr=>by rw [show (({ y with text:=tx }:Ev)).hist=[] from hyk.b.hist] at hr;cases hr⟩
   have hFin:=Fin.nil hS6 hM hyk.b.hist
   clear hE hS5 hS6 hyk hk hM
   go_upto_region 14 with fail
   generalize W4.setCell _ _=W7 at *
   obtain ⟨z,hM,hSz,hnz⟩:=hFin
   clear p7 f7
   have hE:=(hSz.evt _ rfl).1
   have q0:=hE.c0
   have q1:=hE.c1
   have q2:=hE.c2
   have q3:=hE.c3
   have q4:=hE.c4
   have q5:=hE.c5
   have q6:=hE.c6
   have q7:=hE.c7
   have q8:=hE.c8
   have q9:=hE.c9
   have q10:=hE.c10
   have d0:=hSz.res.c0
   have d1:=hSz.res.c1
   have d2:=hSz.res.c2
   have d3:=hSz.res.c3
   have d4:=hSz.res.c4
   have d5:=hSz.res.c5
   have d6:=hSz.res.c6
   have d7:=hSz.res.c7
   have d8:=hSz.res.c8
   have d9:=hSz.res.c9
   have d10:=hSz.res.c10
   have g0:=hSz.res.fr 0 (by decide)
   have g1:=hSz.res.fr 1 (by decide)
   have g2:=hSz.res.fr 2 (by decide)
   have g3:=hSz.res.fr 3 (by decide)
   have g4:=hSz.res.fr 4 (by decide)
   have g5:=hSz.res.fr 5 (by decide)
   have g6:=hSz.res.fr 6 (by decide)
   have g7:=hSz.res.fr 7 (by decide)
   have g8:=hSz.res.fr 8 (by decide)
   have g9:=hSz.res.fr 9 (by decide)
   have g10:=hSz.res.fr 10 (by decide)
   have hF:=hSz.res.put z (.slice none 0 0)
   have hG:=hSz.gk.putE (Nat.le_refl _) z (.slice none 0 0)
   have hO:=owns_mono (owns_put hnz (Nat.lt_succ_self _) z (.slice none 0 0)) (Nat.le_succ _)
   have HG:=Lib.hid hG
   have HO:=Lib.hid hO
   have HF:=Lib.hid hF
   have hM:MadeEv z:=hM
   have HM:=Lib.hid hM
   clear hE hF hG hO hM
   go_wp2
   have hF:=HF.out
   unfold putE at hF
   have e0:=hF.c0
   have e1:=hF.c1
   have e2:=hF.c2
   have e3:=hF.c3
   have e4:=hF.c4
   have e5:=hF.c5
   have e6:=hF.c6
   have e7:=hF.c7
   have e8:=hF.c8
   have e9:=hF.c9
   have e10:=hF.c10
   exact bodyPost_ret (v:=evV z (.slice none 0 0)) (by simp [results,Tryz.results18,go_sem,e0,e1,e2,e3,e4,e5,e6,e7,e8,e9,e10,evV,ecells]) rfl ⟨z,_,_,_,HM.out,rfl,HG.out,HO.out⟩
  have q0:=(hS4.evt B rfl).1.c0
  have hM:MadeEv y:=⟨hyk.b.kind,hyk.b.user,hyk.b.title,hyk.b.tN,by show y.note.length≤40;rw [hyk.b.note];decide,by show y.text.length≤300;rw [hyk.b.text];decide,by show y.oN.length≤3;rw [hyk.b.oN];decide,fun h=>absurd h (by assumption),hyk.base,hyk.n,fun h=>absurd h (by assumption),by show y.hist.length≤3;rw [hyk.b.hist];decide,fun r hr=>by rw [show (y).hist=[] from hyk.b.hist] at hr;cases hr⟩
  have hFin:=Fin.nil hS4 hM hyk.b.hist
  have n1:(y.kind == 1)=false:=beq_eq_false_iff_ne.2 (by assumption)
  have n2:(y.kind == 2)=false:=beq_eq_false_iff_ne.2 (by assumption)
  have n3:(y.kind == 5)=false:=beq_eq_false_iff_ne.2 (by assumption)
  have n4:(y.kind == 10)=false:=beq_eq_false_iff_ne.2 (by assumption)
  have n5:(y.kind == 16)=false:=beq_eq_false_iff_ne.2 (by assumption)
  clear hS4 hM hyk
  go_upto_region 14 with fail
  clear q0 n1 n2 n3 n4 n5
  obtain ⟨z,hM,hSz,hnz⟩:=hFin
  have hE:=(hSz.evt _ rfl).1
  have q0:=hE.c0
  have q1:=hE.c1
  have q2:=hE.c2
  have q3:=hE.c3
  have q4:=hE.c4
  have q5:=hE.c5
  have q6:=hE.c6
  have q7:=hE.c7
  have q8:=hE.c8
  have q9:=hE.c9
  have q10:=hE.c10
  have d0:=hSz.res.c0
  have d1:=hSz.res.c1
  have d2:=hSz.res.c2
  have d3:=hSz.res.c3
  have d4:=hSz.res.c4
  have d5:=hSz.res.c5
  have d6:=hSz.res.c6
  have d7:=hSz.res.c7
  have d8:=hSz.res.c8
  have d9:=hSz.res.c9
  have d10:=hSz.res.c10
  have g0:=hSz.res.fr 0 (by decide)
  have g1:=hSz.res.fr 1 (by decide)
  have g2:=hSz.res.fr 2 (by decide)
  have g3:=hSz.res.fr 3 (by decide)
  have g4:=hSz.res.fr 4 (by decide)
  have g5:=hSz.res.fr 5 (by decide)
  have g6:=hSz.res.fr 6 (by decide)
  have g7:=hSz.res.fr 7 (by decide)
  have g8:=hSz.res.fr 8 (by decide)
  have g9:=hSz.res.fr 9 (by decide)
  have g10:=hSz.res.fr 10 (by decide)
  have hF:=hSz.res.put z (.slice none 0 0)
  have hG:=hSz.gk.putE (Nat.le_refl _) z (.slice none 0 0)
  have hO:=owns_mono (owns_put hnz (Nat.lt_succ_self _) z (.slice none 0 0)) (Nat.le_succ _)
  have HG:=Lib.hid hG
  have HO:=Lib.hid hO
  have HF:=Lib.hid hF
  have hM:MadeEv z:=hM
  have HM:=Lib.hid hM
  clear hE hF hG hO hM
  go_wp2
  have hF:=HF.out
  unfold putE at hF
  have e0:=hF.c0
  have e1:=hF.c1
  have e2:=hF.c2
  have e3:=hF.c3
  have e4:=hF.c4
  have e5:=hF.c5
  have e6:=hF.c6
  have e7:=hF.c7
  have e8:=hF.c8
  have e9:=hF.c9
  have e10:=hF.c10
  exact bodyPost_ret (v:=evV z (.slice none 0 0)) (by simp [results,Tryz.results18,go_sem,e0,e1,e2,e3,e4,e5,e6,e7,e8,e9,e10,evV,ecells]) rfl ⟨z,_,_,_,HM.out,rfl,HG.out,HO.out⟩
end Go.Proofs
