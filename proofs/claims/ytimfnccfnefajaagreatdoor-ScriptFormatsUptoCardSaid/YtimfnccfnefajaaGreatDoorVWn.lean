/- A part of the proof: Gi -/
import Derived.Test.YtimfnccfnefajaaGreatDoorVWm
import Derived.Test.YtimfnccfnefajaaGreatDoorVWl
import Derived.Test.YtimfnccfnefajaaGreatDoorVWb
import Derived.StillTailTactics
set_option linter.unusedSimpArgs false
set_option linter.unusedVariables false
namespace Go.Proofs
open Go.RowKit Go.Sp
structure WrOk (y:Ev):Prop where
 can:∃ i,i<21∧CanWrite (formAt i) y
 user:y.user.length≤40
 note:y.note.length≤40
 text:y.text.length≤300
 tN:y.tN.length≤3
 oN:y.oN.length≤3
 base:0≤y.base∧y.base≤2000
 n:0≤y.n∧y.n≤2000
 h3:y.hist.length≤3
 ht:∀ r∈y.hist,r.text.length≤300
structure S2 (w:World) (sb E O:Nat) (x:Ev) (h:Value) (y:Ev) (g:Value) (W:World):Prop where
 gk:GK sb w W
 res:EBlk W w.heap.size (ev0 0) (.slice none 0 0)
 ee:EBlk W E x h
 oo:EBlk W O y g
 re:w.heap.size<E
 eo:E<O
theorem S2.cell {w W:World} {sb E O:Nat} {x y y':Ev} {h g g':Value} (k:S2 w sb E O x h y g W) (i:Nat) (v:Value) (hE:EBlk (W.setCell ⟨O,i,none⟩ v) O y' g'):S2 w sb E O x h y' g' (W.setCell ⟨O,i,none⟩ v):=by
 have h1:=k.re
 have h2:=k.eo
 exact ⟨k.gk.store (by omega) i v,k.res.keep (Below.heap_setCell _ _ _ _ (by show w.heap.size≠O;omega)) (by simp),k.ee.keep (Below.heap_setCell _ _ _ _ (by show E≠O;omega)) (by simp),hE,h1,h2⟩
theorem S2.put {w W:World} {sb E O:Nat} {x y:Ev} {h g:Value} (k:S2 w sb E O x h y g W) (z:Ev) (f:Value):S2 w sb E O x h { z with hist:=y.hist } f (putE W O z f):=by
 have h1:=k.re
 have h2:=k.eo
 have hb:=putE_below W O W z f (Below.refl _ _)
 exact ⟨k.gk.putE (by omega) z f,k.res.keep (hb.block _ (by omega)) (by simp),k.ee.keep (hb.block _ h2) (by simp),k.oo.put z f,h1,h2⟩
theorem S2.drew {w W:World} {sb E O:Nat} {x y:Ev} {h g:Value} (k:S2 w sb E O x h y g W):S2 w sb E O x h y g W.drew:=⟨k.gk.drewN 1,k.res.drew,k.ee.drew,k.oo.drew,k.re,k.eo⟩
theorem S2.first {w W:World} {sb E:Nat} {x:Ev} {h:Value} (k:St w sb (some E) x h W) (y:Ev) (g:Value):S2 w sb E W.heap.size x h y g (W.alloc (.cells (ecells y g) 33)):=by
 have hx:Below W.heap.size W (W.alloc (.cells (ecells y g) 33)):=(Below.refl _ W).alloc (Nat.le_refl _) _
 exact ⟨k.gk.alloc _,k.res.below k.res.lt hx,(k.evt E rfl).1.below (k.evt E rfl).1.lt hx,EBlk.new W y g,(k.evt E rfl).2,(k.evt E rfl).1.lt⟩
def Fin2 (w:World) (sb O:Nat) (h:Value) (W:World):Prop:=∃ z:Ev,WrOk z∧GK sb w W∧EBlk W w.heap.size (ev0 0) (.slice none 0 0)∧EBlk W O z h∧W.ownsRow (w.heap.size+1) 66 6 h z.hist.length (hcells z.hist)
theorem Fin2.nil {w W:World} {sb E O:Nat} {x z:Ev} {h:Value} (k:S2 w sb E O x h z (.slice none 0 0) W) (hM:WrOk z) (hz:z.hist=[]):Fin2 w sb O (.slice none 0 0) W:=⟨z,hM,k.gk,k.res,k.oo,by rw [hz];exact World.ownsRow_nil _ _ _ _⟩
def RetWr (sb:Nat) (w:World) (e:Ending) (w':World):Prop:=∃ x A m c,WrOk x∧e=.returned (evV x (.slice A m c))∧GK sb w w'∧w'.ownsRow w.heap.size 66 6 (.slice A m c) x.hist.length (hcells x.hist)
theorem event_st {w W:World} {sb:Nat} {ob:Option Nat} {ev:Ev} {h:Value} (k:St w sb ob ev h W):Calls Tryz.prog 18 #[.pointer (some ⟨sb,0,none⟩)] W (fun e w'=>∃ x A m c,MadeEv x∧e=.returned (evV x (.slice A m c))∧St w sb ob ev h w'∧w'.ownsRow W.heap.size 66 6 (.slice A m c) x.hist.length (hcells x.hist)) :=
 (event_ok sb W k.gk.src).mono fun _ _ ⟨x,A,m,c,h1,h2,h3,h4⟩=>⟨x,A,m,c,h1,h2,k.step h3,h4⟩
theorem can_of {y:Ev} {i:Nat} (hi:i<21) (h1:y.kind=(formAt i).kind) (h2:∀ k∈(formAt i).kinds,fieldOk y k) (h3:(formAt i).kinds.foldl (setF y) (ev0 (formAt i).kind)={ y with hist:=[] }) (h4:(formAt i).many=false) (h5:y.hist=[]):∃ i,i<21∧CanWrite (formAt i) y :=
 ⟨i,hi,formAt_mem hi,h1,h2,h3,fun _=>h5,fun h=>by rw [h4] at h;cases h⟩
theorem EBlk.rehist {W:World} {b:Nat} {e:Ev} {h:Value} (k:EBlk W b e h) (l:List Rev):EBlk W b { e with hist:=l } h:=⟨k.c0,k.c1,k.c2,k.c3,k.c4,k.c5,k.c6,k.c7,k.c8,k.c9,k.c10,k.fr,k.lt⟩
theorem St.rehist {w W:World} {sb B:Nat} {ev:Ev} {h:Value} (k:St w sb (some B) ev h W) (l:List Rev):St w sb (some B) { ev with hist:=l } h W :=
 ⟨k.gk,k.res,fun b hb=>⟨(k.evt b hb).1.rehist l,(k.evt b hb).2⟩⟩
theorem S2.rehist {w W:World} {sb E O:Nat} {x y:Ev} {h g:Value} (k:S2 w sb E O x h y g W) (l:List Rev):S2 w sb E O x h { y with hist:=l } g W:=⟨k.gk,k.res,k.ee,k.oo.rehist l,k.re,k.eo⟩
def base0 (x:Ev):Ev:=⟨x.kind,x.user,[],x.tSp,x.tN,0,[],[],0,0,[]⟩
def copyTo (u:Bs) (hs:List Rev) (k:Nat):List Rev:=(List.range k).map fun i:Nat=>⟨(i:Int)+1,u,[],(rv hs i).text,0,0⟩
theorem copyTo_succ (u:Bs) (hs:List Rev) (k:Nat):copyTo u hs (k+1)=copyTo u hs k ++ [⟨(k:Int)+1,u,[],(rv hs k).text,0,0⟩]:=by
 unfold copyTo
 rw [List.range_succ,List.map_append];rfl
theorem copyTo_step (us:Bs) (hs:List Rev) (j:Nat):hcells (copyTo us hs (j+1))=hcells (copyTo us hs j) ++ [.int .i64 ((j:Int)+1),.string ⟨us.toArray⟩,.string ⟨#[]⟩,.string ⟨(rv hs j).text.toArray⟩,.int .i64 0,.int .i64 0]:=by
 rw [copyTo_succ,hcells_snoc]
 unfold rcells
 rfl
theorem copyTo_at {u:Bs} {hs:List Rev} {n k:Nat} {r:Rev} (h:(copyTo u hs n)[k]? = some r):r=⟨(k:Int)+1,u,[],r.text,0,0⟩:=by
 unfold copyTo at h
 rw [List.getElem?_map] at h
 cases hq:(List.range n)[k]? with
 | none=>rw [hq] at h;cases h
 | some i =>
  rw [hq] at h
  obtain rfl:=Option.some.inj h
  obtain ⟨hk,rfl⟩:=List.getElem?_eq_some_iff.1 hq
  simp
theorem copyTo_text {u:Bs} {hs:List Rev} {n:Nat} (hn:n≤hs.length) (h:∀ r∈hs,r.text.length≤300):∀ r∈copyTo u hs n,r.text.length≤300:=by
 intro r hr
 unfold copyTo at hr
 obtain ⟨i,hi,rfl⟩:=List.mem_map.1 hr
 have hi2:i<hs.length:=by have:=List.mem_range.1 hi;omega
 show (rv hs i).text.length≤300
 unfold rv
 rw [List.getD_eq_getElem?_getD,List.getElem?_eq_getElem hi2]
 exact h _ (List.getElem_mem hi2)
structure LpRel (W4:World) (O:Nat) (y:Ev) (hs:List Rev) (k:Nat) (wr:World) (v:Value):Prop where
 below:Below O W4 wr
 evt:EBlk wr O y v
 own:wr.ownsRow W4.heap.size 66 6 v k (hcells (copyTo y.user hs k))
 size:W4.heap.size≤wr.heap.size
theorem many4:(formAt 4).many=true:=rfl
theorem can_import (us tn:Bs) (ts:Int) (l:List Rev) (hv:valid ts tn=true) (hl:l≠[]) (ha:∀ (k:Nat) r,l[k]? = some r→r=⟨(k:Int)+1,us,[],r.text,0,0⟩):∃ i,i<21∧CanWrite (formAt i) (⟨5,us,[],ts,tn,0,[],[],0,0,l⟩:Ev) :=
 ⟨4,by decide,formAt_mem (by decide),rfl,List.forall_mem_cons.2 ⟨trivial,List.forall_mem_cons.2 ⟨hv,List.forall_mem_nil _⟩⟩,rfl,(fun h=>by rw [many4] at h;cases h),fun _=>⟨hl,ha⟩⟩
theorem GK.over {sb O:Nat} {w W W':World} (k:GK sb w W) (h:Below O W W') (hO:w.heap.size≤O) (hs:W.heap.size≤W'.heap.size):GK sb w W':=by
 have hl:=k.lt
 obtain ⟨A,m,c,i,s,q⟩:=k.src
 exact ⟨k.lt,k.below.trans (h.mono (by omega)),⟨Nat.le_trans k.keep.size hs,fun j hj hn=>(h.block j (by omega)).trans (k.keep.block j hj hn)⟩,A,m,c,i,s,q.below (by omega) h⟩
set_option maxRecDepth 100000 in
set_option maxHeartbeats 4000000 in
theorem writable_ok (sb:Nat) (w:World) (h:SrcOk w sb):Calls Tryz.prog 17 #[.pointer (some ⟨sb,0,none⟩)] w (RetWr sb w):=by
 obtain ⟨i0,hi,hz0,hz1,hz2x⟩:=info_parts info66
 have hS0:=St.first h
 have hsb:=h.lt
 clear h
 unfold ecells ev0 at hS0
 go_enter Tryz.func17,Tryz.ntmps17
 go_upto_region 1 with fail
 change St w sb none (ev0 0) (.slice none 0 0) _ at hS0
 generalize w.alloc _=W0 at *
 go_wp2_with (go_at_call 18;refine (event_st hS0).mono ?_)
 rintro e W1 ⟨x,A,m,c,hx,rfl,hS1,ho1⟩
 have hS2:=hS1.alloc x (.slice A m c)
 have ho2:=owns_below (owns_mono ho1 hS0.res.lt) ((Below.refl _ W1).alloc (Nat.le_refl _) (.cells (ecells x (.slice A m c)) 33))
 have hEw:w.heap.size<W1.heap.size:=(hS2.evt _ rfl).2
 clear ho1 hS1 hS0
 unfold evV
 unfold ecells at *
 go_upto_region 2 with fail
 generalize W1.heap.size=E at *
 generalize W1.alloc _=W2 at *
 go_wp2_with (go_at_call 28;refine (next_ok 20 sb W2 (by decide) (by decide) hS2.gk.src).mono ?_)
 rintro e W3 ⟨k,hk,rfl,g3⟩
 have hS3:=hS2.step g3
 have ho3:=owns_gk ho2 g3 (Nat.lt_succ_of_lt hsb)
 clear hS2 ho2 g3
 by_cases hk0:k=0
 ·subst hk0
  go_wp2_with (go_at_call 28;refine (next_st 9 (by decide) (by decide) hS3).mono ?_)
  rintro e W4 ⟨k1,hk1,rfl,hS4⟩
  clear hS3
  go_wp2_with (go_at_call 28;refine (next_st 3 (by decide) (by decide) hS4).mono ?_)
  rintro e W5 ⟨k2,hk2,rfl,hS5⟩
  clear hS4 ho3 hx
  have hE:=(hS5.evt _ rfl).1
  have c0:=hE.c0
  have c1:=hE.c1
  have c2:=hE.c2
  have c3:=hE.c3
  have c4:=hE.c4
  have c5:=hE.c5
  have c6:=hE.c6
  have c7:=hE.c7
  have c8:=hE.c8
  have c9:=hE.c9
  have c10:=hE.c10
  have f0:=hE.fr 0 (by decide)
  have f1:=hE.fr 1 (by decide)
  have f2:=hE.fr 2 (by decide)
  have f3:=hE.fr 3 (by decide)
  have f4:=hE.fr 4 (by decide)
  have f5:=hE.fr 5 (by decide)
  have f6:=hE.fr 6 (by decide)
  have f7:=hE.fr 7 (by decide)
  have f8:=hE.fr 8 (by decide)
  have f9:=hE.fr 9 (by decide)
  have f10:=hE.fr 10 (by decide)
  have hS6:=(hS5.put (⟨21,[],[],0,[],0,[],[],k1,k2,[]⟩:Ev) (.slice none 0 0)).rehist []
  clear hE hS5
  unfold putE at hS6
  simp only at hS6
  go_upto_region 4 with fail
  generalize ((((((((((W5.setCell _ _).setCell _ _).setCell _ _).setCell _ _).setCell _ _).setCell _ _).setCell _ _).setCell _ _).setCell _ _).setCell _ _).setCell _ _=W6 at *
  clear c0 c1 c2 c3 c4 c5 c6 c7 c8 c9 c10 f0 f1 f2 f3 f4 f5 f6 f7 f8 f9 f10
  have hE:=(hS6.evt _ rfl).1
  have c0:=hE.c0
  have c1:=hE.c1
  have c3:=hE.c3
  have c4:=hE.c4
  have hS7:=S2.first hS6 (⟨21,[],[],0,[],0,[],[],0,0,[]⟩:Ev) (.slice none 0 0)
  unfold ecells at hS7
  clear hE hS6
  go_upto_region 5 with fail
  generalize W6.alloc _=W7 at *
  generalize W6.heap.size=O at *
  clear c0 c1 c3 c4
  have c0:=hS7.ee.c0
  have c1:=hS7.ee.c1
  have c2:=hS7.ee.c2
  have c3:=hS7.ee.c3
  have c4:=hS7.ee.c4
  have c5:=hS7.ee.c5
  have c6:=hS7.ee.c6
  have c7:=hS7.ee.c7
  have c8:=hS7.ee.c8
  have c9:=hS7.ee.c9
  have c10:=hS7.ee.c10
  have p0:=hS7.oo.c0
  have p1:=hS7.oo.c1
  have p2:=hS7.oo.c2
  have p3:=hS7.oo.c3
  have p4:=hS7.oo.c4
  have p5:=hS7.oo.c5
  have p6:=hS7.oo.c6
  have p7:=hS7.oo.c7
  have p8:=hS7.oo.c8
  have p9:=hS7.oo.c9
  have p10:=hS7.oo.c10
  have f0:=hS7.oo.fr 0 (by decide)
  have f1:=hS7.oo.fr 1 (by decide)
  have f2:=hS7.oo.fr 2 (by decide)
  have f3:=hS7.oo.fr 3 (by decide)
  have f4:=hS7.oo.fr 4 (by decide)
  have f5:=hS7.oo.fr 5 (by decide)
  have f6:=hS7.oo.fr 6 (by decide)
  have f7:=hS7.oo.fr 7 (by decide)
  have f8:=hS7.oo.fr 8 (by decide)
  have f9:=hS7.oo.fr 9 (by decide)
  have f10:=hS7.oo.fr 10 (by decide)
  have hS8:=(hS7.put (⟨21,[],[],0,[],0,[],[],k1,k2,[]⟩:Ev) (.slice none 0 0)).rehist []
  have hM:WrOk (⟨21,[],[],0,[],0,[],[],k1,k2,[]⟩:Ev):=⟨can_of (i:=20) (by decide) rfl (by
   intro q hq
   have hq2:q=.base∨q=.num:=by simpa [formAt,forms] using hq
   rcases hq2 with rfl | rfl
   ·show (-1000000000:Int)<k1∧(k1:Int)<1000000000;omega
   ·show (-1000000000:Int)<k2∧(k2:Int)<1000000000;omega) rfl rfl rfl,Nat.zero_le _,Nat.zero_le _,Nat.zero_le _,Nat.zero_le _,Nat.zero_le _,by show (0:Int)≤k1∧(k1:Int)≤2000;omega,by show (0:Int)≤k2∧(k2:Int)≤2000;omega,Nat.zero_le _,fun r hr=>by cases hr⟩
  have hFin:=Fin2.nil hS8 hM rfl
  clear hS7 hS8 hM
  unfold putE at hFin
  simp only at hFin
  go_upto_region 36 with fail
  generalize ((((((((((W7.setCell _ _).setCell _ _).setCell _ _).setCell _ _).setCell _ _).setCell _ _).setCell _ _).setCell _ _).setCell _ _).setCell _ _).setCell _ _=W8 at *
  clear c0 c1 c2 c3 c4 c5 c6 c7 c8 c9 c10 p0 p1 p2 p3 p4 p5 p6 p7 p8 p9 p10 f0 f1 f2 f3 f4 f5 f6 f7 f8 f9 f10
  obtain ⟨z,hM,hg,hr,ho,hw⟩:=hFin
  have q0:=ho.c0
  have q1:=ho.c1
  have q2:=ho.c2
  have q3:=ho.c3
  have q4:=ho.c4
  have q5:=ho.c5
  have q6:=ho.c6
  have q7:=ho.c7
  have q8:=ho.c8
  have q9:=ho.c9
  have q10:=ho.c10
  have d0:=hr.c0
  have d1:=hr.c1
  have d2:=hr.c2
  have d3:=hr.c3
  have d4:=hr.c4
  have d5:=hr.c5
  have d6:=hr.c6
  have d7:=hr.c7
  have d8:=hr.c8
  have d9:=hr.c9
  have d10:=hr.c10
  have g0:=hr.fr 0 (by decide)
  have g1:=hr.fr 1 (by decide)
  have g2:=hr.fr 2 (by decide)
  have g3:=hr.fr 3 (by decide)
  have g4:=hr.fr 4 (by decide)
  have g5:=hr.fr 5 (by decide)
  have g6:=hr.fr 6 (by decide)
  have g7:=hr.fr 7 (by decide)
  have g8:=hr.fr 8 (by decide)
  have g9:=hr.fr 9 (by decide)
  have g10:=hr.fr 10 (by decide)
  have hF:=hr.put z (.slice none 0 0)
  have hG:=hg.putE (Nat.le_refl _) z (.slice none 0 0)
  have hO:=owns_mono (owns_put hw (Nat.lt_succ_self _) z (.slice none 0 0)) (Nat.le_succ _)
  have HG:=Lib.hid hG
  have HO:=Lib.hid hO
  have HF:=Lib.hid hF
  clear hr ho hg hw hF hG hO
  go_wp2
  have hF:=HF.out
  unfold putE at hF
  have e0:=hF.c0
  have e1:=hF.c1
  have e2:=hF.c2
  have e3:=hF.c3
  have e4:=hF.c4
  have e5:=hF.c5
  have e6:=hF.c6
  have e7:=hF.c7
  have e8:=hF.c8
  have e9:=hF.c9
  have e10:=hF.c10
  exact bodyPost_ret (v:=evV z (.slice none 0 0)) (by simp [results,Tryz.results17,go_sem,e0,e1,e2,e3,e4,e5,e6,e7,e8,e9,e10,evV,ecells]) rfl ⟨z,_,_,_,hM,rfl,HG.out,HO.out⟩
 ·have hk1:¬ (k:Int)=0:=by omega
  have hE:=(hS3.evt _ rfl).1
  have c0:=hE.c0
  have c1:=hE.c1
  have c3:=hE.c3
  have c4:=hE.c4
  have hS4:=S2.first hS3 (base0 x) (.slice none 0 0)
  have hb4:Below W3.heap.size W3 (W3.alloc (.cells (ecells (base0 x) (.slice none 0 0)) 33)):=(Below.refl _ W3).alloc (Nat.le_refl _) _
  obtain ⟨hm,hrd⟩:=owns_rd ho3
  subst hm
  obtain ⟨kd,us,no,ts,tn,os,on,tx,ba,nn,hs⟩:=x
  unfold ecells base0 at hS4 hb4
  simp only at hS4 hb4 c0 c1 c3 c4 ho3 hrd
  have m1:1≤kd∧kd≤20:=hx.kind
  have m2:us.length≤40:=hx.user
  have m3:valid ts tn=true:=hx.title
  have m4:tn.length≤3:=hx.tN
  have m5:no.length≤40:=hx.note
  have m6:tx.length≤300:=hx.text
  have m7:on.length≤3:=hx.oN
  have m8:kd=2→valid os on=true:=hx.to
  have m9:0≤ba∧ba≤3:=hx.base
  have m10:0≤nn∧nn≤2000:=hx.n
  have m11:kd=5→1≤hs.length:=hx.h5
  have m12:hs.length≤3:=hx.h3
  have m13:∀ r∈hs,r.text.length≤300:=hx.ht
  have hOw:w.heap.size<W3.heap.size:=Nat.lt_of_lt_of_le hEw (Nat.le_of_lt hE.lt)
  clear hE hS3 ho3 hx hk0
  go_upto_region 5 with fail
  generalize W3.alloc _=W4 at *
  clear c0 c1 c3 c4
  have hrd4:∀ i,i<hs.length→∃ g o,A=some ⟨g,o,none⟩∧g<W3.heap.size∧RevAt W4 g (o+i * 6) (rv hs i):=fun i hi=>by
   obtain ⟨g,o,h1,h2,h3⟩:=hrd i hi
   exact ⟨g,o,h1,h2,h3.keep (hb4.block g h2)⟩
  have ee:=hS4.ee
  have oo:=hS4.oo
  have hEO:E<W3.heap.size:=hS4.eo
  have hkc:kd=1∨kd=2∨kd=3∨kd=4∨kd=5∨kd=6∨kd=7∨kd=8∨kd=9∨kd=10∨kd=11∨kd=12∨kd=13∨kd=14∨kd=15∨kd=16∨kd=17∨kd=18∨kd=19∨kd=20:=by omega
  rcases hkc with rfl | rfl | rfl | rfl | rfl | rfl | rfl | rfl | rfl | rfl | rfl | rfl | rfl | rfl | rfl | rfl | rfl | rfl | rfl | rfl
  ·skip
   have c0:=ee.c0
   have c2:=ee.c2
   have c7:=ee.c7
   have c8:=ee.c8
   have p7:=oo.c7
   have p2:=oo.c2
   have p8:=oo.c8
   have f7:=oo.fr 7 (by decide)
   have f2:=oo.fr 2 (by decide)
   have f8:=oo.fr 8 (by decide)
   have mb:(-1000000000:Int)<ba∧ba<1000000000:=by omega
   have mn:(-1000000000:Int)<nn∧nn<1000000000:=by omega
   have hM:WrOk (⟨1,us,no,ts,tn,0,[],tx,ba,0,[]⟩:Ev):=⟨can_of (i:=0) (by decide) rfl (List.forall_mem_cons.2 ⟨trivial,List.forall_mem_cons.2 ⟨m3,List.forall_mem_cons.2 ⟨mb,List.forall_mem_cons.2 ⟨trivial,List.forall_mem_cons.2 ⟨trivial,List.forall_mem_nil _⟩⟩⟩⟩⟩) rfl rfl rfl,m2,m5,m6,m4,Nat.zero_le _,⟨m9.1,by show ba≤2000;omega⟩,⟨Int.le_refl 0,show (0:Int)≤2000 by decide⟩,Nat.zero_le _,fun r hr=>by cases hr⟩
   have hT0:=hS4.cell 7 _ (hS4.oo.setText tx)
   have hT1:=hT0.cell 2 _ (hT0.oo.setNote no)
   have hT2:=hT1.cell 8 _ (hT1.oo.setBase ba)
   have hD:=hT2.drew
   have hFin:=Fin2.nil hD (show WrOk _ from hM) rfl
   clear hM hT0 hT1 hT2 hD ee oo hS4
   go_wp2
   go_region
   go_upto_region 36 with fail
   generalize (((W4.setCell _ _).setCell _ _).setCell _ _).drew=W7 at *
   clear c0 c2 c7 c8 p7 f7 p2 f2 p8 f8
   obtain ⟨z,hM,hg,hr,ho,hw⟩:=hFin
   have q0:=ho.c0
   have q1:=ho.c1
   have q2:=ho.c2
   have q3:=ho.c3
   have q4:=ho.c4
   have q5:=ho.c5
   have q6:=ho.c6
   have q7:=ho.c7
   have q8:=ho.c8
   have q9:=ho.c9
   have q10:=ho.c10
   have d0:=hr.c0
   have d1:=hr.c1
   have d2:=hr.c2
   have d3:=hr.c3
   have d4:=hr.c4
   have d5:=hr.c5
   have d6:=hr.c6
   have d7:=hr.c7
   have d8:=hr.c8
   have d9:=hr.c9
   have d10:=hr.c10
   have g0:=hr.fr 0 (by decide)
   have g1:=hr.fr 1 (by decide)
   have g2:=hr.fr 2 (by decide)
   have g3:=hr.fr 3 (by decide)
   have g4:=hr.fr 4 (by decide)
   have g5:=hr.fr 5 (by decide)
   have g6:=hr.fr 6 (by decide)
   have g7:=hr.fr 7 (by decide)
   have g8:=hr.fr 8 (by decide)
   have g9:=hr.fr 9 (by decide)
   have g10:=hr.fr 10 (by decide)
   have hF:=hr.put z (.slice none 0 0)
   have hG:=hg.putE (Nat.le_refl _) z (.slice none 0 0)
   have hO:=owns_mono (owns_put hw (Nat.lt_succ_self _) z (.slice none 0 0)) (Nat.le_succ _)
   have HG:=Lib.hid hG
   have HO:=Lib.hid hO
   have HF:=Lib.hid hF
   clear hr ho hg hw hF hG hO
   go_wp2
   have hF:=HF.out
   unfold putE at hF
   have e0:=hF.c0
   have e1:=hF.c1
   have e2:=hF.c2
   have e3:=hF.c3
   have e4:=hF.c4
   have e5:=hF.c5
   have e6:=hF.c6
   have e7:=hF.c7
   have e8:=hF.c8
   have e9:=hF.c9
   have e10:=hF.c10
   exact bodyPost_ret (v:=evV z (.slice none 0 0)) (by simp [results,Tryz.results17,go_sem,e0,e1,e2,e3,e4,e5,e6,e7,e8,e9,e10,evV,ecells]) rfl ⟨z,_,_,_,hM,rfl,HG.out,HO.out⟩
  ·skip
   have c0:=ee.c0
   have c5:=ee.c5
   have c6:=ee.c6
   have c9:=ee.c9
   have p5:=oo.c5
   have p6:=oo.c6
   have p9:=oo.c9
   have f5:=oo.fr 5 (by decide)
   have f6:=oo.fr 6 (by decide)
   have f9:=oo.fr 9 (by decide)
   have mb:(-1000000000:Int)<ba∧ba<1000000000:=by omega
   have mn:(-1000000000:Int)<nn∧nn<1000000000:=by omega
   have hM:WrOk (⟨2,us,[],ts,tn,os,on,[],0,nn,[]⟩:Ev):=⟨can_of (i:=1) (by decide) rfl (List.forall_mem_cons.2 ⟨trivial,List.forall_mem_cons.2 ⟨m3,List.forall_mem_cons.2 ⟨(m8 rfl),List.forall_mem_cons.2 ⟨mn,List.forall_mem_nil _⟩⟩⟩⟩) rfl rfl rfl,m2,Nat.zero_le _,Nat.zero_le _,m4,m7,⟨Int.le_refl 0,show (0:Int)≤2000 by decide⟩,m10,Nat.zero_le _,fun r hr=>by cases hr⟩
   have hT0:=hS4.cell 5 _ (hS4.oo.setOSp os)
   have hT1:=hT0.cell 6 _ (hT0.oo.setON on)
   have hT2:=hT1.cell 9 _ (hT1.oo.setN nn)
   have hD:=hT2.drew
   have hFin:=Fin2.nil hD (show WrOk _ from hM) rfl
   clear hM hT0 hT1 hT2 hD ee oo hS4
   go_wp2
   go_region
   go_upto_region 36 with fail
   generalize (((W4.setCell _ _).setCell _ _).setCell _ _).drew=W7 at *
   clear c0 c5 c6 c9 p5 f5 p6 f6 p9 f9
   obtain ⟨z,hM,hg,hr,ho,hw⟩:=hFin
   have q0:=ho.c0
   have q1:=ho.c1
   have q2:=ho.c2
   have q3:=ho.c3
   have q4:=ho.c4
   have q5:=ho.c5
   have q6:=ho.c6
   have q7:=ho.c7
   have q8:=ho.c8
   have q9:=ho.c9
   have q10:=ho.c10
   have d0:=hr.c0
   have d1:=hr.c1
   have d2:=hr.c2
   have d3:=hr.c3
   have d4:=hr.c4
   have d5:=hr.c5
   have d6:=hr.c6
   have d7:=hr.c7
   have d8:=hr.c8
   have d9:=hr.c9
   have d10:=hr.c10
   have g0:=hr.fr 0 (by decide)
   have g1:=hr.fr 1 (by decide)
   have g2:=hr.fr 2 (by decide)
   have g3:=hr.fr 3 (by decide)
   have g4:=hr.fr 4 (by decide)
   have g5:=hr.fr 5 (by decide)
   have g6:=hr.fr 6 (by decide)
   have g7:=hr.fr 7 (by decide)
   have g8:=hr.fr 8 (by decide)
   have g9:=hr.fr 9 (by decide)
   have g10:=hr.fr 10 (by decide)
   have hF:=hr.put z (.slice none 0 0)
   have hG:=hg.putE (Nat.le_refl _) z (.slice none 0 0)
   have hO:=owns_mono (owns_put hw (Nat.lt_succ_self _) z (.slice none 0 0)) (Nat.le_succ _)
   have HG:=Lib.hid hG
   have HO:=Lib.hid hO
   have HF:=Lib.hid hF
   clear hr ho hg hw hF hG hO
   go_wp2
   have hF:=HF.out
   unfold putE at hF
   have e0:=hF.c0
   have e1:=hF.c1
   have e2:=hF.c2
   have e3:=hF.c3
   have e4:=hF.c4
   have e5:=hF.c5
   have e6:=hF.c6
   have e7:=hF.c7
   have e8:=hF.c8
   have e9:=hF.c9
   have e10:=hF.c10
   exact bodyPost_ret (v:=evV z (.slice none 0 0)) (by simp [results,Tryz.results17,go_sem,e0,e1,e2,e3,e4,e5,e6,e7,e8,e9,e10,evV,ecells]) rfl ⟨z,_,_,_,hM,rfl,HG.out,HO.out⟩
  ·skip
   have c0:=ee.c0
   have mb:(-1000000000:Int)<ba∧ba<1000000000:=by omega
   have mn:(-1000000000:Int)<nn∧nn<1000000000:=by omega
   have hM:WrOk (⟨3,us,[],ts,tn,0,[],[],0,0,[]⟩:Ev):=⟨can_of (i:=2) (by decide) rfl (List.forall_mem_cons.2 ⟨trivial,List.forall_mem_cons.2 ⟨m3,List.forall_mem_nil _⟩⟩) rfl rfl rfl,m2,Nat.zero_le _,Nat.zero_le _,m4,Nat.zero_le _,⟨Int.le_refl 0,show (0:Int)≤2000 by decide⟩,⟨Int.le_refl 0,show (0:Int)≤2000 by decide⟩,Nat.zero_le _,fun r hr=>by cases hr⟩
   have hFin:=Fin2.nil hS4 (show WrOk _ from hM) rfl
   clear hM ee oo hS4
   go_upto_region 36 with fail
   generalize hW7:W4=W7 at *
   clear hW7
   clear c0
   obtain ⟨z,hM,hg,hr,ho,hw⟩:=hFin
   have q0:=ho.c0
   have q1:=ho.c1
   have q2:=ho.c2
   have q3:=ho.c3
   have q4:=ho.c4
   have q5:=ho.c5
   have q6:=ho.c6
   have q7:=ho.c7
   have q8:=ho.c8
   have q9:=ho.c9
   have q10:=ho.c10
   have d0:=hr.c0
   have d1:=hr.c1
   have d2:=hr.c2
   have d3:=hr.c3
   have d4:=hr.c4
   have d5:=hr.c5
   have d6:=hr.c6
   have d7:=hr.c7
   have d8:=hr.c8
   have d9:=hr.c9
   have d10:=hr.c10
   have g0:=hr.fr 0 (by decide)
   have g1:=hr.fr 1 (by decide)
   have g2:=hr.fr 2 (by decide)
   have g3:=hr.fr 3 (by decide)
   have g4:=hr.fr 4 (by decide)
   have g5:=hr.fr 5 (by decide)
   have g6:=hr.fr 6 (by decide)
   have g7:=hr.fr 7 (by decide)
   have g8:=hr.fr 8 (by decide)
   have g9:=hr.fr 9 (by decide)
   have g10:=hr.fr 10 (by decide)
   have hF:=hr.put z (.slice none 0 0)
   have hG:=hg.putE (Nat.le_refl _) z (.slice none 0 0)
   have hO:=owns_mono (owns_put hw (Nat.lt_succ_self _) z (.slice none 0 0)) (Nat.le_succ _)
   have HG:=Lib.hid hG
   have HO:=Lib.hid hO
   have HF:=Lib.hid hF
   clear hr ho hg hw hF hG hO
   go_wp2
   have hF:=HF.out
   unfold putE at hF
   have e0:=hF.c0
   have e1:=hF.c1
   have e2:=hF.c2
   have e3:=hF.c3
   have e4:=hF.c4
   have e5:=hF.c5
   have e6:=hF.c6
   have e7:=hF.c7
   have e8:=hF.c8
   have e9:=hF.c9
   have e10:=hF.c10
   exact bodyPost_ret (v:=evV z (.slice none 0 0)) (by simp [results,Tryz.results17,go_sem,e0,e1,e2,e3,e4,e5,e6,e7,e8,e9,e10,evV,ecells]) rfl ⟨z,_,_,_,hM,rfl,HG.out,HO.out⟩
  ·skip
   have c0:=ee.c0
   have mb:(-1000000000:Int)<ba∧ba<1000000000:=by omega
   have mn:(-1000000000:Int)<nn∧nn<1000000000:=by omega
   have hM:WrOk (⟨4,us,[],ts,tn,0,[],[],0,0,[]⟩:Ev):=⟨can_of (i:=3) (by decide) rfl (List.forall_mem_cons.2 ⟨trivial,List.forall_mem_cons.2 ⟨m3,List.forall_mem_nil _⟩⟩) rfl rfl rfl,m2,Nat.zero_le _,Nat.zero_le _,m4,Nat.zero_le _,⟨Int.le_refl 0,show (0:Int)≤2000 by decide⟩,⟨Int.le_refl 0,show (0:Int)≤2000 by decide⟩,Nat.zero_le _,fun r hr=>by cases hr⟩
   have hFin:=Fin2.nil hS4 (show WrOk _ from hM) rfl
   clear hM ee oo hS4
   go_upto_region 36 with fail
   generalize hW7:W4=W7 at *
   clear hW7
   clear c0
   obtain ⟨z,hM,hg,hr,ho,hw⟩:=hFin
   have q0:=ho.c0
   have q1:=ho.c1
   have q2:=ho.c2
   have q3:=ho.c3
   have q4:=ho.c4
   have q5:=ho.c5
   have q6:=ho.c6
   have q7:=ho.c7
   have q8:=ho.c8
   have q9:=ho.c9
   have q10:=ho.c10
   have d0:=hr.c0
   have d1:=hr.c1
   have d2:=hr.c2
   have d3:=hr.c3
   have d4:=hr.c4
   have d5:=hr.c5
   have d6:=hr.c6
   have d7:=hr.c7
   have d8:=hr.c8
   have d9:=hr.c9
   have d10:=hr.c10
   have g0:=hr.fr 0 (by decide)
   have g1:=hr.fr 1 (by decide)
   have g2:=hr.fr 2 (by decide)
   have g3:=hr.fr 3 (by decide)
   have g4:=hr.fr 4 (by decide)
   have g5:=hr.fr 5 (by decide)
   have g6:=hr.fr 6 (by decide)
   have g7:=hr.fr 7 (by decide)
   have g8:=hr.fr 8 (by decide)
   have g9:=hr.fr 9 (by decide)
   have g10:=hr.fr 10 (by decide)
   have hF:=hr.put z (.slice none 0 0)
   have hG:=hg.putE (Nat.le_refl _) z (.slice none 0 0)
   have hO:=owns_mono (owns_put hw (Nat.lt_succ_self _) z (.slice none 0 0)) (Nat.le_succ _)
   have HG:=Lib.hid hG
   have HO:=Lib.hid hO
   have HF:=Lib.hid hF
   clear hr ho hg hw hF hG hO
   go_wp2
   have hF:=HF.out
   unfold putE at hF
   have e0:=hF.c0
   have e1:=hF.c1
   have e2:=hF.c2
   have e3:=hF.c3
   have e4:=hF.c4
   have e5:=hF.c5
   have e6:=hF.c6
   have e7:=hF.c7
   have e8:=hF.c8
   have e9:=hF.c9
   have e10:=hF.c10
   exact bodyPost_ret (v:=evV z (.slice none 0 0)) (by simp [results,Tryz.results17,go_sem,e0,e1,e2,e3,e4,e5,e6,e7,e8,e9,e10,evV,ecells]) rfl ⟨z,_,_,_,hM,rfl,HG.out,HO.out⟩
  ·have c0:=ee.c0
   have c1:=ee.c1
   have c10:=ee.c10
   have hgk:=hS4.gk
   have hres:=hS4.res
   have hre:=hS4.re
   have oo2:=oo
   have h0:LpRel W4 W3.heap.size (⟨5,us,[],ts,tn,0,[],[],0,0,[]⟩:Ev) hs 0 W4 (.slice none 0 0):=⟨Below.refl _ _,oo2,World.ownsRow_nil _ _ _ _,Nat.le_refl _⟩
   have hO4:=oo.lt
   clear hS4 ee oo oo2 hrd hb4
   generalize W3.heap.size=O at *
   generalize hn:hs.length=n at *
   have HN:=Lib.hid hn
   clear hn
   go_wp2
   go_loopw [5] (fun i wr=>∃ (j:Nat) (v:Value),j≤n∧i=.int .i64 j∧LpRel W4 O (⟨5,us,[],ts,tn,0,[],[],0,0,[]⟩:Ev) hs j wr v) (fun i _=>n - (intOf i).toNat)
   case atStart=>exact ⟨0,_,Nat.zero_le _,rfl,h0⟩
   case round =>
    obtain ⟨j,v,hj,rfl,hI⟩:=hrel
    clear h0
    have e1:=(hI.below.cell (p:=⟨E,1,none⟩) hEO).trans c1
    have e10:=(hI.below.cell (p:=⟨E,10,none⟩) hEO).trans c10
    by_cases hlt:j<n
    ·obtain ⟨g,o,rfl,hg,hra⟩:=hrd4 j hlt
     have t3:=(hra.keep (hI.below.block g hg)).c3
     have hstep:=copyTo_step us hs j
     have HS:=Lib.hid hstep
     have p10:=hI.evt.c10
     have f10:=hI.evt.fr 10 (by decide)
     have hz:=hI.size
     have hO1:=hI.evt
     have hb1:=hI.below
     have ho1:wr.ownsRow W4.heap.size 66 6 v j (hcells (copyTo us hs j)):=hI.own
     have hbase:∀ o,W4.heap.size≤(wr.drew.alloc o).heap.size:=fun o=>by show _≤(wr.heap.push _).size;rw [Array.size_push];omega
     have c10a:∀ o,(wr.alloc o).cell? ⟨O,10,none⟩=some v:=fun o=>(((Below.refl wr.heap.size wr).alloc (Nat.le_refl _) o).cell (p:=⟨O,10,none⟩) hO1.lt).trans p10
     have hdr:wr.drew.heap.size=wr.heap.size:=rfl
     have hmxl:j+1≤maxLen:=by unfold maxLen;omega
     have hbyt:(j+1) * 72≤140737488355328:=by omega
     clear hstep hI hra hrd4 c0 c1 c10 hgk hres m1 m2 m3 m4 m5 m6 m7 m8 m9 m10 m11 m13
     generalize (rv hs j).text=t at *
     have hbd : -9223372036854775808≤(j:Int)+1∧(j:Int)+1≤9223372036854775807:=by omega
     go_wp2
     have hw1:=IntWalk.wrap64_in _ hbd
     have hw2:=IntWalk.i64_in _ hbd
     go_region_law (refine step_append_own rfl (.tmp 54) (.tmp 66) 31 rfl W4.heap.size 66 i0 _ 6 72 und31 hi hz0 hz1 hz2x rfl (by decide) v j (hcells (copyTo us hs j)) rfl (World.ownsRow.alloc ho1 _) ⟨wr.heap.size,0,none⟩ 1 1 [.int .i64 ((j:Int)+1),.string ⟨us.toArray⟩,.string ⟨#[]⟩,.string ⟨t.toArray⟩,.int .i64 0,.int .i64 0] rfl rfl (cell_new _ _ _) (one_cells _ _ _) hmxl hbyt (hbase _) ?_;intro v1 w1 hown1 hgrow1 _hnil;obtain ⟨A1,m1,x1,rfl⟩:=owns_slice hown1;have hq:=imp_push hO4 hO1 hb1 ho1 hz hgrow1;have c10':=hq.1.c10;have f10':=hq.1.fr 10 (by decide))
     all_goals
      clear hw1 hw2 hbd hmxl hbyt
      go_wp2
      go_roundw
      case rel=>exact ⟨j+1,_,by omega,by go_num,⟨hq.2.1.setCell (p:=⟨O,10,none⟩) (Nat.le_refl _) _,hq.1.setHist _,by show World.ownsRow _ W4.heap.size 66 6 _ (j+1) (hcells (copyTo us hs (j+1)));rw [HS.out];exact owns_far hown1 hO4 _,by simpa using hq.2.2⟩⟩
      case measure=>simp [intOf];omega
    ·have hjn:j=n:=by omega
     subst hjn
     have hgk2:=hgk.over hI.below (by omega) hI.size
     have hr2:=hres.keep (hI.below.block _ (by omega)) (Nat.le_trans (Nat.le_refl _) hI.size)
     have hlen:(copyTo us hs j).length=j:=by simp [copyTo]
     have hne:copyTo us hs j≠[]:=fun h=>by
      have h1:=(show 1≤j by first | exact m11 rfl | exact m11 trivial)
      rw [h] at hlen
      simp at hlen;omega
     have htx:=copyTo_text (u:=us) (show j≤hs.length by rw [HN.out];exact Nat.le_refl _) m13
     have hM:WrOk (⟨5,us,[],ts,tn,0,[],[],0,0,copyTo us hs j⟩:Ev):=⟨can_import us tn ts _ m3 hne (fun k r hr=>copyTo_at hr),m2,Nat.zero_le _,Nat.zero_le _,m4,Nat.zero_le _,⟨Int.le_refl 0,show (0:Int)≤2000 by decide⟩,⟨Int.le_refl 0,show (0:Int)≤2000 by decide⟩,by show (copyTo us hs j).length≤3;rw [hlen];exact m12,htx⟩
     have hw2:=owns_mono hI.own (show w.heap.size+1≤W4.heap.size by omega)
     rw [show hcells (copyTo (⟨5,us,[],ts,tn,0,[],[],0,0,[]⟩:Ev).user hs j)=hcells (⟨5,us,[],ts,tn,0,[],[],0,0,copyTo us hs j⟩:Ev).hist from rfl] at hw2
     have hw3:wr.ownsRow (w.heap.size+1) 66 6 v (⟨5,us,[],ts,tn,0,[],[],0,0,copyTo us hs j⟩:Ev).hist.length (hcells (⟨5,us,[],ts,tn,0,[],[],0,0,copyTo us hs j⟩:Ev).hist):=by
      show World.ownsRow wr _ 66 6 v (copyTo us hs j).length _;rw [hlen];exact hw2
     obtain ⟨A2,m2',c2,rfl⟩:=owns_slice hI.own
     have hFin:Fin2 w sb O (.slice A2 m2' c2) wr:=⟨_,hM,hgk2,hr2,hI.evt.rehist _,hw3⟩
     clear hI hgk hres hM hw2 hw3 hr2 hgk2 c0 c1 c10 hrd4
     go_upto_region 36 with fail
     clear e1 e10
     obtain ⟨z,hM,hg,hr,ho,hw⟩:=hFin
     have q0:=ho.c0
     have q1:=ho.c1
     have q2:=ho.c2
     have q3:=ho.c3
     have q4:=ho.c4
     have q5:=ho.c5
     have q6:=ho.c6
     have q7:=ho.c7
     have q8:=ho.c8
     have q9:=ho.c9
     have q10:=ho.c10
     have d0:=hr.c0
     have d1:=hr.c1
     have d2:=hr.c2
     have d3:=hr.c3
     have d4:=hr.c4
     have d5:=hr.c5
     have d6:=hr.c6
     have d7:=hr.c7
     have d8:=hr.c8
     have d9:=hr.c9
     have d10:=hr.c10
     have g0:=hr.fr 0 (by decide)
     have g1:=hr.fr 1 (by decide)
     have g2:=hr.fr 2 (by decide)
     have g3:=hr.fr 3 (by decide)
     have g4:=hr.fr 4 (by decide)
     have g5:=hr.fr 5 (by decide)
     have g6:=hr.fr 6 (by decide)
     have g7:=hr.fr 7 (by decide)
     have g8:=hr.fr 8 (by decide)
     have g9:=hr.fr 9 (by decide)
     have g10:=hr.fr 10 (by decide)
     have hF:=hr.put z (.slice A2 m2' c2)
     have hG:=hg.putE (Nat.le_refl _) z (.slice A2 m2' c2)
     have hO:=owns_mono (owns_put hw (Nat.lt_succ_self _) z (.slice A2 m2' c2)) (Nat.le_succ _)
     have HG:=Lib.hid hG
     have HO:=Lib.hid hO
     have HF:=Lib.hid hF
     clear hr ho hg hw hF hG hO
     go_wp2
     have hF:=HF.out
     unfold putE at hF
     have e0:=hF.c0
     have e1:=hF.c1
     have e2:=hF.c2
     have e3:=hF.c3
     have e4:=hF.c4
     have e5:=hF.c5
     have e6:=hF.c6
     have e7:=hF.c7
     have e8:=hF.c8
     have e9:=hF.c9
     have e10:=hF.c10
     exact bodyPost_ret (v:=evV z (.slice A2 m2' c2)) (by simp [results,Tryz.results17,go_sem,e0,e1,e2,e3,e4,e5,e6,e7,e8,e9,e10,evV,ecells]) rfl ⟨z,_,_,_,hM,rfl,HG.out,HO.out⟩
  ·skip
   have c0:=ee.c0
   have c9:=ee.c9
   have p3:=oo.c3
   have p4:=oo.c4
   have p9:=oo.c9
   have f3:=oo.fr 3 (by decide)
   have f4:=oo.fr 4 (by decide)
   have f9:=oo.fr 9 (by decide)
   have mb:(-1000000000:Int)<ba∧ba<1000000000:=by omega
   have mn:(-1000000000:Int)<nn∧nn<1000000000:=by omega
   have hM:WrOk (⟨6,us,[],0,[],0,[],[],0,nn,[]⟩:Ev):=⟨can_of (i:=5) (by decide) rfl (List.forall_mem_cons.2 ⟨trivial,List.forall_mem_cons.2 ⟨mn,List.forall_mem_nil _⟩⟩) rfl rfl rfl,m2,Nat.zero_le _,Nat.zero_le _,Nat.zero_le _,Nat.zero_le _,⟨Int.le_refl 0,show (0:Int)≤2000 by decide⟩,m10,Nat.zero_le _,fun r hr=>by cases hr⟩
   have hT0:=hS4.cell 3 _ (hS4.oo.setTSp 0)
   have hT1:=hT0.cell 4 _ (hT0.oo.setTN [])
   have hT2:=hT1.cell 9 _ (hT1.oo.setN nn)
   have hD:=hT2.drew
   have hFin:=Fin2.nil hD (show WrOk _ from hM) rfl
   clear hM hT0 hT1 hT2 hD ee oo hS4
   go_wp2
   go_region
   go_upto_region 36 with fail
   generalize (((W4.setCell _ _).setCell _ _).setCell _ _).drew=W7 at *
   clear c0 c9 p3 f3 p4 f4 p9 f9
   obtain ⟨z,hM,hg,hr,ho,hw⟩:=hFin
   have q0:=ho.c0
   have q1:=ho.c1
   have q2:=ho.c2
   have q3:=ho.c3
   have q4:=ho.c4
   have q5:=ho.c5
   have q6:=ho.c6
   have q7:=ho.c7
   have q8:=ho.c8
   have q9:=ho.c9
   have q10:=ho.c10
   have d0:=hr.c0
   have d1:=hr.c1
   have d2:=hr.c2
   have d3:=hr.c3
   have d4:=hr.c4
   have d5:=hr.c5
   have d6:=hr.c6
   have d7:=hr.c7
   have d8:=hr.c8
   have d9:=hr.c9
   have d10:=hr.c10
   have g0:=hr.fr 0 (by decide)
   have g1:=hr.fr 1 (by decide)
   have g2:=hr.fr 2 (by decide)
   have g3:=hr.fr 3 (by decide)
   have g4:=hr.fr 4 (by decide)
   have g5:=hr.fr 5 (by decide)
   have g6:=hr.fr 6 (by decide)
   have g7:=hr.fr 7 (by decide)
   have g8:=hr.fr 8 (by decide)
   have g9:=hr.fr 9 (by decide)
   have g10:=hr.fr 10 (by decide)
   have hF:=hr.put z (.slice none 0 0)
   have hG:=hg.putE (Nat.le_refl _) z (.slice none 0 0)
   have hO:=owns_mono (owns_put hw (Nat.lt_succ_self _) z (.slice none 0 0)) (Nat.le_succ _)
   have HG:=Lib.hid hG
   have HO:=Lib.hid hO
   have HF:=Lib.hid hF
   clear hr ho hg hw hF hG hO
   go_wp2
   have hF:=HF.out
   unfold putE at hF
   have e0:=hF.c0
   have e1:=hF.c1
   have e2:=hF.c2
   have e3:=hF.c3
   have e4:=hF.c4
   have e5:=hF.c5
   have e6:=hF.c6
   have e7:=hF.c7
   have e8:=hF.c8
   have e9:=hF.c9
   have e10:=hF.c10
   exact bodyPost_ret (v:=evV z (.slice none 0 0)) (by simp [results,Tryz.results17,go_sem,e0,e1,e2,e3,e4,e5,e6,e7,e8,e9,e10,evV,ecells]) rfl ⟨z,_,_,_,hM,rfl,HG.out,HO.out⟩
  ·skip
   have c0:=ee.c0
   have c9:=ee.c9
   have p3:=oo.c3
   have p4:=oo.c4
   have p9:=oo.c9
   have f3:=oo.fr 3 (by decide)
   have f4:=oo.fr 4 (by decide)
   have f9:=oo.fr 9 (by decide)
   have mb:(-1000000000:Int)<ba∧ba<1000000000:=by omega
   have mn:(-1000000000:Int)<nn∧nn<1000000000:=by omega
   have hM:WrOk (⟨7,us,[],0,[],0,[],[],0,nn,[]⟩:Ev):=⟨can_of (i:=6) (by decide) rfl (List.forall_mem_cons.2 ⟨trivial,List.forall_mem_cons.2 ⟨mn,List.forall_mem_nil _⟩⟩) rfl rfl rfl,m2,Nat.zero_le _,Nat.zero_le _,Nat.zero_le _,Nat.zero_le _,⟨Int.le_refl 0,show (0:Int)≤2000 by decide⟩,m10,Nat.zero_le _,fun r hr=>by cases hr⟩
   have hT0:=hS4.cell 3 _ (hS4.oo.setTSp 0)
   have hT1:=hT0.cell 4 _ (hT0.oo.setTN [])
   have hT2:=hT1.cell 9 _ (hT1.oo.setN nn)
   have hD:=hT2.drew
   have hFin:=Fin2.nil hD (show WrOk _ from hM) rfl
   clear hM hT0 hT1 hT2 hD ee oo hS4
   go_wp2
   go_region
   go_upto_region 36 with fail
   generalize (((W4.setCell _ _).setCell _ _).setCell _ _).drew=W7 at *
   clear c0 c9 p3 f3 p4 f4 p9 f9
   obtain ⟨z,hM,hg,hr,ho,hw⟩:=hFin
   have q0:=ho.c0
   have q1:=ho.c1
   have q2:=ho.c2
   have q3:=ho.c3
   have q4:=ho.c4
   have q5:=ho.c5
   have q6:=ho.c6
   have q7:=ho.c7
   have q8:=ho.c8
   have q9:=ho.c9
   have q10:=ho.c10
   have d0:=hr.c0
   have d1:=hr.c1
   have d2:=hr.c2
   have d3:=hr.c3
   have d4:=hr.c4
   have d5:=hr.c5
   have d6:=hr.c6
   have d7:=hr.c7
   have d8:=hr.c8
   have d9:=hr.c9
   have d10:=hr.c10
   have g0:=hr.fr 0 (by decide)
   have g1:=hr.fr 1 (by decide)
   have g2:=hr.fr 2 (by decide)
   have g3:=hr.fr 3 (by decide)
   have g4:=hr.fr 4 (by decide)
   have g5:=hr.fr 5 (by decide)
   have g6:=hr.fr 6 (by decide)
   have g7:=hr.fr 7 (by decide)
   have g8:=hr.fr 8 (by decide)
   have g9:=hr.fr 9 (by decide)
   have g10:=hr.fr 10 (by decide)
   have hF:=hr.put z (.slice none 0 0)
   have hG:=hg.putE (Nat.le_refl _) z (.slice none 0 0)
   have hO:=owns_mono (owns_put hw (Nat.lt_succ_self _) z (.slice none 0 0)) (Nat.le_succ _)
   have HG:=Lib.hid hG
   have HO:=Lib.hid hO
   have HF:=Lib.hid hF
   clear hr ho hg hw hF hG hO
   go_wp2
   have hF:=HF.out
   unfold putE at hF
   have e0:=hF.c0
   have e1:=hF.c1
   have e2:=hF.c2
   have e3:=hF.c3
   have e4:=hF.c4
   have e5:=hF.c5
   have e6:=hF.c6
   have e7:=hF.c7
   have e8:=hF.c8
   have e9:=hF.c9
   have e10:=hF.c10
   exact bodyPost_ret (v:=evV z (.slice none 0 0)) (by simp [results,Tryz.results17,go_sem,e0,e1,e2,e3,e4,e5,e6,e7,e8,e9,e10,evV,ecells]) rfl ⟨z,_,_,_,hM,rfl,HG.out,HO.out⟩
  ·skip
   have c0:=ee.c0
   have mb:(-1000000000:Int)<ba∧ba<1000000000:=by omega
   have mn:(-1000000000:Int)<nn∧nn<1000000000:=by omega
   have hM:WrOk (⟨8,us,[],ts,tn,0,[],[],0,0,[]⟩:Ev):=⟨can_of (i:=7) (by decide) rfl (List.forall_mem_cons.2 ⟨trivial,List.forall_mem_cons.2 ⟨m3,List.forall_mem_nil _⟩⟩) rfl rfl rfl,m2,Nat.zero_le _,Nat.zero_le _,m4,Nat.zero_le _,⟨Int.le_refl 0,show (0:Int)≤2000 by decide⟩,⟨Int.le_refl 0,show (0:Int)≤2000 by decide⟩,Nat.zero_le _,fun r hr=>by cases hr⟩
   have hFin:=Fin2.nil hS4 (show WrOk _ from hM) rfl
   clear hM ee oo hS4
   go_upto_region 36 with fail
   generalize hW7:W4=W7 at *
   clear hW7
   clear c0
   obtain ⟨z,hM,hg,hr,ho,hw⟩:=hFin
   have q0:=ho.c0
   have q1:=ho.c1
   have q2:=ho.c2
   have q3:=ho.c3
   have q4:=ho.c4
   have q5:=ho.c5
   have q6:=ho.c6
   have q7:=ho.c7
   have q8:=ho.c8
   have q9:=ho.c9
   have q10:=ho.c10
   have d0:=hr.c0
   have d1:=hr.c1
   have d2:=hr.c2
   have d3:=hr.c3
   have d4:=hr.c4
   have d5:=hr.c5
   have d6:=hr.c6
   have d7:=hr.c7
   have d8:=hr.c8
   have d9:=hr.c9
   have d10:=hr.c10
   have g0:=hr.fr 0 (by decide)
   have g1:=hr.fr 1 (by decide)
   have g2:=hr.fr 2 (by decide)
   have g3:=hr.fr 3 (by decide)
   have g4:=hr.fr 4 (by decide)
   have g5:=hr.fr 5 (by decide)
   have g6:=hr.fr 6 (by decide)
   have g7:=hr.fr 7 (by decide)
   have g8:=hr.fr 8 (by decide)
   have g9:=hr.fr 9 (by decide)
   have g10:=hr.fr 10 (by decide)
   have hF:=hr.put z (.slice none 0 0)
   have hG:=hg.putE (Nat.le_refl _) z (.slice none 0 0)
   have hO:=owns_mono (owns_put hw (Nat.lt_succ_self _) z (.slice none 0 0)) (Nat.le_succ _)
   have HG:=Lib.hid hG
   have HO:=Lib.hid hO
   have HF:=Lib.hid hF
   clear hr ho hg hw hF hG hO
   go_wp2
   have hF:=HF.out
   unfold putE at hF
   have e0:=hF.c0
   have e1:=hF.c1
   have e2:=hF.c2
   have e3:=hF.c3
   have e4:=hF.c4
   have e5:=hF.c5
   have e6:=hF.c6
   have e7:=hF.c7
   have e8:=hF.c8
   have e9:=hF.c9
   have e10:=hF.c10
   exact bodyPost_ret (v:=evV z (.slice none 0 0)) (by simp [results,Tryz.results17,go_sem,e0,e1,e2,e3,e4,e5,e6,e7,e8,e9,e10,evV,ecells]) rfl ⟨z,_,_,_,hM,rfl,HG.out,HO.out⟩
  ·skip
   have c0:=ee.c0
   have mb:(-1000000000:Int)<ba∧ba<1000000000:=by omega
   have mn:(-1000000000:Int)<nn∧nn<1000000000:=by omega
   have hM:WrOk (⟨9,us,[],ts,tn,0,[],[],0,0,[]⟩:Ev):=⟨can_of (i:=8) (by decide) rfl (List.forall_mem_cons.2 ⟨trivial,List.forall_mem_cons.2 ⟨m3,List.forall_mem_nil _⟩⟩) rfl rfl rfl,m2,Nat.zero_le _,Nat.zero_le _,m4,Nat.zero_le _,⟨Int.le_refl 0,show (0:Int)≤2000 by decide⟩,⟨Int.le_refl 0,show (0:Int)≤2000 by decide⟩,Nat.zero_le _,fun r hr=>by cases hr⟩
   have hFin:=Fin2.nil hS4 (show WrOk _ from hM) rfl
   clear hM ee oo hS4
   go_upto_region 36 with fail
   generalize hW7:W4=W7 at *
   clear hW7
   clear c0
   obtain ⟨z,hM,hg,hr,ho,hw⟩:=hFin
   have q0:=ho.c0
   have q1:=ho.c1
   have q2:=ho.c2
   have q3:=ho.c3
   have q4:=ho.c4
   have q5:=ho.c5
   have q6:=ho.c6
   have q7:=ho.c7
   have q8:=ho.c8
   have q9:=ho.c9
   have q10:=ho.c10
   have d0:=hr.c0
   have d1:=hr.c1
   have d2:=hr.c2
   have d3:=hr.c3
   have d4:=hr.c4
   have d5:=hr.c5
   have d6:=hr.c6
   have d7:=hr.c7
   have d8:=hr.c8
   have d9:=hr.c9
   have d10:=hr.c10
   have g0:=hr.fr 0 (by decide)
   have g1:=hr.fr 1 (by decide)
   have g2:=hr.fr 2 (by decide)
   have g3:=hr.fr 3 (by decide)
   have g4:=hr.fr 4 (by decide)
   have g5:=hr.fr 5 (by decide)
   have g6:=hr.fr 6 (by decide)
   have g7:=hr.fr 7 (by decide)
   have g8:=hr.fr 8 (by decide)
   have g9:=hr.fr 9 (by decide)
   have g10:=hr.fr 10 (by decide)
   have hF:=hr.put z (.slice none 0 0)
   have hG:=hg.putE (Nat.le_refl _) z (.slice none 0 0)
   have hO:=owns_mono (owns_put hw (Nat.lt_succ_self _) z (.slice none 0 0)) (Nat.le_succ _)
   have HG:=Lib.hid hG
   have HO:=Lib.hid hO
   have HF:=Lib.hid hF
   clear hr ho hg hw hF hG hO
   go_wp2
   have hF:=HF.out
   unfold putE at hF
   have e0:=hF.c0
   have e1:=hF.c1
   have e2:=hF.c2
   have e3:=hF.c3
   have e4:=hF.c4
   have e5:=hF.c5
   have e6:=hF.c6
   have e7:=hF.c7
   have e8:=hF.c8
   have e9:=hF.c9
   have e10:=hF.c10
   exact bodyPost_ret (v:=evV z (.slice none 0 0)) (by simp [results,Tryz.results17,go_sem,e0,e1,e2,e3,e4,e5,e6,e7,e8,e9,e10,evV,ecells]) rfl ⟨z,_,_,_,hM,rfl,HG.out,HO.out⟩
  ·skip
   have c0:=ee.c0
   have c9:=ee.c9
   have p0:=oo.c0
   have p1:=oo.c1
   have p2:=oo.c2
   have p3:=oo.c3
   have p4:=oo.c4
   have p5:=oo.c5
   have p6:=oo.c6
   have p7:=oo.c7
   have p8:=oo.c8
   have p9:=oo.c9
   have p10:=oo.c10
   have f0:=oo.fr 0 (by decide)
   have f1:=oo.fr 1 (by decide)
   have f2:=oo.fr 2 (by decide)
   have f3:=oo.fr 3 (by decide)
   have f4:=oo.fr 4 (by decide)
   have f5:=oo.fr 5 (by decide)
   have f6:=oo.fr 6 (by decide)
   have f7:=oo.fr 7 (by decide)
   have f8:=oo.fr 8 (by decide)
   have f9:=oo.fr 9 (by decide)
   have f10:=oo.fr 10 (by decide)
   have mb:(-1000000000:Int)<ba∧ba<1000000000:=by omega
   have mn:(-1000000000:Int)<nn∧nn<1000000000:=by omega
   have hM:WrOk (⟨10,[],[],0,[],0,[],[],0,nn,[]⟩:Ev):=⟨can_of (i:=9) (by decide) rfl (List.forall_mem_cons.2 ⟨mn,List.forall_mem_nil _⟩) rfl rfl rfl,Nat.zero_le _,Nat.zero_le _,Nat.zero_le _,Nat.zero_le _,Nat.zero_le _,⟨Int.le_refl 0,show (0:Int)≤2000 by decide⟩,m10,Nat.zero_le _,fun r hr=>by cases hr⟩
   have hP:=(hS4.put (ev0 10) (.slice none 0 0)).rehist []
   have hQ:=hP.cell 9 _ (hP.oo.setN nn)
   have hFin:=Fin2.nil hQ (show WrOk _ from hM) rfl
   clear hM hP hQ ee oo hS4
   unfold putE ev0 at hFin
   simp only at hFin
   go_upto_region 36 with fail
   generalize ((((((((((((W4.setCell _ _).setCell _ _).setCell _ _).setCell _ _).setCell _ _).setCell _ _).setCell _ _).setCell _ _).setCell _ _).setCell _ _).setCell _ _).setCell _ _)=W7 at *
   clear c0 c9 p0 f0 p1 f1 p2 f2 p3 f3 p4 f4 p5 f5 p6 f6 p7 f7 p8 f8 p9 f9 p10 f10
   obtain ⟨z,hM,hg,hr,ho,hw⟩:=hFin
   have q0:=ho.c0
   have q1:=ho.c1
   have q2:=ho.c2
   have q3:=ho.c3
   have q4:=ho.c4
   have q5:=ho.c5
   have q6:=ho.c6
   have q7:=ho.c7
   have q8:=ho.c8
   have q9:=ho.c9
   have q10:=ho.c10
   have d0:=hr.c0
   have d1:=hr.c1
   have d2:=hr.c2
   have d3:=hr.c3
   have d4:=hr.c4
   have d5:=hr.c5
   have d6:=hr.c6
   have d7:=hr.c7
   have d8:=hr.c8
   have d9:=hr.c9
   have d10:=hr.c10
   have g0:=hr.fr 0 (by decide)
   have g1:=hr.fr 1 (by decide)
   have g2:=hr.fr 2 (by decide)
   have g3:=hr.fr 3 (by decide)
   have g4:=hr.fr 4 (by decide)
   have g5:=hr.fr 5 (by decide)
   have g6:=hr.fr 6 (by decide)
   have g7:=hr.fr 7 (by decide)
   have g8:=hr.fr 8 (by decide)
   have g9:=hr.fr 9 (by decide)
   have g10:=hr.fr 10 (by decide)
   have hF:=hr.put z (.slice none 0 0)
   have hG:=hg.putE (Nat.le_refl _) z (.slice none 0 0)
   have hO:=owns_mono (owns_put hw (Nat.lt_succ_self _) z (.slice none 0 0)) (Nat.le_succ _)
   have HG:=Lib.hid hG
   have HO:=Lib.hid hO
   have HF:=Lib.hid hF
   clear hr ho hg hw hF hG hO
   go_wp2
   have hF:=HF.out
   unfold putE at hF
   have e0:=hF.c0
   have e1:=hF.c1
   have e2:=hF.c2
   have e3:=hF.c3
   have e4:=hF.c4
   have e5:=hF.c5
   have e6:=hF.c6
   have e7:=hF.c7
   have e8:=hF.c8
   have e9:=hF.c9
   have e10:=hF.c10
   exact bodyPost_ret (v:=evV z (.slice none 0 0)) (by simp [results,Tryz.results17,go_sem,e0,e1,e2,e3,e4,e5,e6,e7,e8,e9,e10,evV,ecells]) rfl ⟨z,_,_,_,hM,rfl,HG.out,HO.out⟩
  ·skip
   have c0:=ee.c0
   have c9:=ee.c9
   have p0:=oo.c0
   have p1:=oo.c1
   have p2:=oo.c2
   have p3:=oo.c3
   have p4:=oo.c4
   have p5:=oo.c5
   have p6:=oo.c6
   have p7:=oo.c7
   have p8:=oo.c8
   have p9:=oo.c9
   have p10:=oo.c10
   have f0:=oo.fr 0 (by decide)
   have f1:=oo.fr 1 (by decide)
   have f2:=oo.fr 2 (by decide)
   have f3:=oo.fr 3 (by decide)
   have f4:=oo.fr 4 (by decide)
   have f5:=oo.fr 5 (by decide)
   have f6:=oo.fr 6 (by decide)
   have f7:=oo.fr 7 (by decide)
   have f8:=oo.fr 8 (by decide)
   have f9:=oo.fr 9 (by decide)
   have f10:=oo.fr 10 (by decide)
   have mb:(-1000000000:Int)<ba∧ba<1000000000:=by omega
   have mn:(-1000000000:Int)<nn∧nn<1000000000:=by omega
   have hM:WrOk (⟨11,[],[],0,[],0,[],[],0,0,[]⟩:Ev):=⟨can_of (i:=10) (by decide) rfl (List.forall_mem_nil _) rfl rfl rfl,Nat.zero_le _,Nat.zero_le _,Nat.zero_le _,Nat.zero_le _,Nat.zero_le _,⟨Int.le_refl 0,show (0:Int)≤2000 by decide⟩,⟨Int.le_refl 0,show (0:Int)≤2000 by decide⟩,Nat.zero_le _,fun r hr=>by cases hr⟩
   have hP:=(hS4.put (ev0 11) (.slice none 0 0)).rehist []
   have hFin:=Fin2.nil hP (show WrOk _ from hM) rfl
   clear hM hP ee oo hS4
   unfold putE ev0 at hFin
   simp only at hFin
   go_upto_region 36 with fail
   generalize (((((((((((W4.setCell _ _).setCell _ _).setCell _ _).setCell _ _).setCell _ _).setCell _ _).setCell _ _).setCell _ _).setCell _ _).setCell _ _).setCell _ _)=W7 at *
   clear c0 c9 p0 f0 p1 f1 p2 f2 p3 f3 p4 f4 p5 f5 p6 f6 p7 f7 p8 f8 p9 f9 p10 f10
   obtain ⟨z,hM,hg,hr,ho,hw⟩:=hFin
   have q0:=ho.c0
   have q1:=ho.c1
   have q2:=ho.c2
   have q3:=ho.c3
   have q4:=ho.c4
   have q5:=ho.c5
   have q6:=ho.c6
   have q7:=ho.c7
   have q8:=ho.c8
   have q9:=ho.c9
   have q10:=ho.c10
   have d0:=hr.c0
   have d1:=hr.c1
   have d2:=hr.c2
   have d3:=hr.c3
   have d4:=hr.c4
   have d5:=hr.c5
   have d6:=hr.c6
   have d7:=hr.c7
   have d8:=hr.c8
   have d9:=hr.c9
   have d10:=hr.c10
   have g0:=hr.fr 0 (by decide)
   have g1:=hr.fr 1 (by decide)
   have g2:=hr.fr 2 (by decide)
   have g3:=hr.fr 3 (by decide)
   have g4:=hr.fr 4 (by decide)
   have g5:=hr.fr 5 (by decide)
   have g6:=hr.fr 6 (by decide)
   have g7:=hr.fr 7 (by decide)
   have g8:=hr.fr 8 (by decide)
   have g9:=hr.fr 9 (by decide)
   have g10:=hr.fr 10 (by decide)
   have hF:=hr.put z (.slice none 0 0)
   have hG:=hg.putE (Nat.le_refl _) z (.slice none 0 0)
   have hO:=owns_mono (owns_put hw (Nat.lt_succ_self _) z (.slice none 0 0)) (Nat.le_succ _)
   have HG:=Lib.hid hG
   have HO:=Lib.hid hO
   have HF:=Lib.hid hF
   clear hr ho hg hw hF hG hO
   go_wp2
   have hF:=HF.out
   unfold putE at hF
   have e0:=hF.c0
   have e1:=hF.c1
   have e2:=hF.c2
   have e3:=hF.c3
   have e4:=hF.c4
   have e5:=hF.c5
   have e6:=hF.c6
   have e7:=hF.c7
   have e8:=hF.c8
   have e9:=hF.c9
   have e10:=hF.c10
   exact bodyPost_ret (v:=evV z (.slice none 0 0)) (by simp [results,Tryz.results17,go_sem,e0,e1,e2,e3,e4,e5,e6,e7,e8,e9,e10,evV,ecells]) rfl ⟨z,_,_,_,hM,rfl,HG.out,HO.out⟩
  ·skip
   have c0:=ee.c0
   have c9:=ee.c9
   have p9:=oo.c9
   have f9:=oo.fr 9 (by decide)
   have mb:(-1000000000:Int)<ba∧ba<1000000000:=by omega
   have mn:(-1000000000:Int)<nn∧nn<1000000000:=by omega
   have hM:WrOk (⟨12,us,[],ts,tn,0,[],[],0,nn,[]⟩:Ev):=⟨can_of (i:=11) (by decide) rfl (List.forall_mem_cons.2 ⟨trivial,List.forall_mem_cons.2 ⟨m3,List.forall_mem_cons.2 ⟨mn,List.forall_mem_nil _⟩⟩⟩) rfl rfl rfl,m2,Nat.zero_le _,Nat.zero_le _,m4,Nat.zero_le _,⟨Int.le_refl 0,show (0:Int)≤2000 by decide⟩,m10,Nat.zero_le _,fun r hr=>by cases hr⟩
   have hT0:=hS4.cell 9 _ (hS4.oo.setN nn)
   have hFin:=Fin2.nil hT0 (show WrOk _ from hM) rfl
   clear hM hT0 ee oo hS4
   go_upto_region 36 with fail
   generalize (W4.setCell _ _)=W7 at *
   clear c0 c9 p9 f9
   obtain ⟨z,hM,hg,hr,ho,hw⟩:=hFin
   have q0:=ho.c0
   have q1:=ho.c1
   have q2:=ho.c2
   have q3:=ho.c3
   have q4:=ho.c4
   have q5:=ho.c5
   have q6:=ho.c6
   have q7:=ho.c7
   have q8:=ho.c8
   have q9:=ho.c9
   have q10:=ho.c10
   have d0:=hr.c0
   have d1:=hr.c1
   have d2:=hr.c2
   have d3:=hr.c3
   have d4:=hr.c4
   have d5:=hr.c5
   have d6:=hr.c6
   have d7:=hr.c7
   have d8:=hr.c8
   have d9:=hr.c9
   have d10:=hr.c10
   have g0:=hr.fr 0 (by decide)
   have g1:=hr.fr 1 (by decide)
   have g2:=hr.fr 2 (by decide)
   have g3:=hr.fr 3 (by decide)
   have g4:=hr.fr 4 (by decide)
   have g5:=hr.fr 5 (by decide)
   have g6:=hr.fr 6 (by decide)
   have g7:=hr.fr 7 (by decide)
   have g8:=hr.fr 8 (by decide)
   have g9:=hr.fr 9 (by decide)
   have g10:=hr.fr 10 (by decide)
   have hF:=hr.put z (.slice none 0 0)
   have hG:=hg.putE (Nat.le_refl _) z (.slice none 0 0)
   have hO:=owns_mono (owns_put hw (Nat.lt_succ_self _) z (.slice none 0 0)) (Nat.le_succ _)
   have HG:=Lib.hid hG
   have HO:=Lib.hid hO
   have HF:=Lib.hid hF
   clear hr ho hg hw hF hG hO
   go_wp2
   have hF:=HF.out
   unfold putE at hF
   have e0:=hF.c0
   have e1:=hF.c1
   have e2:=hF.c2
   have e3:=hF.c3
   have e4:=hF.c4
   have e5:=hF.c5
   have e6:=hF.c6
   have e7:=hF.c7
   have e8:=hF.c8
   have e9:=hF.c9
   have e10:=hF.c10
   exact bodyPost_ret (v:=evV z (.slice none 0 0)) (by simp [results,Tryz.results17,go_sem,e0,e1,e2,e3,e4,e5,e6,e7,e8,e9,e10,evV,ecells]) rfl ⟨z,_,_,_,hM,rfl,HG.out,HO.out⟩
  ·skip
   have c0:=ee.c0
   have mb:(-1000000000:Int)<ba∧ba<1000000000:=by omega
   have mn:(-1000000000:Int)<nn∧nn<1000000000:=by omega
   have hM:WrOk (⟨13,us,[],ts,tn,0,[],[],0,0,[]⟩:Ev):=⟨can_of (i:=12) (by decide) rfl (List.forall_mem_cons.2 ⟨trivial,List.forall_mem_cons.2 ⟨m3,List.forall_mem_nil _⟩⟩) rfl rfl rfl,m2,Nat.zero_le _,Nat.zero_le _,m4,Nat.zero_le _,⟨Int.le_refl 0,show (0:Int)≤2000 by decide⟩,⟨Int.le_refl 0,show (0:Int)≤2000 by decide⟩,Nat.zero_le _,fun r hr=>by cases hr⟩
   have hFin:=Fin2.nil hS4 (show WrOk _ from hM) rfl
   clear hM ee oo hS4
   go_upto_region 36 with fail
   generalize hW7:W4=W7 at *
   clear hW7
   clear c0
   obtain ⟨z,hM,hg,hr,ho,hw⟩:=hFin
   have q0:=ho.c0
   have q1:=ho.c1
   have q2:=ho.c2
   have q3:=ho.c3
   have q4:=ho.c4
   have q5:=ho.c5
   have q6:=ho.c6
   have q7:=ho.c7
   have q8:=ho.c8
   have q9:=ho.c9
   have q10:=ho.c10
   have d0:=hr.c0
   have d1:=hr.c1
   have d2:=hr.c2
   have d3:=hr.c3
   have d4:=hr.c4
   have d5:=hr.c5
   have d6:=hr.c6
   have d7:=hr.c7
   have d8:=hr.c8
   have d9:=hr.c9
   have d10:=hr.c10
   have g0:=hr.fr 0 (by decide)
   have g1:=hr.fr 1 (by decide)
   have g2:=hr.fr 2 (by decide)
   have g3:=hr.fr 3 (by decide)
   have g4:=hr.fr 4 (by decide)
   have g5:=hr.fr 5 (by decide)
   have g6:=hr.fr 6 (by decide)
   have g7:=hr.fr 7 (by decide)
   have g8:=hr.fr 8 (by decide)
   have g9:=hr.fr 9 (by decide)
   have g10:=hr.fr 10 (by decide)
   have hF:=hr.put z (.slice none 0 0)
   have hG:=hg.putE (Nat.le_refl _) z (.slice none 0 0)
   have hO:=owns_mono (owns_put hw (Nat.lt_succ_self _) z (.slice none 0 0)) (Nat.le_succ _)
   have HG:=Lib.hid hG
   have HO:=Lib.hid hO
   have HF:=Lib.hid hF
   clear hr ho hg hw hF hG hO
   go_wp2
   have hF:=HF.out
   unfold putE at hF
   have e0:=hF.c0
   have e1:=hF.c1
   have e2:=hF.c2
   have e3:=hF.c3
   have e4:=hF.c4
   have e5:=hF.c5
   have e6:=hF.c6
   have e7:=hF.c7
   have e8:=hF.c8
   have e9:=hF.c9
   have e10:=hF.c10
   exact bodyPost_ret (v:=evV z (.slice none 0 0)) (by simp [results,Tryz.results17,go_sem,e0,e1,e2,e3,e4,e5,e6,e7,e8,e9,e10,evV,ecells]) rfl ⟨z,_,_,_,hM,rfl,HG.out,HO.out⟩
  ·skip
   have c0:=ee.c0
   have mb:(-1000000000:Int)<ba∧ba<1000000000:=by omega
   have mn:(-1000000000:Int)<nn∧nn<1000000000:=by omega
   have hM:WrOk (⟨14,us,[],ts,tn,0,[],[],0,0,[]⟩:Ev):=⟨can_of (i:=13) (by decide) rfl (List.forall_mem_cons.2 ⟨trivial,List.forall_mem_cons.2 ⟨m3,List.forall_mem_nil _⟩⟩) rfl rfl rfl,m2,Nat.zero_le _,Nat.zero_le _,m4,Nat.zero_le _,⟨Int.le_refl 0,show (0:Int)≤2000 by decide⟩,⟨Int.le_refl 0,show (0:Int)≤2000 by decide⟩,Nat.zero_le _,fun r hr=>by cases hr⟩
   have hFin:=Fin2.nil hS4 (show WrOk _ from hM) rfl
   clear hM ee oo hS4
   go_upto_region 36 with fail
   generalize hW7:W4=W7 at *
   clear hW7
   clear c0
   obtain ⟨z,hM,hg,hr,ho,hw⟩:=hFin
   have q0:=ho.c0
   have q1:=ho.c1
   have q2:=ho.c2
   have q3:=ho.c3
   have q4:=ho.c4
   have q5:=ho.c5
   have q6:=ho.c6
   have q7:=ho.c7
   have q8:=ho.c8
   have q9:=ho.c9
   have q10:=ho.c10
   have d0:=hr.c0
   have d1:=hr.c1
   have d2:=hr.c2
   have d3:=hr.c3
   have d4:=hr.c4
   have d5:=hr.c5
   have d6:=hr.c6
   have d7:=hr.c7
   have d8:=hr.c8
   have d9:=hr.c9
   have d10:=hr.c10
   have g0:=hr.fr 0 (by decide)
   have g1:=hr.fr 1 (by decide)
   have g2:=hr.fr 2 (by decide)
   have g3:=hr.fr 3 (by decide)
   have g4:=hr.fr 4 (by decide)
   have g5:=hr.fr 5 (by decide)
   have g6:=hr.fr 6 (by decide)
   have g7:=hr.fr 7 (by decide)
   have g8:=hr.fr 8 (by decide)
   have g9:=hr.fr 9 (by decide)
   have g10:=hr.fr 10 (by decide)
   have hF:=hr.put z (.slice none 0 0)
   have hG:=hg.putE (Nat.le_refl _) z (.slice none 0 0)
   have hO:=owns_mono (owns_put hw (Nat.lt_succ_self _) z (.slice none 0 0)) (Nat.le_succ _)
   have HG:=Lib.hid hG
   have HO:=Lib.hid hO
   have HF:=Lib.hid hF
   clear hr ho hg hw hF hG hO
   go_wp2
   have hF:=HF.out
   unfold putE at hF
   have e0:=hF.c0
   have e1:=hF.c1
   have e2:=hF.c2
   have e3:=hF.c3
   have e4:=hF.c4
   have e5:=hF.c5
   have e6:=hF.c6
   have e7:=hF.c7
   have e8:=hF.c8
   have e9:=hF.c9
   have e10:=hF.c10
   exact bodyPost_ret (v:=evV z (.slice none 0 0)) (by simp [results,Tryz.results17,go_sem,e0,e1,e2,e3,e4,e5,e6,e7,e8,e9,e10,evV,ecells]) rfl ⟨z,_,_,_,hM,rfl,HG.out,HO.out⟩
  ·skip
   have c0:=ee.c0
   have p3:=oo.c3
   have p4:=oo.c4
   have f3:=oo.fr 3 (by decide)
   have f4:=oo.fr 4 (by decide)
   have mb:(-1000000000:Int)<ba∧ba<1000000000:=by omega
   have mn:(-1000000000:Int)<nn∧nn<1000000000:=by omega
   have hM:WrOk (⟨15,us,[],0,[],0,[],[],0,0,[]⟩:Ev):=⟨can_of (i:=14) (by decide) rfl (List.forall_mem_cons.2 ⟨trivial,List.forall_mem_nil _⟩) rfl rfl rfl,m2,Nat.zero_le _,Nat.zero_le _,Nat.zero_le _,Nat.zero_le _,⟨Int.le_refl 0,show (0:Int)≤2000 by decide⟩,⟨Int.le_refl 0,show (0:Int)≤2000 by decide⟩,Nat.zero_le _,fun r hr=>by cases hr⟩
   have hT0:=hS4.cell 3 _ (hS4.oo.setTSp 0)
   have hT1:=hT0.cell 4 _ (hT0.oo.setTN [])
   have hFin:=Fin2.nil hT1 (show WrOk _ from hM) rfl
   clear hM hT0 hT1 ee oo hS4
   go_upto_region 36 with fail
   generalize ((W4.setCell _ _).setCell _ _)=W7 at *
   clear c0 p3 f3 p4 f4
   obtain ⟨z,hM,hg,hr,ho,hw⟩:=hFin
   have q0:=ho.c0
   have q1:=ho.c1
   have q2:=ho.c2
   have q3:=ho.c3
   have q4:=ho.c4
   have q5:=ho.c5
   have q6:=ho.c6
   have q7:=ho.c7
   have q8:=ho.c8
   have q9:=ho.c9
   have q10:=ho.c10
   have d0:=hr.c0
   have d1:=hr.c1
   have d2:=hr.c2
   have d3:=hr.c3
   have d4:=hr.c4
   have d5:=hr.c5
   have d6:=hr.c6
   have d7:=hr.c7
   have d8:=hr.c8
   have d9:=hr.c9
   have d10:=hr.c10
   have g0:=hr.fr 0 (by decide)
   have g1:=hr.fr 1 (by decide)
   have g2:=hr.fr 2 (by decide)
   have g3:=hr.fr 3 (by decide)
   have g4:=hr.fr 4 (by decide)
   have g5:=hr.fr 5 (by decide)
   have g6:=hr.fr 6 (by decide)
   have g7:=hr.fr 7 (by decide)
   have g8:=hr.fr 8 (by decide)
   have g9:=hr.fr 9 (by decide)
   have g10:=hr.fr 10 (by decide)
   have hF:=hr.put z (.slice none 0 0)
   have hG:=hg.putE (Nat.le_refl _) z (.slice none 0 0)
   have hO:=owns_mono (owns_put hw (Nat.lt_succ_self _) z (.slice none 0 0)) (Nat.le_succ _)
   have HG:=Lib.hid hG
   have HO:=Lib.hid hO
   have HF:=Lib.hid hF
   clear hr ho hg hw hF hG hO
   go_wp2
   have hF:=HF.out
   unfold putE at hF
   have e0:=hF.c0
   have e1:=hF.c1
   have e2:=hF.c2
   have e3:=hF.c3
   have e4:=hF.c4
   have e5:=hF.c5
   have e6:=hF.c6
   have e7:=hF.c7
   have e8:=hF.c8
   have e9:=hF.c9
   have e10:=hF.c10
   exact bodyPost_ret (v:=evV z (.slice none 0 0)) (by simp [results,Tryz.results17,go_sem,e0,e1,e2,e3,e4,e5,e6,e7,e8,e9,e10,evV,ecells]) rfl ⟨z,_,_,_,hM,rfl,HG.out,HO.out⟩
  ·skip
   have c0:=ee.c0
   have c7:=ee.c7
   have p3:=oo.c3
   have p4:=oo.c4
   have p7:=oo.c7
   have f3:=oo.fr 3 (by decide)
   have f4:=oo.fr 4 (by decide)
   have f7:=oo.fr 7 (by decide)
   have mb:(-1000000000:Int)<ba∧ba<1000000000:=by omega
   have mn:(-1000000000:Int)<nn∧nn<1000000000:=by omega
   have hM:WrOk (⟨16,us,[],0,[],0,[],tx,0,0,[]⟩:Ev):=⟨can_of (i:=15) (by decide) rfl (List.forall_mem_cons.2 ⟨trivial,List.forall_mem_cons.2 ⟨trivial,List.forall_mem_nil _⟩⟩) rfl rfl rfl,m2,Nat.zero_le _,m6,Nat.zero_le _,Nat.zero_le _,⟨Int.le_refl 0,show (0:Int)≤2000 by decide⟩,⟨Int.le_refl 0,show (0:Int)≤2000 by decide⟩,Nat.zero_le _,fun r hr=>by cases hr⟩
   have hT0:=hS4.cell 3 _ (hS4.oo.setTSp 0)
   have hT1:=hT0.cell 4 _ (hT0.oo.setTN [])
   have hT2:=hT1.cell 7 _ (hT1.oo.setText tx)
   have hD:=hT2.drew
   have hFin:=Fin2.nil hD (show WrOk _ from hM) rfl
   clear hM hT0 hT1 hT2 hD ee oo hS4
   go_wp2
   go_region
   go_upto_region 36 with fail
   generalize (((W4.setCell _ _).setCell _ _).setCell _ _).drew=W7 at *
   clear c0 c7 p3 f3 p4 f4 p7 f7
   obtain ⟨z,hM,hg,hr,ho,hw⟩:=hFin
   have q0:=ho.c0
   have q1:=ho.c1
   have q2:=ho.c2
   have q3:=ho.c3
   have q4:=ho.c4
   have q5:=ho.c5
   have q6:=ho.c6
   have q7:=ho.c7
   have q8:=ho.c8
   have q9:=ho.c9
   have q10:=ho.c10
   have d0:=hr.c0
   have d1:=hr.c1
   have d2:=hr.c2
   have d3:=hr.c3
   have d4:=hr.c4
   have d5:=hr.c5
   have d6:=hr.c6
   have d7:=hr.c7
   have d8:=hr.c8
   have d9:=hr.c9
   have d10:=hr.c10
   have g0:=hr.fr 0 (by decide)
   have g1:=hr.fr 1 (by decide)
   have g2:=hr.fr 2 (by decide)
   have g3:=hr.fr 3 (by decide)
   have g4:=hr.fr 4 (by decide)
   have g5:=hr.fr 5 (by decide)
   have g6:=hr.fr 6 (by decide)
   have g7:=hr.fr 7 (by decide)
   have g8:=hr.fr 8 (by decide)
   have g9:=hr.fr 9 (by decide)
   have g10:=hr.fr 10 (by decide)
   have hF:=hr.put z (.slice none 0 0)
   have hG:=hg.putE (Nat.le_refl _) z (.slice none 0 0)
   have hO:=owns_mono (owns_put hw (Nat.lt_succ_self _) z (.slice none 0 0)) (Nat.le_succ _)
   have HG:=Lib.hid hG
   have HO:=Lib.hid hO
   have HF:=Lib.hid hF
   clear hr ho hg hw hF hG hO
   go_wp2
   have hF:=HF.out
   unfold putE at hF
   have e0:=hF.c0
   have e1:=hF.c1
   have e2:=hF.c2
   have e3:=hF.c3
   have e4:=hF.c4
   have e5:=hF.c5
   have e6:=hF.c6
   have e7:=hF.c7
   have e8:=hF.c8
   have e9:=hF.c9
   have e10:=hF.c10
   exact bodyPost_ret (v:=evV z (.slice none 0 0)) (by simp [results,Tryz.results17,go_sem,e0,e1,e2,e3,e4,e5,e6,e7,e8,e9,e10,evV,ecells]) rfl ⟨z,_,_,_,hM,rfl,HG.out,HO.out⟩
  ·skip
   have c0:=ee.c0
   have c9:=ee.c9
   have p3:=oo.c3
   have p4:=oo.c4
   have p9:=oo.c9
   have f3:=oo.fr 3 (by decide)
   have f4:=oo.fr 4 (by decide)
   have f9:=oo.fr 9 (by decide)
   have mb:(-1000000000:Int)<ba∧ba<1000000000:=by omega
   have mn:(-1000000000:Int)<nn∧nn<1000000000:=by omega
   have hM:WrOk (⟨17,us,[],0,[],0,[],[],0,nn,[]⟩:Ev):=⟨can_of (i:=16) (by decide) rfl (List.forall_mem_cons.2 ⟨trivial,List.forall_mem_cons.2 ⟨mn,List.forall_mem_nil _⟩⟩) rfl rfl rfl,m2,Nat.zero_le _,Nat.zero_le _,Nat.zero_le _,Nat.zero_le _,⟨Int.le_refl 0,show (0:Int)≤2000 by decide⟩,m10,Nat.zero_le _,fun r hr=>by cases hr⟩
   have hT0:=hS4.cell 3 _ (hS4.oo.setTSp 0)
   have hT1:=hT0.cell 4 _ (hT0.oo.setTN [])
   have hT2:=hT1.cell 9 _ (hT1.oo.setN nn)
   have hD:=hT2.drew
   have hFin:=Fin2.nil hD (show WrOk _ from hM) rfl
   clear hM hT0 hT1 hT2 hD ee oo hS4
   go_wp2
   go_region
   go_upto_region 36 with fail
   generalize (((W4.setCell _ _).setCell _ _).setCell _ _).drew=W7 at *
   clear c0 c9 p3 f3 p4 f4 p9 f9
   obtain ⟨z,hM,hg,hr,ho,hw⟩:=hFin
   have q0:=ho.c0
   have q1:=ho.c1
   have q2:=ho.c2
   have q3:=ho.c3
   have q4:=ho.c4
   have q5:=ho.c5
   have q6:=ho.c6
   have q7:=ho.c7
   have q8:=ho.c8
   have q9:=ho.c9
   have q10:=ho.c10
   have d0:=hr.c0
   have d1:=hr.c1
   have d2:=hr.c2
   have d3:=hr.c3
   have d4:=hr.c4
   have d5:=hr.c5
   have d6:=hr.c6
   have d7:=hr.c7
   have d8:=hr.c8
   have d9:=hr.c9
   have d10:=hr.c10
   have g0:=hr.fr 0 (by decide)
   have g1:=hr.fr 1 (by decide)
   have g2:=hr.fr 2 (by decide)
   have g3:=hr.fr 3 (by decide)
   have g4:=hr.fr 4 (by decide)
   have g5:=hr.fr 5 (by decide)
   have g6:=hr.fr 6 (by decide)
   have g7:=hr.fr 7 (by decide)
   have g8:=hr.fr 8 (by decide)
   have g9:=hr.fr 9 (by decide)
   have g10:=hr.fr 10 (by decide)
   have hF:=hr.put z (.slice none 0 0)
   have hG:=hg.putE (Nat.le_refl _) z (.slice none 0 0)
   have hO:=owns_mono (owns_put hw (Nat.lt_succ_self _) z (.slice none 0 0)) (Nat.le_succ _)
   have HG:=Lib.hid hG
   have HO:=Lib.hid hO
   have HF:=Lib.hid hF
   clear hr ho hg hw hF hG hO
   go_wp2
   have hF:=HF.out
   unfold putE at hF
   have e0:=hF.c0
   have e1:=hF.c1
   have e2:=hF.c2
   have e3:=hF.c3
   have e4:=hF.c4
   have e5:=hF.c5
   have e6:=hF.c6
   have e7:=hF.c7
   have e8:=hF.c8
   have e9:=hF.c9
   have e10:=hF.c10
   exact bodyPost_ret (v:=evV z (.slice none 0 0)) (by simp [results,Tryz.results17,go_sem,e0,e1,e2,e3,e4,e5,e6,e7,e8,e9,e10,evV,ecells]) rfl ⟨z,_,_,_,hM,rfl,HG.out,HO.out⟩
  ·skip
   have c0:=ee.c0
   have c8:=ee.c8
   have c9:=ee.c9
   have p8:=oo.c8
   have p9:=oo.c9
   have f8:=oo.fr 8 (by decide)
   have f9:=oo.fr 9 (by decide)
   have mb:(-1000000000:Int)<ba∧ba<1000000000:=by omega
   have mn:(-1000000000:Int)<nn∧nn<1000000000:=by omega
   have hM:WrOk (⟨18,us,[],ts,tn,0,[],[],ba,nn,[]⟩:Ev):=⟨can_of (i:=17) (by decide) rfl (List.forall_mem_cons.2 ⟨trivial,List.forall_mem_cons.2 ⟨m3,List.forall_mem_cons.2 ⟨mb,List.forall_mem_cons.2 ⟨mn,List.forall_mem_nil _⟩⟩⟩⟩) rfl rfl rfl,m2,Nat.zero_le _,Nat.zero_le _,m4,Nat.zero_le _,⟨m9.1,by show ba≤2000;omega⟩,m10,Nat.zero_le _,fun r hr=>by cases hr⟩
   have hT0:=hS4.cell 8 _ (hS4.oo.setBase ba)
   have hT1:=hT0.cell 9 _ (hT0.oo.setN nn)
   have hD:=hT1.drew
   have hFin:=Fin2.nil hD (show WrOk _ from hM) rfl
   clear hM hT0 hT1 hD ee oo hS4
   go_wp2
   go_region
   go_upto_region 36 with fail
   generalize ((W4.setCell _ _).setCell _ _).drew=W7 at *
   clear c0 c8 c9 p8 f8 p9 f9
   obtain ⟨z,hM,hg,hr,ho,hw⟩:=hFin
   have q0:=ho.c0
   have q1:=ho.c1
   have q2:=ho.c2
   have q3:=ho.c3
   have q4:=ho.c4
   have q5:=ho.c5
   have q6:=ho.c6
   have q7:=ho.c7
   have q8:=ho.c8
   have q9:=ho.c9
   have q10:=ho.c10
   have d0:=hr.c0
   have d1:=hr.c1
   have d2:=hr.c2
   have d3:=hr.c3
   have d4:=hr.c4
   have d5:=hr.c5
   have d6:=hr.c6
   have d7:=hr.c7
   have d8:=hr.c8
   have d9:=hr.c9
   have d10:=hr.c10
   have g0:=hr.fr 0 (by decide)
   have g1:=hr.fr 1 (by decide)
   have g2:=hr.fr 2 (by decide)
   have g3:=hr.fr 3 (by decide)
   have g4:=hr.fr 4 (by decide)
   have g5:=hr.fr 5 (by decide)
   have g6:=hr.fr 6 (by decide)
   have g7:=hr.fr 7 (by decide)
   have g8:=hr.fr 8 (by decide)
   have g9:=hr.fr 9 (by decide)
   have g10:=hr.fr 10 (by decide)
   have hF:=hr.put z (.slice none 0 0)
   have hG:=hg.putE (Nat.le_refl _) z (.slice none 0 0)
   have hO:=owns_mono (owns_put hw (Nat.lt_succ_self _) z (.slice none 0 0)) (Nat.le_succ _)
   have HG:=Lib.hid hG
   have HO:=Lib.hid hO
   have HF:=Lib.hid hF
   clear hr ho hg hw hF hG hO
   go_wp2
   have hF:=HF.out
   unfold putE at hF
   have e0:=hF.c0
   have e1:=hF.c1
   have e2:=hF.c2
   have e3:=hF.c3
   have e4:=hF.c4
   have e5:=hF.c5
   have e6:=hF.c6
   have e7:=hF.c7
   have e8:=hF.c8
   have e9:=hF.c9
   have e10:=hF.c10
   exact bodyPost_ret (v:=evV z (.slice none 0 0)) (by simp [results,Tryz.results17,go_sem,e0,e1,e2,e3,e4,e5,e6,e7,e8,e9,e10,evV,ecells]) rfl ⟨z,_,_,_,hM,rfl,HG.out,HO.out⟩
  ·skip
   have c0:=ee.c0
   have c9:=ee.c9
   have p0:=oo.c0
   have p1:=oo.c1
   have p2:=oo.c2
   have p3:=oo.c3
   have p4:=oo.c4
   have p5:=oo.c5
   have p6:=oo.c6
   have p7:=oo.c7
   have p8:=oo.c8
   have p9:=oo.c9
   have p10:=oo.c10
   have f0:=oo.fr 0 (by decide)
   have f1:=oo.fr 1 (by decide)
   have f2:=oo.fr 2 (by decide)
   have f3:=oo.fr 3 (by decide)
   have f4:=oo.fr 4 (by decide)
   have f5:=oo.fr 5 (by decide)
   have f6:=oo.fr 6 (by decide)
   have f7:=oo.fr 7 (by decide)
   have f8:=oo.fr 8 (by decide)
   have f9:=oo.fr 9 (by decide)
   have f10:=oo.fr 10 (by decide)
   have mb:(-1000000000:Int)<ba∧ba<1000000000:=by omega
   have mn:(-1000000000:Int)<nn∧nn<1000000000:=by omega
   have hM:WrOk (⟨19,[],[],0,[],0,[],[],0,nn,[]⟩:Ev):=⟨can_of (i:=18) (by decide) rfl (List.forall_mem_cons.2 ⟨mn,List.forall_mem_nil _⟩) rfl rfl rfl,Nat.zero_le _,Nat.zero_le _,Nat.zero_le _,Nat.zero_le _,Nat.zero_le _,⟨Int.le_refl 0,show (0:Int)≤2000 by decide⟩,m10,Nat.zero_le _,fun r hr=>by cases hr⟩
   have hP:=(hS4.put (ev0 19) (.slice none 0 0)).rehist []
   have hQ:=hP.cell 9 _ (hP.oo.setN nn)
   have hFin:=Fin2.nil hQ (show WrOk _ from hM) rfl
   clear hM hP hQ ee oo hS4
   unfold putE ev0 at hFin
   simp only at hFin
   go_upto_region 36 with fail
   generalize ((((((((((((W4.setCell _ _).setCell _ _).setCell _ _).setCell _ _).setCell _ _).setCell _ _).setCell _ _).setCell _ _).setCell _ _).setCell _ _).setCell _ _).setCell _ _)=W7 at *
   clear c0 c9 p0 f0 p1 f1 p2 f2 p3 f3 p4 f4 p5 f5 p6 f6 p7 f7 p8 f8 p9 f9 p10 f10
   obtain ⟨z,hM,hg,hr,ho,hw⟩:=hFin
   have q0:=ho.c0
   have q1:=ho.c1
   have q2:=ho.c2
   have q3:=ho.c3
   have q4:=ho.c4
   have q5:=ho.c5
   have q6:=ho.c6
   have q7:=ho.c7
   have q8:=ho.c8
   have q9:=ho.c9
   have q10:=ho.c10
   have d0:=hr.c0
   have d1:=hr.c1
   have d2:=hr.c2
   have d3:=hr.c3
   have d4:=hr.c4
   have d5:=hr.c5
   have d6:=hr.c6
   have d7:=hr.c7
   have d8:=hr.c8
   have d9:=hr.c9
   have d10:=hr.c10
   have g0:=hr.fr 0 (by decide)
   have g1:=hr.fr 1 (by decide)
   have g2:=hr.fr 2 (by decide)
   have g3:=hr.fr 3 (by decide)
   have g4:=hr.fr 4 (by decide)
   have g5:=hr.fr 5 (by decide)
   have g6:=hr.fr 6 (by decide)
   have g7:=hr.fr 7 (by decide)
   have g8:=hr.fr 8 (by decide)
   have g9:=hr.fr 9 (by decide)
   have g10:=hr.fr 10 (by decide)
   have hF:=hr.put z (.slice none 0 0)
   have hG:=hg.putE (Nat.le_refl _) z (.slice none 0 0)
   have hO:=owns_mono (owns_put hw (Nat.lt_succ_self _) z (.slice none 0 0)) (Nat.le_succ _)
   have HG:=Lib.hid hG
   have HO:=Lib.hid hO
   have HF:=Lib.hid hF
   clear hr ho hg hw hF hG hO
   go_wp2
   have hF:=HF.out
   unfold putE at hF
   have e0:=hF.c0
   have e1:=hF.c1
   have e2:=hF.c2
   have e3:=hF.c3
   have e4:=hF.c4
   have e5:=hF.c5
   have e6:=hF.c6
   have e7:=hF.c7
   have e8:=hF.c8
   have e9:=hF.c9
   have e10:=hF.c10
   exact bodyPost_ret (v:=evV z (.slice none 0 0)) (by simp [results,Tryz.results17,go_sem,e0,e1,e2,e3,e4,e5,e6,e7,e8,e9,e10,evV,ecells]) rfl ⟨z,_,_,_,hM,rfl,HG.out,HO.out⟩
  ·skip
   have c0:=ee.c0
   have c9:=ee.c9
   have p0:=oo.c0
   have p1:=oo.c1
   have p2:=oo.c2
   have p3:=oo.c3
   have p4:=oo.c4
   have p5:=oo.c5
   have p6:=oo.c6
   have p7:=oo.c7
   have p8:=oo.c8
   have p9:=oo.c9
   have p10:=oo.c10
   have f0:=oo.fr 0 (by decide)
   have f1:=oo.fr 1 (by decide)
   have f2:=oo.fr 2 (by decide)
   have f3:=oo.fr 3 (by decide)
   have f4:=oo.fr 4 (by decide)
   have f5:=oo.fr 5 (by decide)
   have f6:=oo.fr 6 (by decide)
   have f7:=oo.fr 7 (by decide)
   have f8:=oo.fr 8 (by decide)
   have f9:=oo.fr 9 (by decide)
   have f10:=oo.fr 10 (by decide)
   have mb:(-1000000000:Int)<ba∧ba<1000000000:=by omega
   have mn:(-1000000000:Int)<nn∧nn<1000000000:=by omega
   have hM:WrOk (⟨20,[],[],0,[],0,[],[],0,nn,[]⟩:Ev):=⟨can_of (i:=19) (by decide) rfl (List.forall_mem_cons.2 ⟨mn,List.forall_mem_nil _⟩) rfl rfl rfl,Nat.zero_le _,Nat.zero_le _,Nat.zero_le _,Nat.zero_le _,Nat.zero_le _,⟨Int.le_refl 0,show (0:Int)≤2000 by decide⟩,m10,Nat.zero_le _,fun r hr=>by cases hr⟩
   have hP:=(hS4.put (ev0 20) (.slice none 0 0)).rehist []
   have hQ:=hP.cell 9 _ (hP.oo.setN nn)
   have hFin:=Fin2.nil hQ (show WrOk _ from hM) rfl
   clear hM hP hQ ee oo hS4
   unfold putE ev0 at hFin
   simp only at hFin
   go_upto_region 36 with fail
   generalize ((((((((((((W4.setCell _ _).setCell _ _).setCell _ _).setCell _ _).setCell _ _).setCell _ _).setCell _ _).setCell _ _).setCell _ _).setCell _ _).setCell _ _).setCell _ _)=W7 at *
   clear c0 c9 p0 f0 p1 f1 p2 f2 p3 f3 p4 f4 p5 f5 p6 f6 p7 f7 p8 f8 p9 f9 p10 f10
   obtain ⟨z,hM,hg,hr,ho,hw⟩:=hFin
   have q0:=ho.c0
   have q1:=ho.c1
   have q2:=ho.c2
   have q3:=ho.c3
   have q4:=ho.c4
   have q5:=ho.c5
   have q6:=ho.c6
   have q7:=ho.c7
   have q8:=ho.c8
   have q9:=ho.c9
   have q10:=ho.c10
   have d0:=hr.c0
   have d1:=hr.c1
   have d2:=hr.c2
   have d3:=hr.c3
   have d4:=hr.c4
   have d5:=hr.c5
   have d6:=hr.c6
   have d7:=hr.c7
   have d8:=hr.c8
   have d9:=hr.c9
   have d10:=hr.c10
   have g0:=hr.fr 0 (by decide)
   have g1:=hr.fr 1 (by decide)
   have g2:=hr.fr 2 (by decide)
   have g3:=hr.fr 3 (by decide)
   have g4:=hr.fr 4 (by decide)
   have g5:=hr.fr 5 (by decide)
   have g6:=hr.fr 6 (by decide)
   have g7:=hr.fr 7 (by decide)
   have g8:=hr.fr 8 (by decide)
   have g9:=hr.fr 9 (by decide)
   have g10:=hr.fr 10 (by decide)
   have hF:=hr.put z (.slice none 0 0)
   have hG:=hg.putE (Nat.le_refl _) z (.slice none 0 0)
   have hO:=owns_mono (owns_put hw (Nat.lt_succ_self _) z (.slice none 0 0)) (Nat.le_succ _)
   have HG:=Lib.hid hG
   have HO:=Lib.hid hO
   have HF:=Lib.hid hF
   clear hr ho hg hw hF hG hO
   go_wp2
   have hF:=HF.out
   unfold putE at hF
   have e0:=hF.c0
   have e1:=hF.c1
   have e2:=hF.c2
   have e3:=hF.c3
   have e4:=hF.c4
   have e5:=hF.c5
   have e6:=hF.c6
   have e7:=hF.c7
   have e8:=hF.c8
   have e9:=hF.c9
   have e10:=hF.c10
   exact bodyPost_ret (v:=evV z (.slice none 0 0)) (by simp [results,Tryz.results17,go_sem,e0,e1,e2,e3,e4,e5,e6,e7,e8,e9,e10,evV,ecells]) rfl ⟨z,_,_,_,hM,rfl,HG.out,HO.out⟩
end Go.Proofs
