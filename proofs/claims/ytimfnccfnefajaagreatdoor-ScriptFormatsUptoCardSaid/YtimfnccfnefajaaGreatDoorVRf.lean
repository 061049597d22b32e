/- A part of the proof: Rs -/
import Derived.Test.YtimfnccfnefajaaGreatDoorVRe
import Derived.Test.YtimfnccfnefajaaGreatDoorVWh
set_option linter.unusedSimpArgs false
set_option linter.unusedVariables false
namespace Go.Proofs
open Go.RowKit Go.Sp
structure LnW (w W:World) (g F:Nat) (L:List Bs):Prop where
 below:Below w.heap.size w W
 res:EBlk W w.heap.size (ev0 0) (.slice none 0 0)
 row:RowO W g 0 L
 shp:SRow W F
 ltg:w.heap.size<g
 ltG:g<W.heap.size
 ltF:F<W.heap.size
 ltf:w.heap.size<F
theorem LnW.step {w W W':World} {g F:Nat} {L:List Bs} (h:LnW w W g F L) (b:Below W.heap.size W W'):LnW w W' g F L :=
 ⟨h.below.trans (b.mono h.below.size),h.res.below h.res.lt b,h.row.below h.ltG b,h.shp.below h.ltF b,h.ltg,Nat.lt_of_lt_of_le h.ltG b.size,Nat.lt_of_lt_of_le h.ltF b.size,h.ltf⟩
theorem LnW.drewN {w W:World} {g F:Nat} {L:List Bs} (h:LnW w W g F L) (n:Nat):LnW w (W.drewN n) g F L:=h.step (below_drewN (Below.refl _ _) n)
theorem owns_cap {w:World} {base e size g n cap:Nat} {xs:List Value} (h:w.ownsRow base e size (.slice (some ⟨g,0,none⟩) n cap) n xs):n≤cap:=by
 rcases h.2 with ⟨h',_⟩ | ⟨g',cap',cur,h',_,_,hnc,_⟩
 ·simp at h'
 ·simp only [Value.slice.injEq,Option.some.injEq,Addr.mk.injEq,and_true,true_and] at h'
  obtain ⟨rfl,rfl⟩:=h'
  exact hnc
theorem find_at {v:Bs}:∀ (i:Nat),i≤21→(∀ j,j<i→(formAt j).verb≠v)→forms.find? (fun f=>f.verb == v)=(forms.drop i).find? (fun f=>f.verb == v)
 | 0,_,_=>rfl
 | i+1,h,hn=>by
  rw [find_at i (by omega) (fun j hj=>hn j (by omega))]
  have hk:i<forms.length:=by rw [show forms.length=21 from rfl];omega
  have hd:forms.drop i=formAt i :: forms.drop (i+1):=by
   rw [List.drop_eq_getElem_cons hk]
   congr 1
   unfold formAt
   rw [List.getD_eq_getElem?_getD,List.getElem?_eq_getElem hk];rfl
  rw [hd,List.find?_cons,beq_eq_false_iff_ne.2 (hn i (by omega))]
theorem find_hit {v:Bs} {i:Nat} (h:i<21) (hn:∀ j,j<i→(formAt j).verb≠v) (hv:(formAt i).verb=v):forms.find? (fun f=>f.verb == v)=some (formAt i):=by
 rw [find_at i (by omega) hn]
 have hk:i<forms.length:=by rw [show forms.length=21 from rfl];omega
 have hd:forms.drop i=formAt i :: forms.drop (i+1):=by
  rw [List.drop_eq_getElem_cons hk]
  congr 1
  unfold formAt
  rw [List.getD_eq_getElem?_getD,List.getElem?_eq_getElem hk];rfl
 rw [hd,List.find?_cons,beq_iff_eq.2 hv]
theorem find_none {v:Bs} (hn:∀ j,j<21→(formAt j).verb≠v):forms.find? (fun f=>f.verb == v)=none:=by
 rw [find_at 21 (Nat.le_refl _) hn]
 rw [List.drop_eq_nil_of_le (by rw [show forms.length=21 from rfl];exact Nat.le_refl _)];rfl
structure LnI (w W:World) (g F E:Nat) (L ws:List Bs) (f:Sp.Form) (k o:Nat) (ev:Ev):Prop where
 lw:LnW w W g F L
 evt:EBlk W E ev (.slice none 0 0)
 row:RowO W g o (ws.drop k)
 ltG:g<E
 ltF:F<E
 fil:fills (ev0 f.kind) f.kinds ws=fills ev (f.kinds.drop k) (ws.drop k)
 hist:ev.hist=[]
theorem LnI.first {w W:World} {g F o:Nat} {L ws:List Bs} {v:Bs} {f:Sp.Form} (h:LnW w W g F L) (hv:L=v :: ws) (ho:ws=[]∨o=1):LnI w (W.alloc (.cells (ecells (ev0 f.kind) (.slice none 0 0)) 33)) g F W.heap.size L ws f 0 o (ev0 f.kind):=by
 have hb:Below W.heap.size W (W.alloc (.cells (ecells (ev0 f.kind) (.slice none 0 0)) 33)):=(Below.refl _ W).alloc (Nat.le_refl _) _
 refine ⟨h.step hb,EBlk.new W _ _,fun j hj=>?_,h.ltG,h.ltF,by rw [List.drop_zero,List.drop_zero],rfl⟩
 rcases ho with rfl | rfl
 ·cases hj
 rw [hb.cell (p:=⟨g,1+j,none⟩) h.ltG]
 have:=h.row (j+1) (by rw [hv];simpa using hj)
 rw [hv,Nat.zero_add,List.getD_cons_succ,Nat.add_comm j 1] at this
 exact this
theorem LnW.stepE {w W W':World} {g F E:Nat} {L:List Bs} (h:LnW w W g F L) (hg:g<E) (hF:F<E) (b:Below E W W'):LnW w W' g F L :=
 ⟨h.below.trans (b.mono (by have:=h.ltg;omega)),h.res.below (by have:=h.ltg;omega) b,h.row.below hg b,h.shp.below hF b,h.ltg,Nat.lt_of_lt_of_le h.ltG b.size,Nat.lt_of_lt_of_le h.ltF b.size,h.ltf⟩
theorem LnI.step {w W W':World} {g F E:Nat} {L ws:List Bs} {f:Sp.Form} {k o:Nat} {ev:Ev} (h:LnI w W g F E L ws f k o ev) (b:Below W.heap.size W W'):LnI w W' g F E L ws f k o ev :=
 ⟨h.lw.step b,h.evt.below h.evt.lt b,h.row.below (Nat.lt_trans h.ltG h.evt.lt) b,h.ltG,h.ltF,h.fil,h.hist⟩
theorem EBlk.re {W:World} {b:Nat} {e:Ev} {l:List Rev} {h:Value} (k:EBlk W b { e with hist:=l } h):EBlk W b e h:=⟨k.c0,k.c1,k.c2,k.c3,k.c4,k.c5,k.c6,k.c7,k.c8,k.c9,k.c10,k.fr,k.lt⟩
theorem fieldE_hist (e:Ev) (f:Fld) (x:Bs):(fieldE e f x).hist=e.hist:=by cases f <;> simp only [fieldE]
theorem field_ok (f:Fld) (hf:f≠.many) (e:Ev) (A:Option Addr) (m c:Nat) (s:ByteArray) (w:World) (hs:s.size<2147480000):Calls Tryz.prog 90 #[evV e (.slice A m c),.int .u8 ((letB f).toNat:Int),.string s] w (RetB (.tuple #[evV (fieldE e f s.data.toList) (.slice A m c),.bool (fieldB f s.data.toList)]) w):=by
 cases f
 all_goals first
  | exact absurd rfl hf
  | exact field_user e A m c s w hs
  | exact field_text e A m c s w hs
  | exact field_note e A m c s w hs
  | exact field_title e A m c s w hs
  | exact field_to e A m c s w hs
  | exact field_base e A m c s w hs
  | exact field_num e A m c s w hs
theorem sstr_len (f:Sp.Form):(sstr f).length=f.kinds.length+if f.many then 1 else 0:=by
 unfold sstr
 rw [List.length_append,List.length_map]
 cases f.many <;> rfl
theorem sstr_at {f:Sp.Form} {j:Nat} (h:j<f.kinds.length):(sstr f).getD j 0=letB f.kinds[j]:=by
 unfold sstr
 rw [List.getD_eq_getElem?_getD,List.getElem?_append_left (by simpa using h),List.getElem?_map,List.getElem?_eq_getElem h];rfl
theorem sstr_many {f:Sp.Form} (h:f.many=true):(sstr f).getD f.kinds.length 0=104:=by
 unfold sstr
 rw [List.getD_eq_getElem?_getD,List.getElem?_append_right (by simp),List.length_map,Nat.sub_self,if_pos h];rfl
theorem letB_ne {k:Fld} (h:k≠.many):(((letB k).toNat:Int) == 104)=false:=by cases k <;> first | rfl | exact absurd rfl h
theorem index_str (l:Bs) (k:Nat) (h:k<l.length) (W:World):(Instr.index 9 (.string ⟨l.toArray⟩) (.int .i64 (k:Int))).run Tryz.prog W=.ok (.int .u8 (l.getD k 0).toNat) W:=by
 have h2:(k:Int)<(⟨l.toArray⟩:ByteArray).size:=by rw [lsize];omega
 rw [run_index_string W 9 ⟨l.toArray⟩ .i64 _ und9s,dif_pos ⟨by omega,h2⟩]
 have e:(k:Int).toNat=k:=Int.toNat_natCast k
 simp only [e]
 congr 4
 rw [List.getD_eq_getElem?_getD,List.getElem?_eq_getElem h];rfl
set_option maxRecDepth 100000 in
set_option maxHeartbeats 20000000 in
theorem line_ok (s:ByteArray) (w:World) (hs:s.size<2147480000):Calls Tryz.prog 53 #[.string s] w (RetE s.data.toList w):=by
 have hSp:=fun W=>splitR_ok s 32 W hs
 have hSh:=fun W=>shapes_ok W
 have hE0:=EBlk.new w (ev0 0) (.slice none 0 0)
 have hB0:Below w.heap.size w (w.alloc (.cells (ecells (ev0 0) (.slice none 0 0)) 33)):=(Below.refl _ w).alloc (Nat.le_refl _) _
 have hLl:=splitL_len 32 s.data.toList
 rw [← size_len] at hLl
 have hLj:=splitL_at 32 s.data.toList
 rw [← size_len] at hLj
 obtain ⟨v,ws,hv⟩:=splitL_cons 32 s.data.toList
 have hlin:lineS s.data.toList=(forms.find? fun f=>f.verb == v).bind fun f=>byForm f ws:=lineS_at rfl hv
 have hn:(splitL 32 s.data.toList).length=ws.length+1:=by rw [hv];rfl
 have HV:=Lib.hid hv
 have HL:=Lib.hid hlin
 clear hv hlin
 generalize splitL 32 s.data.toList=L at *
 change ∀ W,Calls _ _ #[_,.int .u8 32] _ _ at hSp
 unfold ecells ev0 at hE0 hB0
 go_enter Tryz.func53,Tryz.ntmps53
 go_upto_region 1 with fail
 generalize hW0:w.alloc _=W0 at *
 have hlt0:=hE0.lt
 clear hW0
 go_wp2_with (go_at_call 55;refine (hSp _).mono ?_)
 rintro e W1 ⟨b1,vv,rfl,hown⟩
 rw [hn] at hown
 obtain ⟨g,cap,rfl,hgb⟩:=owns_succ hown
 rw [← hn] at hown
 have hrow:RowO W1 g 0 L:=fun j hj=>by
  rw [Nat.zero_add]
  exact (hown.cellAt j (by omega)).trans (strs_at hj)
 have hgl:=(hown.lt g rfl).2
 have hcap:=owns_cap hown
 have hE1:=hE0.below hlt0 b1
 have hB1:=hB0.trans (b1.mono hB0.size)
 clear hE0 hB0 b1 hown
 go_wp2_with (go_at_call 51;refine (hSh _).mono ?_)
 rintro e W2 ⟨rfl,b2,hsr,hfl⟩
 have hW:LnW w W2 g W1.heap.size L:=⟨hB1.trans (b2.mono hB1.size),hE1.below hE1.lt b2,hrow.below hgl b2,hsr,by omega,Nat.lt_of_lt_of_le hgl b2.size,hfl,hE1.lt⟩
 clear hE1 hB1 b2 hsr hfl hrow hSh hSp
 generalize W1.heap.size=F at *
 go_wp2
 go_loopw [6] (fun i wr=>∃ k:Nat,k≤21∧i=.int .i64 k∧LnW w wr g F L∧∀ j,j<k→(formAt j).verb≠v) (fun i _=>21 - (intOf i).toNat)
 case atStart=>exact ⟨0,Nat.zero_le _,rfl,hW,fun j h=>by omega⟩
 case round =>
  obtain ⟨k,hk,rfl,hR,hno⟩:=hrel
  by_cases hlt:k<21
  ·have c0:=hR.row 0 (by omega)
   rw [HV.out,List.getD_cons_zero,Nat.zero_add] at c0
   have c1:=hR.shp.verb k hlt
   by_cases hm:(formAt k).verb=v
   ·have HR:=Lib.hid (show lineS s.data.toList=byForm (formAt k) ws by rw [HL.out,find_hit hlt hno hm];rfl)
    have c2:=hR.shp.kind k hlt
    have c3:=hR.shp.words k hlt
    rw [hm] at c1
    clear hno hm
    go_wp2_with fail
    go_quiet (fail)
    go_upto_region 7 with fail
    have hR2:=hR.drewN nq
    clear c0 c1 c2 c3 hR
    generalize wr.drewN nq=Wx at *
    have c2:=hR2.shp.kind k hlt
    go_upto_region 8 with fail
    obtain ⟨o,ho1,ho2⟩:∃ o,(ws=[]∨o=1)∧(if cap=1 then some (⟨g,0,none⟩:Addr) else some ⟨g,1,none⟩)=some ⟨g,o,none⟩:=by
     by_cases h1:cap=1
     ·exact ⟨0,.inl (List.eq_nil_of_length_eq_zero (by omega)),by rw [if_pos h1]⟩
     ·exact ⟨1,.inr rfl,by rw [if_neg h1]⟩
    have hI0:=LnI.first (f:=formAt k) hR2 HV.out ho1
    unfold ecells ev0 at hI0
    simp only at hI0
    generalize Wx.alloc _=Wy at *
    generalize Wx.heap.size=E at *
    clear c2 hR2
    go_upto_region 9 with fail
    have hwl:∀ j,(ws.getD j []).length<2147480000:=fun j=>by
     have:=hLj (j+1)
     rw [HV.out,List.getD_cons_succ] at this
     omega
    have hk5:=(kstrAt k hlt).2.2.2
    have hne:=(kstrAt k hlt).2.2.1
    have hwd:=fun W (h:LnW w W g F L)=>h.shp.words k hlt
    have hcm:ws.length≤cap - 1:=by omega
    have hws:ws.length≤s.size:=by omega
    clear ho1 ho2 hLj hLl hn hcap hW hgl hgb
    generalize formAt k=f at *
    have HK:=Lib.hid hne
    clear hne
    rw [show decide ((k:Int)<21)=true from decide_eq_true (by omega)]
    go_wp2
    go_loopw [8,9] (fun r p wr=>∃ (j m o c:Nat) (ev:Ev),p=.int .i64 j∧r=.slice (some ⟨g,o,none⟩) m c∧ws.length=j+m∧m≤c∧j≤f.kinds.length∧LnI w wr g F E L ws f j o ev) (fun _ p _=>10 - (intOf p).toNat)
    case atStart=>exact ⟨0,ws.length,o,cap - 1,_,rfl,rfl,by omega,hcm,Nat.zero_le _,hI0⟩
    case round =>
     obtain ⟨j,m,o,c,ev,rfl,rfl,hjm,hmc,hjk,hI⟩:=hrel
     have HJM:=Lib.hid hjm
     clear hI0 hjm
     have c3:=hwd _ hI.lw
     have hsl:=sstr_len f
     by_cases hjl:j<f.kinds.length
     ·have hix:=index_str (sstr f) j (by omega)
      rw [sstr_at hjl] at hix
      have hlt1:(j:Int)<(⟨(sstr f).toArray⟩:ByteArray).size:=by rw [lsize];omega
      have hfne:=HK.out _ (List.getElem_mem hjl)
      have hlb:=letB_ne hfne
      have hfil:=hI.fil
      rw [List.drop_eq_getElem_cons hjl] at hfil
      generalize f.kinds[j]=fld at *
      cases m with
      | zero =>
       have hwd0:ws.drop j=[]:=List.drop_of_length_le (by have:=HJM.out;omega)
       rw [hwd0] at hfil
       have hbf:byForm f ws=none:=by unfold byForm;rw [hfil];rfl
       have HZ:=Lib.hid (HR.out.trans hbf)
       have hX:=hI.lw
       clear hbf hfil hwd0 hwd hI
       generalize (⟨(sstr f).toArray⟩:ByteArray)=sf at *
       generalize ((letB fld).toNat:Int)=lb at *
       have d0:=hX.res.c0
       have d1:=hX.res.c1
       have d2:=hX.res.c2
       have d3:=hX.res.c3
       have d4:=hX.res.c4
       have d5:=hX.res.c5
       have d6:=hX.res.c6
       have d7:=hX.res.c7
       have d8:=hX.res.c8
       have d9:=hX.res.c9
       have d10:=hX.res.c10
       have f0:=hX.res.fr 0 (by decide)
       have f1:=hX.res.fr 1 (by decide)
       have f2:=hX.res.fr 2 (by decide)
       have f3:=hX.res.fr 3 (by decide)
       have f4:=hX.res.fr 4 (by decide)
       have f5:=hX.res.fr 5 (by decide)
       have f6:=hX.res.fr 6 (by decide)
       have f7:=hX.res.fr 7 (by decide)
       have f8:=hX.res.fr 8 (by decide)
       have f9:=hX.res.fr 9 (by decide)
       have f10:=hX.res.fr 10 (by decide)
       go_wp2
       have hF:=hX.res.put (ev0 0) (.slice none 0 0)
       have hB:=putE_below w _ _ (ev0 0) (.slice none 0 0) hX.below
       unfold putE at hF hB
       simp only [ev0] at hF hB
       have e0:=hF.c0
       have e1:=hF.c1
       have e2:=hF.c2
       have e3:=hF.c3
       have e4:=hF.c4
       have e5:=hF.c5
       have e6:=hF.c6
       have e7:=hF.c7
       have e8:=hF.c8
       have e9:=hF.c9
       have e10:=hF.c10
       exact bodyPost_ret (v:=.tuple #[evV (ev0 0) (.slice none 0 0),.bool false]) (by simp [results,Tryz.results53,go_sem,e0,e1,e2,e3,e4,e5,e6,e7,e8,e9,e10,evV,ecells,ev0]) rfl ⟨hB,.inl ⟨HZ.out,_,_,_,_,rfl⟩⟩
      | succ m =>
       have hdj:=drop_at ([]:Bs) (show j<ws.length by have:=HJM.out;omega)
       rw [hdj] at hfil
       have hc:=hI.row 0 (by rw [hdj];exact Nat.zero_lt_succ _)
       rw [hdj,List.getD_cons_zero,Nat.add_zero] at hc
       have hfd:=fun W=>field_ok fld hfne ev none 0 0 ⟨(ws.getD j []).toArray⟩ W (hwl j)
       change ∀ W,Calls _ _ _ _ (RetB (.tuple #[evV (fieldE ev fld (ws.getD j [])) _,.bool (fieldB fld (ws.getD j []))]) _) at hfd
       have hfw:=fillW_field ev fld (ws.getD j [])
       have hhist:=(fieldE_hist ev fld (ws.getD j [])).trans hI.hist
       have hfl2:fills (ev0 f.kind) f.kinds ws=(fillW ev fld (ws.getD j [])).bind fun x=>fills x (f.kinds.drop (j+1)) (ws.drop (j+1)):=hfil
       obtain ⟨o2,hrow2,ho2⟩:∃ o2,(∀ W,LnI w W g F E L ws f j o ev→RowO W g o2 (ws.drop (j+1)))∧(if c=1 then some (⟨g,o,none⟩:Addr) else some ⟨g,o+1,none⟩)=some ⟨g,o2,none⟩:=by
        by_cases h1:c=1
        ·exact ⟨o,fun W h i hi=>by rw [List.length_drop] at hi;have:=HJM.out;omega,by rw [if_pos h1]⟩
        ·exact ⟨o+1,fun W h i hi=>by
          have:=h.row (i+1) (by rw [hdj];simpa using hi)
          rw [hdj,List.getD_cons_succ,← Nat.add_assoc,Nat.add_right_comm] at this
          exact this,by rw [if_neg h1]⟩
       clear hfil hdj hfne
       generalize ws.getD j []=w0 at *
       generalize fieldE ev fld w0=ev2 at *
       unfold evV ecells at hfd
       have hId:=hI.step ((Below.refl wr.heap.size wr).drew)
       have hEl:=hI.evt.lt
       have hIe:=hI.evt
       have hwl2:=hwd _ hI.lw
       have q0:=hIe.c0
       have q1:=hIe.c1
       have q2:=hIe.c2
       have q3:=hIe.c3
       have q4:=hIe.c4
       have q5:=hIe.c5
       have q6:=hIe.c6
       have q7:=hIe.c7
       have q8:=hIe.c8
       have q9:=hIe.c9
       have q10:=hIe.c10
       have t0:=hIe.fr 0 (by decide)
       have t1:=hIe.fr 1 (by decide)
       have t2:=hIe.fr 2 (by decide)
       have t3:=hIe.fr 3 (by decide)
       have t4:=hIe.fr 4 (by decide)
       have t5:=hIe.fr 5 (by decide)
       have t6:=hIe.fr 6 (by decide)
       have t7:=hIe.fr 7 (by decide)
       have t8:=hIe.fr 8 (by decide)
       have t9:=hIe.fr 9 (by decide)
       have t10:=hIe.fr 10 (by decide)
       clear hI hIe hwl2
       generalize hsf:(⟨(sstr f).toArray⟩:ByteArray)=sf at *
       generalize ((letB fld).toNat:Int)=lb at *
       cases hok:fieldB fld w0 with
       | false =>
        rw [hok] at hfd hfw
        rw [if_neg (by decide)] at hfw
        have hbf:byForm f ws=none:=by unfold byForm;rw [hfl2,hfw];rfl
        have HZ:=Lib.hid (HR.out.trans hbf)
        clear hbf hfl2 hfw hok hwd hrow2 hhist
        go_upto_region 19 with fail
        clear c3 hix
        go_region_with (go_at_call 90;refine (hfd _).mono ?_;rintro e1 W5 ⟨rfl,b5⟩;have hI5:=hId.step b5;have he5:=hI5.evt;have p0:=he5.c0;have p1:=he5.c1;have p2:=he5.c2;have p3:=he5.c3;have p4:=he5.c4;have p5:=he5.c5;have p6:=he5.c6;have p7:=he5.c7;have p8:=he5.c8;have p9:=he5.c9;have p10:=he5.c10;have r0:=he5.fr 0 (by decide);have r1:=he5.fr 1 (by decide);have r2:=he5.fr 2 (by decide);have r3:=he5.fr 3 (by decide);have r4:=he5.fr 4 (by decide);have r5:=he5.fr 5 (by decide);have r6:=he5.fr 6 (by decide);have r7:=he5.fr 7 (by decide);have r8:=he5.fr 8 (by decide);have r9:=he5.fr 9 (by decide);have r10:=he5.fr 10 (by decide))
        all_goals
         have hX:LnW w (putE W5 E ev2 (.slice none 0 0)) g F L:=hI5.lw.stepE hI5.ltG hI5.ltF (putE_belowB W5 E (Nat.le_refl _) ev2 _ (Below.refl E W5))
         unfold putE at hX
         clear hI5 hId he5 hwl HK hsf p0 p1 p2 p3 p4 p5 p6 p7 p8 p9 p10 r0 r1 r2 r3 r4 r5 r6 r7 r8 r9 r10 q0 q1 q2 q3 q4 q5 q6 q7 q8 q9 q10 t0 t1 t2 t3 t4 t5 t6 t7 t8 t9 t10
         generalize (World.setCell _ _ _:World)=Wz at *
         have d0:=hX.res.c0
         have d1:=hX.res.c1
         have d2:=hX.res.c2
         have d3:=hX.res.c3
         have d4:=hX.res.c4
         have d5:=hX.res.c5
         have d6:=hX.res.c6
         have d7:=hX.res.c7
         have d8:=hX.res.c8
         have d9:=hX.res.c9
         have d10:=hX.res.c10
         have f0:=hX.res.fr 0 (by decide)
         have f1:=hX.res.fr 1 (by decide)
         have f2:=hX.res.fr 2 (by decide)
         have f3:=hX.res.fr 3 (by decide)
         have f4:=hX.res.fr 4 (by decide)
         have f5:=hX.res.fr 5 (by decide)
         have f6:=hX.res.fr 6 (by decide)
         have f7:=hX.res.fr 7 (by decide)
         have f8:=hX.res.fr 8 (by decide)
         have f9:=hX.res.fr 9 (by decide)
         have f10:=hX.res.fr 10 (by decide)
         go_wp2
         have hF:=hX.res.put (ev0 0) (.slice none 0 0)
         have hB:=putE_below w _ _ (ev0 0) (.slice none 0 0) hX.below
         unfold putE at hF hB
         simp only [ev0] at hF hB
         have e0:=hF.c0
         have e1:=hF.c1
         have e2:=hF.c2
         have e3:=hF.c3
         have e4:=hF.c4
         have e5:=hF.c5
         have e6:=hF.c6
         have e7:=hF.c7
         have e8:=hF.c8
         have e9:=hF.c9
         have e10:=hF.c10
         exact bodyPost_ret (v:=.tuple #[evV (ev0 0) (.slice none 0 0),.bool false]) (by simp [results,Tryz.results53,go_sem,e0,e1,e2,e3,e4,e5,e6,e7,e8,e9,e10,evV,ecells,ev0]) rfl ⟨hB,.inl ⟨HZ.out,_,_,_,_,rfl⟩⟩
       | true =>
        rw [hok] at hfd hfw
        rw [if_pos rfl] at hfw
        rw [hfw] at hfl2
        have HFL:=Lib.hid (show fills (ev0 f.kind) f.kinds ws=fills ev2 (f.kinds.drop (j+1)) (ws.drop (j+1)) from hfl2)
        clear hfl2 hfw hok hwd
        go_upto_region 19 with fail
        clear c3 hix
        go_region_with (go_at_call 90;refine (hfd _).mono ?_;rintro e1 W5 ⟨rfl,b5⟩;have hI5:=hId.step b5;have he5:=hI5.evt;have p0:=he5.c0;have p1:=he5.c1;have p2:=he5.c2;have p3:=he5.c3;have p4:=he5.c4;have p5:=he5.c5;have p6:=he5.c6;have p7:=he5.c7;have p8:=he5.c8;have p9:=he5.c9;have p10:=he5.c10;have r0:=he5.fr 0 (by decide);have r1:=he5.fr 1 (by decide);have r2:=he5.fr 2 (by decide);have r3:=he5.fr 3 (by decide);have r4:=he5.fr 4 (by decide);have r5:=he5.fr 5 (by decide);have r6:=he5.fr 6 (by decide);have r7:=he5.fr 7 (by decide);have r8:=he5.fr 8 (by decide);have r9:=he5.fr 9 (by decide);have r10:=he5.fr 10 (by decide))
        all_goals
         have hPB:Below E W5 (putE W5 E ev2 (.slice none 0 0)):=putE_belowB W5 E (Nat.le_refl _) ev2 _ (Below.refl E W5)
         have hI6:LnI w (putE W5 E ev2 (.slice none 0 0)) g F E L ws f (j+1) o2 ev2:=⟨hI5.lw.stepE hI5.ltG hI5.ltF hPB,(he5.put ev2 (.slice none 0 0)).re,(hrow2 W5 hI5).below hI5.ltG hPB,hI5.ltG,hI5.ltF,HFL.out,hhist⟩
         unfold putE at hI6
         clear hI5 hId he5 hwl HK hsf hPB hrow2 p0 p1 p2 p3 p4 p5 p6 p7 p8 p9 p10 r0 r1 r2 r3 r4 r5 r6 r7 r8 r9 r10 q0 q1 q2 q3 q4 q5 q6 q7 q8 q9 q10 t0 t1 t2 t3 t4 t5 t6 t7 t8 t9 t10
         generalize (World.setCell _ _ _:World)=Wz at *
         go_wp2
         go_roundw
         case rel=>exact ⟨j+1,m,o2,c - 1,ev2,by go_num,rfl,by have:=HJM.out;omega,by omega,by omega,hI6⟩
         case measure=>simp [intOf];omega
     ·have hje:j=f.kinds.length:=by omega
      have hfil:=hI.fil
      rw [List.drop_of_length_le (show f.kinds.length≤j by omega)] at hfil
      have hfil:fills (ev0 f.kind) f.kinds ws=some (ev,ws.drop j):=hfil
      have hDl:(ws.drop j).length=m:=by rw [List.length_drop];have:=HJM.out;omega
      have hDj:∀ i,((ws.drop j).getD i []).length<2147480000:=fun i=>by
       rw [List.getD_eq_getElem?_getD,List.getElem?_drop,← List.getD_eq_getElem?_getD]
       exact hwl _
      have hEl:=hI.evt.lt
      have hX:=hI.lw
      have hE:=hI.evt
      have hhi:=hI.hist
      by_cases hmany:f.many=true
      ·rw [if_pos hmany] at hsl
       have hix:=index_str (sstr f) j (by omega)
       rw [show (sstr f).getD j 0=104 by rw [hje];exact sstr_many hmany] at hix
       have hlt1:(j:Int)<(⟨(sstr f).toArray⟩:ByteArray).size:=by rw [lsize];omega
       have hRv:=revisionsR_ok g o c (ws.drop j) ⟨ev.user.toArray⟩ wr (Nat.lt_trans hI.ltG hEl) (by rw [hDl];have:=HJM.out;omega) hDj hI.row
       rw [hDl] at hRv
       change Calls _ _ _ _ (RetRv (ws.drop j) ev.user wr) at hRv
       have hbf:byForm f ws=closes true (ev,ws.drop j):=by unfold byForm;rw [hfil,hmany];rfl
       have HBF:=Lib.hid hbf
       have hgE:=hI.ltG
       have hFE:=hI.ltF
       clear hfil hbf hDj hI hwd hwl HK hmany hsl hje
       generalize ws.drop j=D at *
       generalize (⟨(sstr f).toArray⟩:ByteArray)=sf at *
       have q1':=hE.c1
       have q10':=hE.c10
       have t10':=hE.fr 10 (by decide)
       go_wp2_with (go_at_call 89;refine hRv.mono ?_)
       rintro e1 W5 ⟨b5,hres⟩
       have hX5:=hX.step b5
       have hE5:=hE.below hEl b5
       have p10:=hE5.c10
       have r10:=hE5.fr 10 (by decide)
       clear hRv q1' q10' t10' c3 hix
       rcases hres with ⟨⟨A,m',c',rfl⟩,hbad⟩ | ⟨hv,rfl,hpos,hall,hown⟩
       ·have hno:byForm f ws=none:=by
         rw [HBF.out]
         unfold closes
         rw [if_pos rfl]
         by_cases hD0:D=[]
         ·rw [if_pos hD0]
         ·rw [if_neg hD0]
          rcases hbad with h | h
          ·exact absurd h hD0
          ·rw [revs_bad _ _ _ h];rfl
        have HZ:=Lib.hid (HR.out.trans hno)
        clear hno hbad
        go_upto_region 16 with fail
        have hX6:LnW w (W5.setCell ⟨E,10,none⟩ (.slice A m' c')) g F L:=hX5.stepE hgE hFE ((Below.refl E W5).setCell (p:=⟨E,10,none⟩) (Nat.le_refl _) _)
        have hE6:=hE5.setHist (.slice A m' c')
        generalize W5.setCell ⟨E,10,none⟩ (.slice A m' c')=Wz at *
        clear hX hE hX5 hE5 p10 r10 b5
        have q0:=hE6.c0
        have q1:=hE6.c1
        have q2:=hE6.c2
        have q3:=hE6.c3
        have q4:=hE6.c4
        have q5:=hE6.c5
        have q6:=hE6.c6
        have q7:=hE6.c7
        have q8:=hE6.c8
        have q9:=hE6.c9
        have q10:=hE6.c10
        have d0:=hX6.res.c0
        have d1:=hX6.res.c1
        have d2:=hX6.res.c2
        have d3:=hX6.res.c3
        have d4:=hX6.res.c4
        have d5:=hX6.res.c5
        have d6:=hX6.res.c6
        have d7:=hX6.res.c7
        have d8:=hX6.res.c8
        have d9:=hX6.res.c9
        have d10:=hX6.res.c10
        have f0:=hX6.res.fr 0 (by decide)
        have f1:=hX6.res.fr 1 (by decide)
        have f2:=hX6.res.fr 2 (by decide)
        have f3:=hX6.res.fr 3 (by decide)
        have f4:=hX6.res.fr 4 (by decide)
        have f5:=hX6.res.fr 5 (by decide)
        have f6:=hX6.res.fr 6 (by decide)
        have f7:=hX6.res.fr 7 (by decide)
        have f8:=hX6.res.fr 8 (by decide)
        have f9:=hX6.res.fr 9 (by decide)
        have f10:=hX6.res.fr 10 (by decide)
        go_wp2
        have hF:=hX6.res.put ev (.slice A m' c')
        have hB:=putE_below w _ _ ev (.slice A m' c') hX6.below
        unfold putE at hF hB
        have e0:=hF.c0
        have e1:=hF.c1
        have e2:=hF.c2
        have e3:=hF.c3
        have e4:=hF.c4
        have e5:=hF.c5
        have e6:=hF.c6
        have e7:=hF.c7
        have e8:=hF.c8
        have e9:=hF.c9
        have e10:=hF.c10
        exact bodyPost_ret (v:=.tuple #[evV ev (.slice A m' c'),.bool false]) (by simp [results,Tryz.results53,go_sem,e0,e1,e2,e3,e4,e5,e6,e7,e8,e9,e10,evV,ecells]) rfl ⟨hB,.inl ⟨HZ.out,_,_,_,_,rfl⟩⟩
       ·obtain ⟨A,m',c',rfl⟩:=owns_slice hown
        have hyes:byForm f ws=some { ev with hist:=revsTo ev.user D D.length }:=by
         rw [HBF.out]
         unfold closes
         rw [if_pos rfl,if_neg (show ¬ D=[] by intro h;rw [h] at hpos;cases hpos),revs_ok ev.user D 0 hall]
         simp only [Nat.zero_add];rfl
        have HZ:=Lib.hid (HR.out.trans hyes)
        have hwl2:w.heap.size<wr.heap.size:=Nat.lt_trans hX.ltg (Nat.lt_trans hgE hEl)
        have ho6:=owns_mono (owns_put (owns_far (i:=10) hown hEl (.slice A m' c')) hwl2 ev (.slice A m' c')) (Nat.le_of_lt hwl2)
        have HO:=Lib.hid ho6
        clear hyes hown ho6 hall hpos
        go_upto_region 16 with fail
        have hX6:LnW w (W5.setCell ⟨E,10,none⟩ (.slice A m' c')) g F L:=hX5.stepE hgE hFE ((Below.refl E W5).setCell (p:=⟨E,10,none⟩) (Nat.le_refl _) _)
        have hE6:=hE5.setHist (.slice A m' c')
        generalize W5.setCell ⟨E,10,none⟩ (.slice A m' c')=Wz at *
        clear hX hE hX5 hE5 p10 r10 b5
        have q0:=hE6.c0
        have q1:=hE6.c1
        have q2:=hE6.c2
        have q3:=hE6.c3
        have q4:=hE6.c4
        have q5:=hE6.c5
        have q6:=hE6.c6
        have q7:=hE6.c7
        have q8:=hE6.c8
        have q9:=hE6.c9
        have q10:=hE6.c10
        have d0:=hX6.res.c0
        have d1:=hX6.res.c1
        have d2:=hX6.res.c2
        have d3:=hX6.res.c3
        have d4:=hX6.res.c4
        have d5:=hX6.res.c5
        have d6:=hX6.res.c6
        have d7:=hX6.res.c7
        have d8:=hX6.res.c8
        have d9:=hX6.res.c9
        have d10:=hX6.res.c10
        have f0:=hX6.res.fr 0 (by decide)
        have f1:=hX6.res.fr 1 (by decide)
        have f2:=hX6.res.fr 2 (by decide)
        have f3:=hX6.res.fr 3 (by decide)
        have f4:=hX6.res.fr 4 (by decide)
        have f5:=hX6.res.fr 5 (by decide)
        have f6:=hX6.res.fr 6 (by decide)
        have f7:=hX6.res.fr 7 (by decide)
        have f8:=hX6.res.fr 8 (by decide)
        have f9:=hX6.res.fr 9 (by decide)
        have f10:=hX6.res.fr 10 (by decide)
        go_wp2
        have hF:=hX6.res.put ev (.slice A m' c')
        have hB:=putE_below w _ _ ev (.slice A m' c') hX6.below
        have hO:=HO.out
        unfold putE at hF hB hO
        have e0:=hF.c0
        have e1:=hF.c1
        have e2:=hF.c2
        have e3:=hF.c3
        have e4:=hF.c4
        have e5:=hF.c5
        have e6:=hF.c6
        have e7:=hF.c7
        have e8:=hF.c8
        have e9:=hF.c9
        have e10:=hF.c10
        exact bodyPost_ret (v:=.tuple #[evV ev (.slice A m' c'),.bool true]) (by simp [results,Tryz.results53,go_sem,e0,e1,e2,e3,e4,e5,e6,e7,e8,e9,e10,evV,ecells]) rfl ⟨hB,.inr ⟨{ ev with hist:=revsTo ev.user D D.length },_,HZ.out,rfl,by rw [show (revsTo ev.user D D.length).length=D.length by simp [revsTo]];exact hO⟩⟩
      ·rw [if_neg hmany] at hsl
       have hm2:f.many=false:=by simpa using hmany
       have hbf:byForm f ws=if ws.drop j=[] then some ev else none:=by unfold byForm;rw [hfil,hm2];rfl
       have hnl:¬ (j:Int)<(⟨(sstr f).toArray⟩:ByteArray).size:=by rw [lsize];omega
       by_cases hm0:m=0
       ·subst hm0
        have HZ:=Lib.hid (show lineS s.data.toList=some ev by rw [HR.out,hbf,if_pos (List.eq_nil_of_length_eq_zero hDl)])
        have HH:=Lib.hid hhi
        clear hfil hbf hDj hI hwd hwl HK hmany hsl hje hDl hm2 hhi
        generalize (⟨(sstr f).toArray⟩:ByteArray)=sf at *
        have q0:=hE.c0
        have q1:=hE.c1
        have q2:=hE.c2
        have q3:=hE.c3
        have q4:=hE.c4
        have q5:=hE.c5
        have q6:=hE.c6
        have q7:=hE.c7
        have q8:=hE.c8
        have q9:=hE.c9
        have q10:=hE.c10
        have d0:=hX.res.c0
        have d1:=hX.res.c1
        have d2:=hX.res.c2
        have d3:=hX.res.c3
        have d4:=hX.res.c4
        have d5:=hX.res.c5
        have d6:=hX.res.c6
        have d7:=hX.res.c7
        have d8:=hX.res.c8
        have d9:=hX.res.c9
        have d10:=hX.res.c10
        have f0:=hX.res.fr 0 (by decide)
        have f1:=hX.res.fr 1 (by decide)
        have f2:=hX.res.fr 2 (by decide)
        have f3:=hX.res.fr 3 (by decide)
        have f4:=hX.res.fr 4 (by decide)
        have f5:=hX.res.fr 5 (by decide)
        have f6:=hX.res.fr 6 (by decide)
        have f7:=hX.res.fr 7 (by decide)
        have f8:=hX.res.fr 8 (by decide)
        have f9:=hX.res.fr 9 (by decide)
        have f10:=hX.res.fr 10 (by decide)
        go_wp2
        have hF:=hX.res.put ev (.slice none 0 0)
        have hB:=putE_below w _ _ ev (.slice none 0 0) hX.below
        unfold putE at hF hB
        have e0:=hF.c0
        have e1:=hF.c1
        have e2:=hF.c2
        have e3:=hF.c3
        have e4:=hF.c4
        have e5:=hF.c5
        have e6:=hF.c6
        have e7:=hF.c7
        have e8:=hF.c8
        have e9:=hF.c9
        have e10:=hF.c10
        exact bodyPost_ret (v:=.tuple #[evV ev (.slice none 0 0),.bool true]) (by simp [results,Tryz.results53,go_sem,e0,e1,e2,e3,e4,e5,e6,e7,e8,e9,e10,evV,ecells]) rfl ⟨hB,.inr ⟨ev,_,HZ.out,rfl,by rw [HH.out];exact ⟨rfl,.inl ⟨rfl,rfl⟩⟩⟩⟩
       ·have HZ:=Lib.hid (show lineS s.data.toList=none by rw [HR.out,hbf,if_neg (fun h=>hm0 (by rw [← hDl,h];rfl))])
        have hmz:((m:Int) == 0)=false:=by rw [beq_eq_false_iff_ne];omega
        clear hfil hbf hDj hI hwd hwl HK hmany hsl hje hDl hm2 hhi
        generalize (⟨(sstr f).toArray⟩:ByteArray)=sf at *
        have q0:=hE.c0
        have q1:=hE.c1
        have q2:=hE.c2
        have q3:=hE.c3
        have q4:=hE.c4
        have q5:=hE.c5
        have q6:=hE.c6
        have q7:=hE.c7
        have q8:=hE.c8
        have q9:=hE.c9
        have q10:=hE.c10
        have d0:=hX.res.c0
        have d1:=hX.res.c1
        have d2:=hX.res.c2
        have d3:=hX.res.c3
        have d4:=hX.res.c4
        have d5:=hX.res.c5
        have d6:=hX.res.c6
        have d7:=hX.res.c7
        have d8:=hX.res.c8
        have d9:=hX.res.c9
        have d10:=hX.res.c10
        have f0:=hX.res.fr 0 (by decide)
        have f1:=hX.res.fr 1 (by decide)
        have f2:=hX.res.fr 2 (by decide)
        have f3:=hX.res.fr 3 (by decide)
        have f4:=hX.res.fr 4 (by decide)
        have f5:=hX.res.fr 5 (by decide)
        have f6:=hX.res.fr 6 (by decide)
        have f7:=hX.res.fr 7 (by decide)
        have f8:=hX.res.fr 8 (by decide)
        have f9:=hX.res.fr 9 (by decide)
        have f10:=hX.res.fr 10 (by decide)
        go_wp2
        have hF:=hX.res.put ev (.slice none 0 0)
        have hB:=putE_below w _ _ ev (.slice none 0 0) hX.below
        unfold putE at hF hB
        have e0:=hF.c0
        have e1:=hF.c1
        have e2:=hF.c2
        have e3:=hF.c3
        have e4:=hF.c4
        have e5:=hF.c5
        have e6:=hF.c6
        have e7:=hF.c7
        have e8:=hF.c8
        have e9:=hF.c9
        have e10:=hF.c10
        exact bodyPost_ret (v:=.tuple #[evV ev (.slice none 0 0),.bool false]) (by simp [results,Tryz.results53,go_sem,e0,e1,e2,e3,e4,e5,e6,e7,e8,e9,e10,evV,ecells]) rfl ⟨hB,.inl ⟨HZ.out,_,_,_,_,rfl⟩⟩
   ·have hno2:∀ j,j<k+1→(formAt j).verb≠v:=fun j hj=>by
     by_cases e:j=k
     ·rw [e];exact hm
     ·exact hno j (by omega)
    have HN:=Lib.hid hno2
    have hm2:((formAt k).verb == v)=false:=by simpa using hm
    clear hno2 hno hm
    generalize (formAt k).verb=fv at *
    go_wp2_with fail
    go_quiet (fail)
    go_wp2
    go_roundw
    case rel=>exact ⟨k+1,by omega,by go_num,hR.drewN _,HN.out⟩
    case measure=>simp [intOf];omega
  ·obtain rfl:k=21:=by omega
   have HZ:=Lib.hid (show lineS s.data.toList=none by rw [HL.out,find_none hno];rfl)
   clear hno
   have d0:=hR.res.c0
   have d1:=hR.res.c1
   have d2:=hR.res.c2
   have d3:=hR.res.c3
   have d4:=hR.res.c4
   have d5:=hR.res.c5
   have d6:=hR.res.c6
   have d7:=hR.res.c7
   have d8:=hR.res.c8
   have d9:=hR.res.c9
   have d10:=hR.res.c10
   have f0:=hR.res.fr 0 (by decide)
   have f1:=hR.res.fr 1 (by decide)
   have f2:=hR.res.fr 2 (by decide)
   have f3:=hR.res.fr 3 (by decide)
   have f4:=hR.res.fr 4 (by decide)
   have f5:=hR.res.fr 5 (by decide)
   have f6:=hR.res.fr 6 (by decide)
   have f7:=hR.res.fr 7 (by decide)
   have f8:=hR.res.fr 8 (by decide)
   have f9:=hR.res.fr 9 (by decide)
   have f10:=hR.res.fr 10 (by decide)
   go_wp2
   have hF:=hR.res.put (ev0 0) (.slice none 0 0)
   have hB:=putE_below w _ _ (ev0 0) (.slice none 0 0) hR.below
   unfold putE at hF hB
   simp only [ev0] at hF hB
   have e0:=hF.c0
   have e1:=hF.c1
   have e2:=hF.c2
   have e3:=hF.c3
   have e4:=hF.c4
   have e5:=hF.c5
   have e6:=hF.c6
   have e7:=hF.c7
   have e8:=hF.c8
   have e9:=hF.c9
   have e10:=hF.c10
   exact bodyPost_ret (v:=.tuple #[evV (ev0 0) (.slice none 0 0),.bool false]) (by simp [results,Tryz.results53,go_sem,e0,e1,e2,e3,e4,e5,e6,e7,e8,e9,e10,evV,ecells,ev0]) rfl ⟨hB,.inl ⟨HZ.out,_,_,_,_,rfl⟩⟩
end Go.Proofs
