/- A part of the proof: Rv -/
import Derived.Test.YtimfnccfnefajaaGreatDoorVRg
import Derived.Test.YtimfnccfnefajaaGreatDoorVWb
import Derived.Test.YtimfnccfnefajaaGreatDoorVWk
set_option linter.unusedSimpArgs false
set_option linter.unusedVariables false
namespace Go.Proofs
open Go.RowKit Go.Sp
def wdsB (f:Sp.Form) (e:Ev):List Bs:=f.kinds.map (wordF e) ++ (if f.many then [jn e.hist] else [])
def tAt (f:Sp.Form) (e:Ev) (k:Nat):Bs:=f.verb ++ ((wdsB f e).take k).flatMap (32 :: ·)
theorem wdsB_len (f:Sp.Form) (e:Ev):(wdsB f e).length=(sstr f).length:=by
 unfold wdsB
 rw [sstr_len,List.length_append,List.length_map]
 cases f.many <;> rfl
theorem tAt_zero (f:Sp.Form) (e:Ev):tAt f e 0=f.verb:=by unfold tAt;rw [List.take_zero];simp
theorem tAt_succ {f:Sp.Form} {e:Ev} {k:Nat} (h:k<(sstr f).length):tAt f e (k+1)=tAt f e k ++ [32] ++ (wdsB f e).getD k []:=by
 have hk:k<(wdsB f e).length:=by rw [wdsB_len];exact h
 unfold tAt
 rw [List.take_succ_eq_append_getElem hk,List.flatMap_append,List.getD_eq_getElem?_getD,List.getElem?_eq_getElem hk]
 simp
theorem tAt_end (f:Sp.Form) (e:Ev):tAt f e (sstr f).length=textB f e:=by
 unfold tAt textB
 rw [List.take_of_length_le (by rw [wdsB_len];exact Nat.le_refl _)]
 unfold wdsB
 rw [List.flatMap_append,List.append_assoc,List.flatMap_map]
 congr 2
 cases f.many with
 | false=>rfl
 | true=>simp [jn]
theorem tAt_le (f:Sp.Form) (e:Ev) (k:Nat) (h:k≤(sstr f).length):(tAt f e k).length≤(textB f e).length:=by
 rw [← tAt_end]
 unfold tAt
 have e1:((wdsB f e).take (sstr f).length)=(wdsB f e).take k ++ ((wdsB f e).take (sstr f).length).drop k:=by
  have:=(List.take_append_drop k ((wdsB f e).take (sstr f).length)).symm
  rwa [List.take_take,Nat.min_eq_left h] at this
 rw [e1,List.flatMap_append,List.length_append,List.length_append,List.length_append]
 omega
theorem word_le (f:Sp.Form) (e:Ev) (k:Nat) (h:k<(sstr f).length):((wdsB f e).getD k []).length≤(textB f e).length:=by
 have:=tAt_le f e (k+1) h
 rw [tAt_succ h,List.length_append] at this
 omega
structure EvB (e:Ev):Prop where
 user:e.user.length<4294960000
 note:e.note.length<4294960000
 text:e.text.length<4294960000
 tN:e.tN.length<4294960000
 oN:e.oN.length<4294960000
theorem written_fld (f:Fld) (hf:f≠.many) (e:Ev) (h:Value) (w:World) (he:EvB e) (hn:NumOk e):Calls Tryz.prog 52 #[evV e h,.int .u8 ((letB f).toNat:Int)] w (RetB (.string ⟨(wordF e f).toArray⟩) w):=by
 cases f
 all_goals first
  | exact absurd rfl hf
  | exact written_user e h w he.user
  | exact written_text e h w he.text
  | exact written_note e h w he.note
  | exact written_title e h w he.tN
  | exact written_to e h w he.oN
  | exact written_base e h w hn.1.1 hn.1.2
  | exact written_num e h w hn.2.1 hn.2.2
theorem written_at (f:Sp.Form) (hf:∀ k∈f.kinds,k≠.many) (e:Ev) (A:Option Addr) (c k:Nat) (w:World) (hk:k<(sstr f).length) (he:EvB e) (hn:NumOk e) (hmx:e.hist.length≤4294967296) (hht:∀ i,(rv e.hist i).text.length<4294960000) (hA:HRd w A e.hist) (hT:(textB f e).length<2147480000):Calls Tryz.prog 52 #[evV e (.slice A e.hist.length c),.int .u8 (((sstr f).getD k 0).toNat:Int)] w (RetB (.string ⟨((wdsB f e).getD k []).toArray⟩) w):=by
 have hw:=word_le f e k hk
 by_cases h:k<f.kinds.length
 ·rw [sstr_at h]
  have:(wdsB f e).getD k []=wordF e f.kinds[k]:=by
   unfold wdsB
   rw [List.getD_eq_getElem?_getD,List.getElem?_append_left (by simpa using h),List.getElem?_map,List.getElem?_eq_getElem h];rfl
  rw [this]
  exact written_fld _ (hf _ (List.getElem_mem h)) e _ w he hn
 ·rw [sstr_len] at hk
  have hm:f.many=true:=by
   cases hq:f.many with
   | false=>rw [hq] at hk;simp at hk;omega
   | true=>rfl
  rw [hm,if_pos rfl] at hk
  obtain rfl:k=f.kinds.length:=by omega
  rw [sstr_many hm]
  have:(wdsB f e).getD f.kinds.length []=jn e.hist:=by
   unfold wdsB
   rw [List.getD_eq_getElem?_getD,List.getElem?_append_right (by simp),List.length_map,Nat.sub_self,if_pos hm];rfl
  rw [this] at hw ⊢
  exact written_many e A c w hmx hht hA (by omega)
theorem form_index {f:Sp.Form} (hf:f∈forms):∃ j,j<21∧formAt j=f:=by
 obtain ⟨j,hj⟩:=List.getElem?_of_mem hf
 refine ⟨j,(List.getElem?_eq_some_iff.1 hj).1,?_⟩
 unfold formAt
 rw [List.getD_eq_getElem?_getD,hj];rfl
structure FmW (w W:World) (F:Nat) (e:Ev) (h:Value):Prop where
 below:Below w.heap.size w W
 evt:EBlk W w.heap.size e h
 shp:SRow W F
 ltF:F<W.heap.size
theorem FmW.step {w W W':World} {F:Nat} {e:Ev} {h:Value} (k:FmW w W F e h) (b:Below W.heap.size W W'):FmW w W' F e h :=
 ⟨k.below.trans (b.mono k.below.size),k.evt.below k.evt.lt b,k.shp.below k.ltF b,Nat.lt_of_lt_of_le k.ltF b.size⟩
theorem FmW.drewN {w W:World} {F:Nat} {e:Ev} {h:Value} (k:FmW w W F e h) (n:Nat):FmW w (W.drewN n) F e h:=k.step (below_drewN (Below.refl _ _) n)
set_option maxRecDepth 100000 in
set_option maxHeartbeats 20000000 in
theorem FormatR_ok (e:Ev) (A:Option Addr) (c:Nat) (w:World) (he:EvB e) (hmx:e.hist.length≤4294967296) (hht:∀ i,(rv e.hist i).text.length<4294960000) (hA:HRd w A e.hist) (hT:∀ f∈forms,(textB f e).length<2147480000):Calls Tryz.prog 27 #[evV e (.slice A e.hist.length c)] w (RetM e w):=by
 obtain ⟨hE,hb⟩:=EBlk.one w e (.slice A e.hist.length c)
 have hSh:=fun W=>shapes_ok W
 have hN0:¬ NumOk e→formatS e=none:=fun hn=>by
  rw [formatS_B]
  cases hf:forms.find? fun f=>f.kind == e.kind with
  | none=>rfl
  | some f=>exact if_neg (fun h=>hn (lineS_num h.1))
 by_cases hn:NumOk e
 case neg =>
  have HZ:=Lib.hid (hN0 hn)
  have hn2:e.n < -999999999∨999999999<e.n∨e.base < -999999999∨999999999<e.base:=by
   unfold NumOk at hn
   omega
  unfold evV
  unfold ecells at *
  go_enter Tryz.func27,Tryz.ntmps27
  go_upto_region 1 with fail
  generalize w.alloc _=W at *
  have c8:=hE.c8
  have c9:=hE.c9
  clear hN0 hn hSh hE hA hT
  by_cases p1:e.n < -999999999
  ·go_wp2
   exact bodyPost_ret (v:=.tuple #[.string ⟨#[]⟩,.int .i64 7]) (by simp [results,Tryz.results27,go_sem]) rfl ⟨hb,.inr ⟨HZ.out,rfl⟩⟩
  by_cases p2:999999999<e.n
  ·go_wp2
   exact bodyPost_ret (v:=.tuple #[.string ⟨#[]⟩,.int .i64 7]) (by simp [results,Tryz.results27,go_sem]) rfl ⟨hb,.inr ⟨HZ.out,rfl⟩⟩
  by_cases p3:e.base < -999999999
  ·go_wp2
   exact bodyPost_ret (v:=.tuple #[.string ⟨#[]⟩,.int .i64 7]) (by simp [results,Tryz.results27,go_sem]) rfl ⟨hb,.inr ⟨HZ.out,rfl⟩⟩
  ·have p4:999999999<e.base:=by omega
   clear hn2
   go_wp2
   exact bodyPost_ret (v:=.tuple #[.string ⟨#[]⟩,.int .i64 7]) (by simp [results,Tryz.results27,go_sem]) rfl ⟨hb,.inr ⟨HZ.out,rfl⟩⟩
 case pos =>
  obtain ⟨⟨q1,q2⟩,q3,q4⟩:=id hn
  have p1:¬ e.n < -999999999:=by omega
  have p2:¬ 999999999<e.n:=by omega
  have p3:¬ e.base < -999999999:=by omega
  have p4:¬ 999999999<e.base:=by omega
  have HN:=Lib.hid hn
  clear q1 q2 q3 q4 hN0 hn
  have hWr:=fun (f:Sp.Form) hf k W hk hAW hTf=>written_at f hf e A c k W hk he HN.out hmx hht hAW hTf
  generalize hh:Value.slice A e.hist.length c=h at *
  have HH:=Lib.hid hh
  clear hh
  unfold evV
  unfold ecells at *
  go_enter Tryz.func27,Tryz.ntmps27
  go_upto_region 1 with fail
  generalize hW0:w.alloc _=W at *
  clear hW0
  have c8:=hE.c8
  have c9:=hE.c9
  go_wp2_with (go_at_call 51;refine (hSh _).mono ?_)
  rintro e1 W2 ⟨rfl,b2,hsr,hfl⟩
  have hW:FmW w W2 W.heap.size e h:=⟨hb.trans (b2.mono hb.size),hE.below hE.lt b2,hsr,hfl⟩
  clear hE hb b2 hsr hfl hSh c8 c9 p1 p2 p3 p4
  generalize W.heap.size=F at *
  go_wp2
  go_loopw [5] (fun i wr=>∃ k:Nat,k≤21∧i=.int .i64 k∧FmW w wr F e h∧∀ j,j<k→(formAt j).kind=e.kind→formatS e=none) (fun i _=>21 - (intOf i).toNat)
  case atStart=>exact ⟨0,Nat.zero_le _,rfl,hW,fun j h=>by omega⟩
  case round =>
   obtain ⟨k,hk,rfl,hR,hno⟩:=hrel
   by_cases hlt:k<21
   ·have c0:=hR.shp.kind k hlt
    have c1:=hR.evt.c0
    by_cases hm:(formAt k).kind=e.kind
    ·have hm2:((formAt k).kind == e.kind)=true:=by simpa using hm
     have hfk:=find_kind (formAt k) (formAt_mem hlt) e.kind hm.symm
     have hfs:formatS e=if lineS (textB (formAt k) e)=some e∧(textB (formAt k) e).length≤32768 then some (textB (formAt k) e) else none:=by rw [formatS_B,hfk];rfl
     have HF:=Lib.hid hfs
     have hTk:=hT _ (formAt_mem hlt)
     have hne:=(kstrAt k hlt).2.2.1
     have hk5:=(kstrAt k hlt).2.2.2
     have hs6:(sstr (formAt k)).length≤6:=by
      rw [sstr_len]
      split <;> omega
     have HNE:=Lib.hid hne
     have hwd:=fun W (q:FmW w W F e h)=>q.shp.words k hlt
     have hvb:=fun W (q:FmW w W F e h)=>q.shp.verb k hlt
     rw [hm] at c0
     clear hfs hfk hno hne hm2 hm hT
     go_wp2_with fail
     go_quiet (fail)
     go_upto_region 8 with fail
     have hR2:=hR.drewN nq
     clear c0 c1 hR
     generalize wr.drewN nq=Wx at *
     have c1:=hvb _ hR2
     generalize formAt k=f at *
     have h0:=tAt_zero f e
     have HT0:=Lib.hid h0
     clear h0 hvb
     rw [show decide ((k:Int)<21)=true from decide_eq_true (by omega)]
     go_wp2
     go_loopw [6,7] (fun v p wr=>∃ j:Nat,j≤(sstr f).length∧p=.int .i64 j∧v=.string ⟨(tAt f e j).toArray⟩∧FmW w wr F e h) (fun _ p _=>(sstr f).length - (intOf p).toNat)
     case atStart=>exact ⟨0,Nat.zero_le _,rfl,by rw [HT0.out],hR2⟩
     case round =>
      obtain ⟨j,hj,rfl,rfl,hI⟩:=hrel
      clear c1 hR2
      have c3:=hwd _ hI
      by_cases hjl:j<(sstr f).length
      ·have hix:=index_str (sstr f) j hjl
       have hlt1:(j:Int)<(⟨(sstr f).toArray⟩:ByteArray).size:=by rw [lsize];omega
       have hW1:=fun W (q:FmW w W F e h)=>hWr f HNE.out j W hjl (hA.below q.below) hTk
       have hl0:=tAt_le f e j hj
       have hl1:=word_le f e j hjl
       have hs:=tAt_succ (e:=e) hjl
       have hId:=hI.step ((Below.refl wr.heap.size wr).drew)
       have hIe:=hI.evt
       have q0:=hIe.c0
       have q1:=hIe.c1
       have q2:=hIe.c2
       have q3:=hIe.c3
       have q4:=hIe.c4
       have q5:=hIe.c5
       have q6:=hIe.c6
       have q7:=hIe.c7
       have q8:=hIe.c8
       have q9:=hIe.c9
       have q10:=hIe.c10
       clear hI hIe hwd hWr
       generalize hjt:tAt f e j=tj at *
       generalize hjs:tAt f e (j+1)=tj1 at *
       generalize (wdsB f e).getD j []=wd at *
       have hz1:(⟨tj.toArray⟩:ByteArray).size≤2147480000:=by rw [lsize];omega
       have hz2:(⟨wd.toArray⟩:ByteArray).size≤2147480000:=by rw [lsize];omega
       have hc:(⟨tj.toArray⟩:ByteArray) ++ ⟨#[32]⟩ ++ ⟨wd.toArray⟩=⟨tj1.toArray⟩:=by
        rw [show (⟨tj.toArray⟩:ByteArray) ++ ⟨#[32]⟩=⟨(tj ++ [32]).toArray⟩ from cat_eq tj [32],cat_eq,hs]
       have ha1:=fun W=>run_string_add_sum (P:=Tryz.prog) W ⟨tj.toArray⟩ ⟨#[32]⟩ (by show _+1≤_;omega)
       have ha2:=fun W=>run_string_add_sum (P:=Tryz.prog) W (⟨tj.toArray⟩ ++ ⟨#[32]⟩) ⟨wd.toArray⟩ (by rw [ByteArray.size_append];show (⟨tj.toArray⟩:ByteArray).size+1+_≤_;omega)
       have HC:=Lib.hid hc
       have HJS:=Lib.hid hjs
       clear hc hs hl0 hl1 hjt hjs
       generalize (⟨tj.toArray⟩:ByteArray)=J at *
       generalize (⟨wd.toArray⟩:ByteArray)=D at *
       generalize hsf:(⟨(sstr f).toArray⟩:ByteArray)=sf at *
       generalize (((sstr f).getD j 0).toNat:Int)=lb at *
       have hW2:=fun W q=>hW1 W q
       unfold evV ecells at hW2
       clear hW1
       go_wp2_with fail
       go_region_with (go_at_call 52;refine (hW2 _ hId).mono ?_;rintro e1 W5 ⟨rfl,b5⟩;have hI5:=hId.step b5)
       all_goals
        go_wp2
        go_roundw
        case rel=>exact ⟨j+1,by omega,by go_num,by rw [HC.out,HJS.out],hI5⟩
        case measure=>simp [intOf];omega
      ·have hte:tAt f e j=textB f e:=by rw [show j=(sstr f).length by omega,tAt_end]
       have hLn:=fun W=>line_ok ⟨(textB f e).toArray⟩ W hTk
       change ∀ W,Calls _ _ _ _ (RetE (textB f e) W) at hLn
       have hnl:¬ (j:Int)<(⟨(sstr f).toArray⟩:ByteArray).size:=by rw [lsize];omega
       have hww:=hI.evt.lt
       have hEq:=fun (x:Ev) (B:Option Addr) (d:Nat) W (hx:x.hist.length≤9223372036854775807) hB hAW=>sameR_ok x e B A d c W hx hB hAW
       rw [hte]
       clear hte hwd hWr
       generalize textB f e=t at *
       generalize (⟨(sstr f).toArray⟩:ByteArray)=sf at *
       go_wp2_with (go_at_call 53;refine (hLn _).mono ?_)
       rintro e1 W5 ⟨b5,hres⟩
       have hI5:=hI.step b5
       clear hLn b5 hI c3
       rcases hres with ⟨hno,x,A2,m2,c2,rfl⟩ | ⟨x,h2,hso,rfl,ho5⟩
       ·have HZ:=Lib.hid (show formatS e=none by rw [HF.out,if_neg (fun q=>by rw [hno] at q;cases q.1)])
        have hI6:=hI5.step ((Below.refl W5.heap.size W5).alloc (Nat.le_refl _) (.cells (ecells x (.slice A2 m2 c2)) 33))
        clear hno hEq hI5
        unfold ecells at hI6
        unfold evV ecells
        go_wp2
        generalize W5.alloc _=W6 at *
        go_roundw
        case rel=>exact ⟨k+1,by omega,by go_num,hI6,fun _ _ _=>HZ.out⟩
        case measure=>simp [intOf];omega
       ·have hxl:=owns_max ho5
        obtain ⟨B,m,d,rfl⟩:=owns_slice ho5
        obtain ⟨rfl,hB⟩:=owns_rd ho5
        obtain ⟨hX,hbX⟩:=EBlk.one W5 x (.slice B x.hist.length d)
        have hI6:=hI5.step hbX
        have hlt6:=hX.lt
        have hE6:=hEq x B d (W5.alloc (.cells (ecells x (.slice B x.hist.length d)) 33)) hxl (hB.below hbX) (hA.below hI6.below)
        have hd10:(W5.alloc (.cells (ecells x (.slice B x.hist.length d)) 33)).cell? ⟨w.heap.size,10,none⟩=some (.slice A e.hist.length c):=by rw [HH.out];exact hI6.evt.c10
        have hres:formatS e=if x=e∧t.length≤32768 then some t else none:=by rw [HF.out,hso];simp only [Option.some.injEq]
        have HZ:=Lib.hid hres
        clear hEq hB ho5 hI5 hbX hso hres
        unfold evV at hE6 ⊢
        unfold ecells at *
        go_upto_region 14 with fail
        generalize W5.alloc _=W6 at *
        have d0:=hI6.evt.c0
        have d1:=hI6.evt.c1
        have d2:=hI6.evt.c2
        have d3:=hI6.evt.c3
        have d4:=hI6.evt.c4
        have d5:=hI6.evt.c5
        have d6:=hI6.evt.c6
        have d7:=hI6.evt.c7
        have d8:=hI6.evt.c8
        have d9:=hI6.evt.c9
        have x0:=hX.c0
        have x1:=hX.c1
        have x2:=hX.c2
        have x3:=hX.c3
        have x4:=hX.c4
        have x5:=hX.c5
        have x6:=hX.c6
        have x7:=hX.c7
        have x8:=hX.c8
        have x9:=hX.c9
        have x10:=hX.c10
        clear hX
        by_cases hxe:x=e
        ·rw [decide_eq_true hxe] at hE6
         by_cases hlen:t.length≤32768
         ·have HY:=Lib.hid (show formatS e=some t by rw [HZ.out,if_pos ⟨hxe,hlen⟩])
          have hb6:=hI6.below
          clear hxe HZ hI6
          go_wp2_with (go_at_call 54;refine hE6.mono ?_)
          rintro e1 W7 ⟨rfl,b7⟩
          have hb7:=hb6.trans (b7.mono hb6.size)
          clear hE6 b7 hb6
          go_wp2
          exact bodyPost_ret (v:=.tuple #[.string ⟨t.toArray⟩,.int .i64 0]) (by simp [results,Tryz.results27,go_sem]) rfl ⟨hb7,.inl ⟨t,HY.out,rfl⟩⟩
         ·have HY:=Lib.hid (show formatS e=none by rw [HZ.out,if_neg (fun q=>hlen q.2)])
          have hlen2:(32768:Int)<t.length:=by omega
          clear hxe HZ
          go_wp2_with (go_at_call 54;refine hE6.mono ?_)
          rintro e1 W7 ⟨rfl,b7⟩
          have hI7:=hI6.step b7
          clear hE6 b7 hI6 d0 d1 d2 d3 d4 d5 d6 d7 d8 d9 hd10
          go_wp2
          go_roundw
          case rel=>exact ⟨k+1,by omega,by go_num,hI7,fun _ _ _=>HY.out⟩
          case measure=>simp [intOf];omega
        ·rw [decide_eq_false hxe] at hE6
         have HY:=Lib.hid (show formatS e=none by rw [HZ.out,if_neg (fun q=>hxe q.1)])
         clear hxe HZ
         go_wp2_with (go_at_call 54;refine hE6.mono ?_)
         rintro e1 W7 ⟨rfl,b7⟩
         have hI7:=hI6.step b7
         clear hE6 b7 hI6 d0 d1 d2 d3 d4 d5 d6 d7 d8 d9 hd10
         go_wp2
         go_roundw
         case rel=>exact ⟨k+1,by omega,by go_num,hI7,fun _ _ _=>HY.out⟩
         case measure=>simp [intOf];omega
    ·have hno2:∀ j,j<k+1→(formAt j).kind=e.kind→formatS e=none:=fun j hj hq=>by
      by_cases ej:j=k
      ·rw [ej] at hq;exact absurd hq hm
      ·exact hno j (by omega) hq
     have HN2:=Lib.hid hno2
     have hm2:((formAt k).kind == e.kind)=false:=by simpa using hm
     clear hno2 hno hm
     generalize (formAt k).kind=fv at *
     go_wp2_with fail
     go_quiet (fail)
     go_wp2
     go_roundw
     case rel=>exact ⟨k+1,by omega,by go_num,hR.drewN _,HN2.out⟩
     case measure=>simp [intOf];omega
   ·obtain rfl:k=21:=by omega
    have HZ:=Lib.hid (show formatS e=none by
     by_cases hx:∃ j,j<21∧(formAt j).kind=e.kind
     ·obtain ⟨j,h1,h2⟩:=hx
      exact hno j h1 h2
     ·rw [formatS_B]
      have:forms.find? (fun f=>f.kind == e.kind)=none:=by
       rw [List.find?_eq_none]
       intro f hf h2
       obtain ⟨j,hj,hfj⟩:=form_index hf
       exact hx ⟨j,hj,by rw [hfj];exact beq_iff_eq.1 h2⟩
      rw [this];rfl)
    have hb:=hR.below
    clear hno hR
    go_wp2
    exact bodyPost_ret (v:=.tuple #[.string ⟨#[]⟩,.int .i64 7]) (by simp [results,Tryz.results27,go_sem]) rfl ⟨hb,.inr ⟨HZ.out,rfl⟩⟩
end Go.Proofs
