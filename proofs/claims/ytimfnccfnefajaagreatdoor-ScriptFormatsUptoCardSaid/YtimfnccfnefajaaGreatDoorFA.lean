/- A part of the proof: Wo, Wy, Wz, Xa, Xb, Xc, Xd, Mc, SpZ, Mf, Mg, Mh, Mi, Mj -/
import Derived.Test.YtimfnccfnefajaaGreatDoorVWd
import Derived.Test.YtimfnccfnefajaaGreatDoorVWf
import Derived.Test.YtimfnccfnefajaaGreatDoorVWi
import Derived.Test.YtimfnccfnefajaaGreatDoorVWj
import Derived.Test.YtimfnccfnefajaaGreatDoorVWk
import Derived.Test.YtimfnccfnefajaaGreatDoorVMb
import Derived.Laws.OwnMore
import Derived.Test.YtimfnccfnefajaaGreatDoorVWb
import Derived.Lib.ItoaLen
import Derived.Test.YtimfnccfnefajaaGreatDoorVMa
import Derived.Test.YtimfnccfnefajaaGreatDoorVRh
import Derived.Test.YtimfnccfnefajaaGreatDoorVRg
import Derived.Test.YtimfnccfnefajaaGreatDoorVRf
import Derived.Test.YtimfnccfnefajaaGreatDoorVRe
import Derived.Test.YtimfnccfnefajaaGreatDoorVRd
import Derived.Test.YtimfnccfnefajaaGreatDoorVRa
import Derived.Test.YtimfnccfnefajaaGreatDoorVWh
import Derived.Test.YtimfnccfnefajaaGreatDoorVWg
import Derived.Test.YtimfnccfnefajaaGreatDoorVWe
import Derived.Test.YtimfnccfnefajaaGreatDoorVWc
import Derived.Test.YtimfnccfnefajaaGreatDoorVWa
import Derived.Test.YtimfnccfnefajaaGreatDoorVRc
import Derived.Test.YtimfnccfnefajaaGreatDoorVRb
import Derived.Test.YtimfnccfnefajaaGreatDoorVWl
import Derived.Test.YtimfnccfnefajaaGreatDoorVWn
import Derived.Test.YtimfnccfnefajaaGreatDoorVWm
import Derived.BigQuiet
import Derived.ChangeArms
import Derived.ChangeSlices
import Derived.DataReads
set_option linter.unusedSimpArgs false
set_option linter.unusedVariables false
namespace Go.Proofs
open Go.RowKit Go.Sp
set_option maxRecDepth 100000 in
set_option maxHeartbeats 4000000 in
theorem writeTitle_ok (sp:Int) (n:ByteArray) (w:World) (hs:n.size<4294967281) (hg:Gl w):Calls Tryz.prog 57 #[.agg #[.int .i64 sp,.string n]] w (RetB (.string ⟨(wr (fmt sp n.data.toList)).toArray⟩) w):=by
 have hb0:Below w.heap.size w (w.alloc (.cells #[.int .i64 sp,.string n] 30)):=(Below.refl _ w).alloc (Nat.le_refl _) _
 have hz:(w.alloc (.cells #[.int .i64 sp,.string n] 30)).heap.size=w.heap.size+1:=by simp
 have hl:=fmt_len sp n.data.toList
 rw [← size_len] at hl
 have hF:=tformat_ok sp n _ hs (hg.below hb0)
 have hW:=fun W=>write_ok ⟨(fmt sp n.data.toList).toArray⟩ W (by show (fmt sp n.data.toList).length≤_;omega)
 have HZ:=Lib.hid hz;clear hz
 go_enter Tryz.func57,Tryz.ntmps57
 go_wp2_with (go_at_call 91;refine hF.mono ?_)
 rintro e W1 ⟨rfl,b1⟩
 go_wp2_with (go_at_call 39;refine (hW _).mono ?_)
 rintro e W2 ⟨rfl,b2⟩
 go_wp2
 go_ret
 have hB1:Below w.heap.size w W1:=hb0.trans (b1.mono (by rw [HZ.out];omega))
 exact ⟨rfl,hB1.trans (b2.mono hB1.size)⟩
end Go.Proofs
namespace Go.Proofs
open Go.RowKit Go.Sp
set_option maxRecDepth 100000 in
set_option maxHeartbeats 4000000 in
theorem equal_revs (A B:Option Addr) (c d:Nat) (l m:List Rev) (w:World) (hmx:l.length≤9223372036854775807) (hA:HRd w A l) (hB:HRd w B m):Calls Tryz.prog 67 #[.slice A l.length c,.slice B m.length d] w (RetB (.bool (decide (l=m))) w):=by
 by_cases hlen:l.length=m.length
 ·have hne:∀ k,k<l.length→rv l k≠rv m k→decide (l=m)=false:=fun k _ h=>by
   rw [decide_eq_false_iff_not];rintro rfl;exact h rfl
  have heq:(∀ i,i<l.length→rv l i=rv m i)→decide (l=m)=true:=fun h=>by
   rw [decide_eq_true_iff];exact rev_ext hlen h
  generalize decide (l=m)=r at *
  have HNE:=Lib.hid hne
  have HEQ:=Lib.hid heq
  clear hne heq
  go_enter Tryz.func67,Tryz.ntmps67
  generalize hn:l.length=n at *
  generalize hn2:m.length=n2 at *
  subst hlen
  have HN:=Lib.hid hn
  have HN2:=Lib.hid hn2
  clear hn hn2
  go_wp2
  go_loopw [13] (fun i wr=>∃ (k:Nat),k≤n∧i=.int .i64 k∧Below w.heap.size w wr∧∀ i,i<k→rv l i=rv m i) (fun i _=>n - (intOf i).toNat)
  case atStart=>exact ⟨0,Nat.zero_le _,rfl,Below.refl _ _,fun i hi=>by omega⟩
  case round =>
   obtain ⟨k,hk,rfl,hW,hx⟩:=hrel
   by_cases hkn:k<n
   ·obtain ⟨g,o,rfl,hg,hra⟩:=hA k (by rw [HN.out];exact hkn)
    obtain ⟨g',o',rfl,hg',hrb⟩:=hB k (by rw [HN2.out];exact hkn)
    have hra:=hra.keep (hW.block g hg)
    have hrb:=hrb.keep (hW.block g' hg')
    have hbad:=fun h=>HNE.out k hkn h
    have hgood:rv l k=rv m k→∀ i,i<k+1→rv l i=rv m i:=fun h i hi=>by
     by_cases hik:i<k
     ·exact hx i hik
     ·rw [show i=k from by omega];exact h
    have HB:=Lib.hid hbad
    have HG:=Lib.hid hgood
    clear hbad hgood hx hA hB
    generalize rv l k=ra at *
    generalize rv m k=rb at *
    obtain ⟨a0,a1,a2,a3,a4,a5⟩:=hra
    obtain ⟨b0,b1,b2,b3,b4,b5⟩:=hrb
    rcases rev_cases ra rb with rfl | ⟨hne,hcs⟩
    ·have HG2:=Lib.hid (HG.out rfl)
     clear HG HB
     go_wp2
     go_region
     go_wp2
     go_roundw
     case rel=>exact ⟨k+1,by omega,by go_num,hW.drew,HG2.out⟩
     case measure=>simp [intOf];omega
    ·have HR:=Lib.hid (HB.out hne)
     clear HG HB hne
     rcases hcs with q1 | ⟨q1,q2⟩ | ⟨q1,q2,q3⟩ | ⟨q1,q2,q3,q4⟩ | ⟨q1,q2,q3,q4,q5⟩ | ⟨q1,q2,q3,q4,q5,q6⟩
     all_goals
      go_wp2
      go_region
      go_wp2
      go_ret
      exact ⟨by rw [HR.out];rfl,hW.drew⟩
   ·have hkn2:k=n:=by omega
    subst hkn2
    have HR:=Lib.hid (HEQ.out hx)
    clear hx hA hB
    go_wp2
    go_ret
    exact ⟨by rw [HR.out];rfl,hW⟩
 ·have hr:decide (l=m)=false:=by rw [decide_eq_false_iff_not];rintro rfl;exact hlen rfl
  rw [hr]
  go_enter Tryz.func67,Tryz.ntmps67
  generalize l.length=n at *
  generalize m.length=n2 at *
  have hn:¬ (n:Int)=n2:=by omega
  clear hr hA hB hmx
  go_wp2
  go_ret
  exact ⟨rfl,Below.refl _ _⟩
end Go.Proofs
namespace Go.Proofs
open Go.RowKit Go.Sp
set_option maxRecDepth 100000 in
set_option maxHeartbeats 4000000 in
theorem event_equal (a b:Ev) (A B:Option Addr) (c d:Nat) (w:World) (hmx:a.hist.length≤9223372036854775807) (hA:HRd w A a.hist) (hB:HRd w B b.hist):Calls Tryz.prog 42 #[evV a (.slice A a.hist.length c),evV b (.slice B b.hist.length d)] w (RetB (.bool (decide (a=b))) w):=by
 obtain ⟨h1,h2,hb⟩:=EBlk.two w a b (.slice A a.hist.length c) (.slice B b.hist.length d)
 have hE:=equal_revs A B c d a.hist b.hist _ hmx (hA.below hb) (hB.below hb)
 unfold evV
 unfold ecells at *
 go_enter Tryz.func42,Tryz.ntmps42
 go_upto_region 1 with fail
 generalize (w.alloc _).alloc _=W at *
 clear hA hB hmx
 have oa0:=h1.c0
 have oa1:=h1.c1
 have oa2:=h1.c2
 have oa3:=h1.c3
 have oa4:=h1.c4
 have oa5:=h1.c5
 have oa6:=h1.c6
 have oa7:=h1.c7
 have oa8:=h1.c8
 have oa9:=h1.c9
 have oa10:=h1.c10
 have ob0:=h2.c0
 have ob1:=h2.c1
 have ob2:=h2.c2
 have ob3:=h2.c3
 have ob4:=h2.c4
 have ob5:=h2.c5
 have ob6:=h2.c6
 have ob7:=h2.c7
 have ob8:=h2.c8
 have ob9:=h2.c9
 have ob10:=h2.c10
 have hp:=h1.lt
 have hq:=h2.lt
 clear h1 h2
 generalize hP:w.heap.size=p at *
 have HP:=Lib.hid hP
 clear hP
 go_wp2_with (go_at_call 67;refine hE.mono ?_)
 rintro e W1 ⟨rfl,b1'⟩
 have a0:=(b1'.cell (p:=⟨p,0,none⟩) (by exact hp)).trans oa0
 have a1:=(b1'.cell (p:=⟨p,1,none⟩) (by exact hp)).trans oa1
 have a2:=(b1'.cell (p:=⟨p,2,none⟩) (by exact hp)).trans oa2
 have a3:=(b1'.cell (p:=⟨p,3,none⟩) (by exact hp)).trans oa3
 have a4:=(b1'.cell (p:=⟨p,4,none⟩) (by exact hp)).trans oa4
 have a5:=(b1'.cell (p:=⟨p,5,none⟩) (by exact hp)).trans oa5
 have a6:=(b1'.cell (p:=⟨p,6,none⟩) (by exact hp)).trans oa6
 have a7:=(b1'.cell (p:=⟨p,7,none⟩) (by exact hp)).trans oa7
 have a8:=(b1'.cell (p:=⟨p,8,none⟩) (by exact hp)).trans oa8
 have a9:=(b1'.cell (p:=⟨p,9,none⟩) (by exact hp)).trans oa9
 have a10:=(b1'.cell (p:=⟨p,10,none⟩) (by exact hp)).trans oa10
 have b0:=(b1'.cell (p:=⟨p+1,0,none⟩) (by exact hq)).trans ob0
 have b1:=(b1'.cell (p:=⟨p+1,1,none⟩) (by exact hq)).trans ob1
 have b2:=(b1'.cell (p:=⟨p+1,2,none⟩) (by exact hq)).trans ob2
 have b3:=(b1'.cell (p:=⟨p+1,3,none⟩) (by exact hq)).trans ob3
 have b4:=(b1'.cell (p:=⟨p+1,4,none⟩) (by exact hq)).trans ob4
 have b5:=(b1'.cell (p:=⟨p+1,5,none⟩) (by exact hq)).trans ob5
 have b6:=(b1'.cell (p:=⟨p+1,6,none⟩) (by exact hq)).trans ob6
 have b7:=(b1'.cell (p:=⟨p+1,7,none⟩) (by exact hq)).trans ob7
 have b8:=(b1'.cell (p:=⟨p+1,8,none⟩) (by exact hq)).trans ob8
 have b9:=(b1'.cell (p:=⟨p+1,9,none⟩) (by exact hq)).trans ob9
 have b10:=(b1'.cell (p:=⟨p+1,10,none⟩) (by exact hq)).trans ob10
 have hb2:=hb.trans (b1'.mono (Nat.le_of_lt hp))
 clear hE b1' hb oa0 ob0 oa1 ob1 oa2 ob2 oa3 ob3 oa4 ob4 oa5 ob5 oa6 ob6 oa7 ob7 oa8 ob8 oa9 ob9 oa10 ob10
 by_cases hh:a.hist=b.hist
 ·rw [decide_eq_true hh]
  rcases ev_cases a b with rfl | ⟨hne,hcs⟩
  ·have HD:=Lib.hid (show decide (a=a)=true by simp)
   clear hh
   go_wp2
   go_ret
   exact ⟨by rw [HD.out];rfl,by rw [HP.out];exact hb2⟩
  ·have HD:=Lib.hid (decide_eq_false hne)
   clear hne
   rcases hcs with q1 | ⟨q1,q2⟩ | ⟨q1,q2,q3⟩ | ⟨q1,q2,q3,q4⟩ | ⟨q1,q2,q3,q4,q5⟩ | ⟨q1,q2,q3,q4,q5,q6⟩ | ⟨q1,q2,q3,q4,q5,q6,q7⟩ | ⟨q1,q2,q3,q4,q5,q6,q7,q8⟩ | ⟨q1,q2,q3,q4,q5,q6,q7,q8,q9⟩ | ⟨q1,q2,q3,q4,q5,q6,q7,q8,q9,q10⟩ | ⟨q1,q2,q3,q4,q5,q6,q7,q8,q9,q10,q11⟩
   all_goals first
    | exact absurd hh (by assumption)
    | (clear hh
       go_wp2
       go_ret
       exact ⟨by rw [HD.out];first | rfl | exact congrArg (fun x=>Ending.returned (Value.bool x)) (beq_eq_false_iff_ne.2 (by assumption)),by rw [HP.out];exact hb2⟩)
 ·have HD:=Lib.hid (show decide (a=b)=false from decide_eq_false (fun h=>hh (by rw [h])))
  rw [decide_eq_false hh]
  clear hh
  go_wp2
  go_ret
  exact ⟨by rw [HD.out];rfl,by rw [HP.out];exact hb2⟩
end Go.Proofs
namespace Go.Proofs
open Go.RowKit Go.Sp
theorem writeL (s:Bs) (w:World) (hs:s.length<4294960000):Calls Tryz.prog 39 #[.string ⟨s.toArray⟩] w (RetB (.string ⟨(wr s).toArray⟩) w):=write_ok ⟨s.toArray⟩ w (by show s.length≤_;omega)
theorem writeTL (sp:Int) (n:Bs) (w:World) (hs:n.length<4294960000) (hg:GlN w):Calls Tryz.prog 57 #[.agg #[.int .i64 sp,.string ⟨n.toArray⟩]] w (RetB (.string ⟨(wr (fmt sp n)).toArray⟩) w):=writeTitle_ok sp ⟨n.toArray⟩ w (by show n.length<_;omega) hg.toGl
set_option maxRecDepth 100000 in
set_option maxHeartbeats 4000000 in
theorem put_user (e:Ev) (h:Value) (w:World) (he:EvFit e) (hg:GlN w):Calls Tryz.prog 38 #[evV e h,.int .i32 117] w (RetB (.string ⟨(wordF e .user).toArray⟩) w):=by
 obtain ⟨h1,hb⟩:=EBlk.one w e h
 have hg1:=hg.below hb
 unfold evV wordF
 unfold ecells at *
 go_enter Tryz.func38,Tryz.ntmps38
 go_upto_region 1 with fail
 generalize w.alloc _=W at *
 have c1:=h1.c1
 have hlt:=h1.lt
 have hR:=writeL e.user W he.user
 clear h1 hg1 hg he
 go_wp2_with (go_at_call 39;refine hR.mono ?_)
 rintro e W1 ⟨rfl,b1⟩
 have hb1:=hb.trans (b1.mono (Nat.le_of_lt hlt))
 clear hR b1 hb
 go_wp2
 go_ret
 exact ⟨rfl,hb1⟩
set_option maxRecDepth 100000 in
set_option maxHeartbeats 4000000 in
theorem put_text (e:Ev) (h:Value) (w:World) (he:EvFit e) (hg:GlN w):Calls Tryz.prog 38 #[evV e h,.int .i32 120] w (RetB (.string ⟨(wordF e .text).toArray⟩) w):=by
 obtain ⟨h1,hb⟩:=EBlk.one w e h
 have hg1:=hg.below hb
 unfold evV wordF
 unfold ecells at *
 go_enter Tryz.func38,Tryz.ntmps38
 go_upto_region 1 with fail
 generalize w.alloc _=W at *
 have c7:=h1.c7
 have hlt:=h1.lt
 have hR:=writeL e.text W he.text
 clear h1 hg1 hg he
 go_wp2_with (go_at_call 39;refine hR.mono ?_)
 rintro e W1 ⟨rfl,b1⟩
 have hb1:=hb.trans (b1.mono (Nat.le_of_lt hlt))
 clear hR b1 hb
 go_wp2
 go_ret
 exact ⟨rfl,hb1⟩
set_option maxRecDepth 100000 in
set_option maxHeartbeats 4000000 in
theorem put_note (e:Ev) (h:Value) (w:World) (he:EvFit e) (hg:GlN w):Calls Tryz.prog 38 #[evV e h,.int .i32 110] w (RetB (.string ⟨(wordF e .note).toArray⟩) w):=by
 obtain ⟨h1,hb⟩:=EBlk.one w e h
 have hg1:=hg.below hb
 unfold evV wordF
 unfold ecells at *
 go_enter Tryz.func38,Tryz.ntmps38
 go_upto_region 1 with fail
 generalize w.alloc _=W at *
 have c2:=h1.c2
 have hlt:=h1.lt
 have hR:=writeL e.note W he.note
 clear h1 hg1 hg he
 go_wp2_with (go_at_call 39;refine hR.mono ?_)
 rintro e W1 ⟨rfl,b1⟩
 have hb1:=hb.trans (b1.mono (Nat.le_of_lt hlt))
 clear hR b1 hb
 go_wp2
 go_ret
 exact ⟨rfl,hb1⟩
set_option maxRecDepth 100000 in
set_option maxHeartbeats 4000000 in
theorem put_title (e:Ev) (h:Value) (w:World) (he:EvFit e) (hg:GlN w):Calls Tryz.prog 38 #[evV e h,.int .i32 116] w (RetB (.string ⟨(wordF e .title).toArray⟩) w):=by
 obtain ⟨h1,hb⟩:=EBlk.one w e h
 have hg1:=hg.below hb
 unfold evV wordF
 unfold ecells at *
 go_enter Tryz.func38,Tryz.ntmps38
 go_upto_region 1 with fail
 generalize w.alloc _=W at *
 have c3:=h1.c3
 have c4:=h1.c4
 have hlt:=h1.lt
 have hR:=writeTL e.tSp e.tN W he.tN hg1
 clear h1 hg1 hg he
 go_wp2_with (go_at_call 57;refine hR.mono ?_)
 rintro e W1 ⟨rfl,b1⟩
 have hb1:=hb.trans (b1.mono (Nat.le_of_lt hlt))
 clear hR b1 hb
 go_wp2
 go_ret
 exact ⟨rfl,hb1⟩
set_option maxRecDepth 100000 in
set_option maxHeartbeats 4000000 in
theorem put_to (e:Ev) (h:Value) (w:World) (he:EvFit e) (hg:GlN w):Calls Tryz.prog 38 #[evV e h,.int .i32 111] w (RetB (.string ⟨(wordF e .«to»).toArray⟩) w):=by
 obtain ⟨h1,hb⟩:=EBlk.one w e h
 have hg1:=hg.below hb
 unfold evV wordF
 unfold ecells at *
 go_enter Tryz.func38,Tryz.ntmps38
 go_upto_region 1 with fail
 generalize w.alloc _=W at *
 have c5:=h1.c5
 have c6:=h1.c6
 have hlt:=h1.lt
 have hR:=writeTL e.oSp e.oN W he.oN hg1
 clear h1 hg1 hg he
 go_wp2_with (go_at_call 57;refine hR.mono ?_)
 rintro e W1 ⟨rfl,b1⟩
 have hb1:=hb.trans (b1.mono (Nat.le_of_lt hlt))
 clear hR b1 hb
 go_wp2
 go_ret
 exact ⟨rfl,hb1⟩
set_option maxRecDepth 100000 in
set_option maxHeartbeats 4000000 in
theorem put_base (e:Ev) (h:Value) (w:World) (he:EvFit e) (hg:GlN w):Calls Tryz.prog 38 #[evV e h,.int .i32 98] w (RetB (.string ⟨(wordF e .base).toArray⟩) w):=by
 obtain ⟨h1,hb⟩:=EBlk.one w e h
 have hg1:=hg.below hb
 unfold evV wordF
 unfold ecells at *
 go_enter Tryz.func38,Tryz.ntmps38
 go_upto_region 1 with fail
 generalize w.alloc _=W at *
 have c8:=h1.c8
 have hlt:=h1.lt
 have hR:=itoaL e.base W he.b0 he.b1 hg1
 clear h1 hg1 hg he
 go_wp2_with (go_at_call 58;refine hR.mono ?_)
 rintro e W1 ⟨rfl,b1⟩
 have hb1:=hb.trans (b1.mono (Nat.le_of_lt hlt))
 clear hR b1 hb
 go_wp2
 go_ret
 exact ⟨rfl,hb1⟩
set_option maxRecDepth 100000 in
set_option maxHeartbeats 4000000 in
theorem put_num (e:Ev) (h:Value) (w:World) (he:EvFit e) (hg:GlN w):Calls Tryz.prog 38 #[evV e h,.int .i32 78] w (RetB (.string ⟨(wordF e .num).toArray⟩) w):=by
 obtain ⟨h1,hb⟩:=EBlk.one w e h
 have hg1:=hg.below hb
 unfold evV wordF
 unfold ecells at *
 go_enter Tryz.func38,Tryz.ntmps38
 go_upto_region 1 with fail
 generalize w.alloc _=W at *
 have c9:=h1.c9
 have hlt:=h1.lt
 have hR:=itoaL e.n W he.n0 he.n1 hg1
 clear h1 hg1 hg he
 go_wp2_with (go_at_call 58;refine hR.mono ?_)
 rintro e W1 ⟨rfl,b1⟩
 have hb1:=hb.trans (b1.mono (Nat.le_of_lt hlt))
 clear hR b1 hb
 go_wp2
 go_ret
 exact ⟨rfl,hb1⟩
theorem put_ok (f:Fld) (hf:f≠.many) (e:Ev) (h:Value) (w:World) (he:EvFit e) (hg:GlN w):Calls Tryz.prog 38 #[evV e h,.int .i32 (runeF f)] w (RetB (.string ⟨(wordF e f).toArray⟩) w):=by
 cases f
 case many=>exact absurd rfl hf
 case user=>exact put_user e h w he hg
 case text=>exact put_text e h w he hg
 case note=>exact put_note e h w he hg
 case title=>exact put_title e h w he hg
 case «to»=>exact put_to e h w he hg
 case base=>exact put_base e h w he hg
 case num=>exact put_num e h w he hg
end Go.Proofs
namespace Go.Proofs
open Go.RowKit Go.Sp
set_option maxRecDepth 100000 in
set_option maxHeartbeats 4000000 in
theorem pred_kind (a b:Bs) (m:Int) (E:Nat) (k:Int) (w:World) (h1:w.cell? ⟨E,0,none⟩=some (.int .i64 k)) (h2:E<w.heap.size):Calls Tryz.prog 37 #[.agg #[.string ⟨a.toArray⟩,.string ⟨b.toArray⟩,.int .i64 m],.pointer (some ⟨E,0,none⟩)] w (RetB (.bool (m == k)) w):=by
 go_enter Tryz.func37,Tryz.ntmps37
 go_upto_region 1 with fail
 have hb:=(Below.refl w.heap.size w).alloc (Nat.le_refl _) (.cells #[.string ⟨a.toArray⟩,.string ⟨b.toArray⟩,.int .i64 m] 79)
 have c0:(w.alloc (.cells #[.string ⟨a.toArray⟩,.string ⟨b.toArray⟩,.int .i64 m] 79)).cell? ⟨w.heap.size,2,none⟩=some (.int .i64 m):=by simp [World.cell?,World.alloc,-World.alloc_eq]
 have c1:=(hb.cell (p:=⟨E,0,none⟩) h2).trans h1
 generalize w.alloc (.cells #[.string ⟨a.toArray⟩,.string ⟨b.toArray⟩,.int .i64 m] 79)=W at *
 clear h1 h2
 go_wp2
 go_ret
 exact ⟨by simp,hb⟩
def idxK (v:Int):Nat→Nat→Int
 | 0,_ => -1
 | m+1,k=>if (formAt k).kind=v then (k:Int) else idxK v m (k+1)
theorem idxK_succ (v:Int) (m k:Nat):idxK v (m+1) k=if (formAt k).kind=v then (k:Int) else idxK v m (k+1):=rfl
theorem enter37:∀ args w,(callFunc 37 args).run Tryz.prog w=.ok (.enter 37 args) w:=enters_of Tryz.func37 (by kernel_rfl) rfl
structure KidRel (w:World) (B E:Nat) (v:Int) (k:Nat) (r:Int) (wr:World):Prop where
 below:Below w.heap.size w wr
 row:FRow wr B
 eq:r=idxK v (21 - k) k
set_option maxRecDepth 100000 in
set_option maxHeartbeats 4000000 in
theorem index_kind (B E:Nat) (v:Int) (w:World) (hB:B<w.heap.size) (h:FRow w B) (hv:w.cell? ⟨E,0,none⟩=some (.int .i64 v)) (hE:E<w.heap.size):Calls Tryz.prog 36 #[.slice (some ⟨B,0,none⟩) 21 21,.func (.func 37) #[] #[.pointer (some ⟨E,0,none⟩)]] w (RetB (.int .i64 (idxK v 21 0)) w):=by
 have h0:KidRel w B E v 0 (idxK v 21 0) w:=⟨Below.refl _ _,h,rfl⟩
 clear h
 have hen:=enter37
 generalize idxK v 21 0=r at *
 go_enter Tryz.func36,Tryz.ntmps36
 go_wp2
 go_loopw [8] (fun i wr=>∃ (k:Nat),k≤21∧i=.int .i64 k∧KidRel w B E v k r wr) (fun i _=>21 - (intOf i).toNat)
 case atStart=>exact ⟨0,Nat.zero_le _,rfl,h0⟩
 case round =>
  obtain ⟨k,hk,rfl,hI⟩:=hrel
  clear h0
  by_cases hlt:k<21
  ·have c0:=hI.row.verb k hlt
   have c1:=hI.row.kinds k hlt
   have c2:=hI.row.kind k hlt
   have hv1:=(hI.below.cell (p:=⟨E,0,none⟩) hE).trans hv
   have hx:=hI.below.size
   have hE1:=Nat.lt_of_lt_of_le hE hx
   have hP:=pred_kind (formAt k).verb (kstr (formAt k)) (formAt k).kind E v wr hv1 hE1
   generalize (formAt k).verb=q1 at *
   generalize kstr (formAt k)=q2 at *
   generalize hq:(formAt k).kind=q at *
   rw [show 3 * k=k * 3 from by omega] at c0 c1 c2
   go_wp2_with (go_at_call 37;refine hP.mono ?_)
   rintro e W1 ⟨rfl,b1⟩
   have hrow:=hI.row.below (Nat.lt_of_lt_of_le hB hx) b1
   have hbel:=hI.below.trans (b1.mono hx)
   have heq:=hI.eq
   clear hI c0 c1 c2 hP b1 hv1
   have hs:idxK v (21 - k) k=if q=v then (k:Int) else idxK v (21 - (k+1)) (k+1):=by
    rw [show 21 - k=(21 - (k+1))+1 from by omega,idxK_succ,hq]
   by_cases hqv:q=v
   ·have f1:(q == v)=true:=by simp [hqv]
    rw [if_pos hqv] at hs
    have HS:=Lib.hid (hs.symm.trans heq.symm)
    clear hs heq hq hqv
    go_wp2
    go_ret
    exact ⟨by rw [← HS.out];rfl,hbel⟩
   ·have f1:(q == v)=false:=by simp [hqv]
    rw [if_neg hqv] at hs
    have HS:=Lib.hid (heq.trans hs)
    clear hs heq hq hqv
    go_wp2
    go_roundw
    case rel=>exact ⟨k+1,by omega,by go_num,hbel,hrow,HS.out⟩
    case measure=>simp [intOf];omega
  ·have hkn:k=21:=by omega
   subst hkn
   go_wp2
   go_ret
   exact ⟨by rw [hI.eq];rfl,hI.below⟩
theorem idxK_go (v:Int):∀ m k,m+k=21→(idxK v m k = -1∧(forms.drop k).find? (fun f=>f.kind == v)=none)∨∃ i:Nat,i<21∧idxK v m k=(i:Int)∧(forms.drop k).find? (fun f=>f.kind == v)=some (formAt i)
 | 0,k,h=>.inl ⟨rfl,by rw [List.drop_eq_nil_of_le (by rw [show forms.length=21 from rfl];omega)];rfl⟩
 | m+1,k,h=>by
  have hk:k<forms.length:=by rw [show forms.length=21 from rfl];omega
  have hd:forms.drop k=formAt k :: forms.drop (k+1):=by
   rw [List.drop_eq_getElem_cons hk]
   congr 1
   unfold formAt
   rw [List.getD_eq_getElem?_getD,List.getElem?_eq_getElem hk];rfl
  rw [idxK_succ,hd,List.find?_cons]
  by_cases hv:(formAt k).kind=v
  ·exact .inr ⟨k,by omega,by rw [if_pos hv],by rw [beq_iff_eq.2 hv]⟩
  ·rw [if_neg hv,beq_eq_false_iff_ne.2 hv]
   exact idxK_go v m (k+1) (by omega)
end Go.Proofs
namespace Go.Proofs
open Go.RowKit Go.Sp
theorem iter_keep {W w1:World} {IT pos base n size e0:Nat} {s:ByteArray} {v:Value} {xs:List Value} {o:Obj} (hi:W.heap[IT]? = some (.stringIter s pos)) (k:W.ownsRow base e0 size v n xs) (hg:(W.alloc o).grownBy w1 v.ownBlock):w1.heap[IT]? = some (.stringIter s pos):=by
 have hlt:IT<W.heap.size:=(Array.getElem?_eq_some_iff.1 hi).1
 rw [hg.block IT (by simp;omega) ?_,Below.heap_alloc _ _ _ hlt]
 ·exact hi
 ·intro hq
  rcases k.2 with ⟨rfl,_⟩ | ⟨g,cap,cur,rfl,_,hgg,_⟩
  ·cases hq
  ·have:IT=g:=Option.some.inj hq
   subst this
   rw [hi] at hgg
   cases hgg
theorem joinOwn {w:World} {base:Nat} {v:Value} {L:List Bs} (c:UInt8) (hL:0<L.length) (h:w.ownsRow base 9 1 v L.length (strs L)) (hN:L.length≤140737488355328) (hlen:(Lib.join L [c]).length≤140737488355328) :
 Calls Tryz.prog 40 #[v,.string ⟨#[c]⟩] w (RetB (.string ⟨(Lib.join L [c]).toArray⟩) w):=by
 rcases h.2 with ⟨_,hn⟩ | ⟨g,cap,cur,rfl,_,hg,hcap,_⟩
 ·omega
 ·have hc:=h.cells (g:=g) rfl
  have hadd:∀ j,(⟨g,0,none⟩:Addr).add j=⟨g,0+j,none⟩:=fun j=>by unfold Addr.add;split <;> simp_all
  have:=Tryz.strings_Join g 0 cap (L.map fun l=>(⟨l.toArray⟩:ByteArray)) ⟨#[c]⟩ w (fun j x hx=>by
   rw [← hadd]
   refine hc j _ ?_
   unfold strs
   rw [List.getElem?_map] at hx ⊢
   cases hq:L[j]? with
   | none=>rw [hq] at hx;cases hx
   | some s=>rw [hq] at hx;obtain rfl:=Option.some.inj hx;rfl) (Array.getElem?_eq_some_iff.1 hg).1 (by simpa using hN) (by simpa using hcap) (by
    rw [List.map_map]
    have e:(List.map ((fun x:ByteArray=>x.data.toList) ∘ fun l:Bs=>(⟨l.toArray⟩:ByteArray)) L)=L:=by simp [Function.comp_def]
    rw [e];exact hlen)
  rw [List.map_map,List.length_map] at this
  have e:(List.map ((fun x:ByteArray=>x.data.toList) ∘ fun l:Bs=>(⟨l.toArray⟩:ByteArray)) L)=L:=by simp [Function.comp_def]
  rw [e] at this
  exact this.mono fun _ _ h=>h
end Go.Proofs
namespace Go.Proofs
open Go.RowKit Go.Sp
theorem wordsAt_fld {f:Sp.Form} {e:Ev} {pos:Nat} (h:pos<f.kinds.length):wordsAt f e (pos+1)=wordsAt f e pos ++ [wordF e f.kinds[pos]]:=by
 unfold wordsAt
 rw [if_neg (by omega),if_neg (by omega),List.append_nil,List.append_nil,List.take_succ_eq_append_getElem h,List.map_append]
 rfl
theorem wordsAt_many {f:Sp.Form} {e:Ev}:wordsAt f e (f.kinds.length+1)=wordsAt f e f.kinds.length ++ e.hist.map (fun r=>wr r.text):=by
 unfold wordsAt
 rw [if_pos (by omega),if_neg (by omega),List.append_nil,List.take_of_length_le (by omega),List.take_of_length_le (by omega)]
 rfl
theorem wordsAt_len (f:Sp.Form) (e:Ev) (pos:Nat):(wordsAt f e pos).length≤1+f.kinds.length+e.hist.length:=by
 unfold wordsAt
 rw [List.length_cons,List.length_append,List.length_map,List.length_take]
 split
 ·rw [List.length_map];omega
 ·rw [List.length_nil];omega
theorem kstr_len (f:Sp.Form):(kstr f).length=f.kinds.length+if f.many then 1 else 0:=by
 unfold kstr
 rw [List.length_append,List.length_map]
 split <;> rfl
theorem wordsAt_end (f:Sp.Form) (e:Ev):wordsAt f e (kstr f).length=wordsF f e:=by
 rw [kstr_len]
 unfold wordsAt wordsF
 cases f.many with
 | false=>simp
 | true=>simp [List.take_of_length_le]
theorem kstr_fld {f:Sp.Form} {pos:Nat} (h:pos<f.kinds.length):((kstr f)[pos]?)=some (runeB f.kinds[pos]):=by
 unfold kstr
 rw [List.getElem?_append_left (by simpa using h),List.getElem?_map,List.getElem?_eq_getElem h];rfl
theorem kstr_many {f:Sp.Form} (h:f.many=true):((kstr f)[f.kinds.length]?)=some 42:=by
 unfold kstr
 rw [List.getElem?_append_right (by simp),h]
 simp
theorem runeF_ne {k:Fld} (h:k≠.many):¬ runeF k=42∧(runeF k != 42)=true∧(runeF k == 42)=false:=by
 cases k <;> first | exact absurd rfl h | exact ⟨by decide,by decide,by decide⟩
set_option maxRecDepth 100000 in
set_option maxHeartbeats 4000000 in
theorem Format_ok (e:Ev) (A:Option Addr) (c:Nat) (w:World) (he:EvFit e) (hmx:e.hist.length≤4294967296) (hht:∀ i,(rv e.hist i).text.length<4294960000) (hA:HRd w A e.hist) (hT:∀ f∈forms,(textF f e).length<4294960000) (hg:GlN w):Calls Tryz.prog 19 #[evV e (.slice A e.hist.length c)] w (RetM e w):=by
 obtain ⟨i0,hi0,hz0,hz1,hz2⟩:=info_parts info9
 obtain ⟨hE,hb⟩:=EBlk.one w e (.slice A e.hist.length c)
 have hF:=fun W=>forms_ok W
 generalize hh:Value.slice A e.hist.length c=h at *
 have HH:=Lib.hid hh
 clear hh
 unfold evV
 unfold ecells at *
 go_enter Tryz.func19,Tryz.ntmps19
 go_wp2_with (go_at_call 35;refine (hF _).mono ?_)
 generalize w.alloc _=W1 at *
 rintro e1 W2 ⟨rfl,b2,hr2,hl2⟩
 have hE2:=hE.below hE.lt b2
 have hb2:=hb.trans (b2.mono (Nat.le_of_lt hE.lt))
 have hF1:w.heap.size<W1.heap.size:=hE.lt
 generalize W1.heap.size=F at *
 clear hE hb b2 hF
 have hI:=index_kind F w.heap.size e.kind W2 hl2 hr2 hE2.c0 hE2.lt
 go_wp2_with (go_at_call 36;refine hI.mono ?_)
 rintro e1 W3 ⟨rfl,b3⟩
 have hE3:=hE2.below hE2.lt b3
 have hb3:=hb2.trans (b3.mono (Nat.le_of_lt hE2.lt))
 have hr3:=hr2.below hl2 b3
 have hl3:=Nat.lt_of_lt_of_le hl2 b3.size
 clear hI hE2 hb2 hr2 hl2 b3
 rcases idxK_go e.kind 21 0 rfl with ⟨hi,hfd⟩ | ⟨i,hi21,hi,hfd⟩
 ·rw [hi]
  rw [List.drop_zero] at hfd
  have hres:formatS e=none:=by unfold formatS;rw [hfd];rfl
  have HR:=Lib.hid hres
  clear hi hfd hres
  go_wp2
  exact bodyPost_ret (v:=.tuple #[.string ⟨#[]⟩,.int .i64 7]) (by simp [results,Tryz.results19,go_sem]) rfl ⟨hb3,.inr ⟨HR.out,rfl⟩⟩
 ·rw [hi]
  rw [List.drop_zero] at hfd
  have hres:formatS e=if lineS (textF (formAt i) e)=some e∧(textF (formAt i) e).length≤32768 then some (textF (formAt i) e) else none:=by unfold formatS;rw [hfd];rfl
  have HR:=Lib.hid hres
  have c0:=hr3.verb i hi21
  have c1:=hr3.kinds i hi21
  rw [show 3 * i=i * 3 from by omega] at c0 c1
  have hm:=formAt_mem hi21
  have hka:=(kstrAt i hi21).2.2.1
  have hk5:=(kstrAt i hi21).2.2.2
  generalize formAt i=f at *
  have HM:=Lib.hid hm
  have HK:=Lib.hid hka
  clear hi hfd hres hr3 hm hka
  have h0:=FL.first f hb3 hE3
  have hlw:w.heap.size<W3.heap.size+1:=Nat.lt_succ_of_lt hE3.lt
  generalize hIT:W3.heap.size+1=IT at *
  have HIT:=Lib.hid hIT
  clear hIT
  go_wp2
  rw [HIT.out]
  go_loopw [6] (fun v wr=>∃ pos,pos≤(kstr f).length∧FL w e h f IT pos v wr) (fun _ wr=>(kstr f).length - wr.iterPos IT)
  case atStart=>exact ⟨0,Nat.zero_le _,h0⟩
  case round =>
   obtain ⟨pos,hpos,hI⟩:=hrel
   have hit0:=hI.iter
   by_cases hfl:pos<f.kinds.length
   ·have hne:=HK.out _ (List.getElem_mem hfl)
    have hwa:=wordsAt_fld (e:=e) hfl
    obtain ⟨wi,hnx,hfm,hit⟩:=hI.next hlw (kstr_fld hfl) (rune_ascii _)
    rw [rune_int] at hnx
    obtain ⟨hr1,hr2,hr3⟩:=runeF_ne hne
    have hP:=put_ok _ hne e h wi he (hg.below hfm.below)
    have hlt:pos<(kstr f).length:=by rw [kstr_len];omega
    generalize f.kinds[pos]=fld at *
    generalize wordF e fld=wd at *
    generalize runeF fld=rn at *
    have HWA:=Lib.hid hwa
    have hwl:=wordsAt_len f e pos
    clear hwa hI h0 hA hE3 hb3 c0 c1 hht hT
    unfold evV ecells at hP
    have d0:=hfm.evt.c0
    have d1:=hfm.evt.c1
    have d2:=hfm.evt.c2
    have d3:=hfm.evt.c3
    have d4:=hfm.evt.c4
    have d5:=hfm.evt.c5
    have d6:=hfm.evt.c6
    have d7:=hfm.evt.c7
    have d8:=hfm.evt.c8
    have d9:=hfm.evt.c9
    have d10:=hfm.evt.c10
    go_wp2_with (go_at_call 38;refine hP.mono ?_)
    rintro e1 W4 ⟨rfl,b4⟩
    have hfm4:=hfm.step b4
    have hit4:=(b4.block IT (Array.getElem?_eq_some_iff.1 hit).1).trans hit
    clear hP b4 hfm hit hnx d0 d1 d2 d3 d4 d5 d6 d7 d8 d9 d10
    go_wp2_with (at_builtin;refine wpList_append_own _ rfl _ _ 60 rfl (w.heap.size+1) 9 i0 _ 1 16 und60 hi0 hz0 hz1 hz2 rfl (by decide) _ (wordsAt f e pos).length (strs (wordsAt f e pos)) rfl (hfm4.row.alloc _) ⟨W4.heap.size,0,none⟩ 1 1 [.string ⟨wd.toArray⟩] rfl rfl (cell_new _ _ _) (fun u hu=>by rw [List.mem_singleton.1 hu];rfl) (by unfold maxLen;omega) (by omega) (by have:=hfm4.lt;simp;omega) ?_;intro v1 w1 hown1 hgrow1 _hnil)
    have hfm5:=hfm4.push hown1 hgrow1
    have hit5:=iter_keep hit4 hfm4.row hgrow1
    rw [← HWA.out] at hfm5
    clear hown1 hgrow1 hfm4 hit4
    go_roundw
    case rel=>exact ⟨pos+1,by omega,hit5,hfm5⟩
    case measure=>simp only [World.iterPos,hit5,hit0];omega
   ·by_cases hend:pos<(kstr f).length
    ·have hmany:f.many=true:=by
      rw [kstr_len] at hend
      cases hq:f.many with
      | true=>rfl
      | false=>rw [hq] at hend;simp at hend;omega
     have hps:pos=f.kinds.length:=by rw [kstr_len,hmany,if_pos rfl] at hend;omega
     obtain ⟨wi,hnx,hfm,hit⟩:=hI.next hlw (by rw [hps];exact kstr_many hmany) (by decide)
     rw [show ((42:UInt8).toNat:Int)=42 from rfl] at hnx
     have hwm:=wordsAt_many (f:=f) (e:=e)
     rw [← hps] at hwm
     have hwl:=wordsAt_len f e pos
     have hd10:wi.cell? ⟨w.heap.size,10,none⟩=some (.slice A e.hist.length c):=by rw [HH.out];exact hfm.evt.c10
     have hh6:∀ k (hk:k<e.hist.length),(e.hist.take (k+1)).map (fun r=>Sp.wr r.text)=(e.hist.take k).map (fun r=>Sp.wr r.text) ++ [Sp.wr (rv e.hist k).text]:=fun k hk=>by
      rw [List.take_succ_eq_append_getElem hk,List.map_append]
      unfold rv
      rw [List.getD_eq_getElem?_getD,List.getElem?_eq_getElem hk];rfl
     have hhn:(e.hist.take e.hist.length).map (fun r=>Sp.wr r.text)=e.hist.map (fun r=>Sp.wr r.text):=by rw [List.take_length]
     have hl6:∀ k,((e.hist.take k).map (fun r=>Sp.wr r.text)).length≤k:=fun k=>by rw [List.length_map,List.length_take];omega
     generalize hn:e.hist.length=n at *
     have HN:=Lib.hid hn
     have HWM:=Lib.hid hwm
     have HH6:=Lib.hid hh6
     have HHN:=Lib.hid hhn
     clear hn hwm hh6 hhn hI h0 hE3 hb3 c0 c1 hT
     go_wp2
     go_loopw [6,46] (fun v j wq=>∃ k:Nat,k≤n∧j=.int .i64 k∧wq.heap[IT]? = some (.stringIter ⟨(kstr f).toArray⟩ (pos+1))∧FmR w wq e h v (wordsAt f e pos ++ (e.hist.take k).map (fun r=>Sp.wr r.text))) (fun _ j _=>n - (intOf j).toNat)
     case atStart=>exact ⟨0,Nat.zero_le _,rfl,hit,by rw [List.take_zero,List.map_nil,List.append_nil];exact hfm⟩
     case round =>
      obtain ⟨k,hk,rfl,hitq,hfq⟩:=hrel
      by_cases hkn:k<n
      ·obtain ⟨g,o,rfl,hgl,hra⟩:=hA k (by rw [HN.out];exact hkn)
       have hra:=hra.keep (hfq.below.block g hgl)
       have hwr:=fun W=>writeL (rv e.hist k).text W (hht k)
       have hstep:wordsAt f e pos ++ (e.hist.take (k+1)).map (fun r=>Sp.wr r.text)=(wordsAt f e pos ++ (e.hist.take k).map (fun r=>Sp.wr r.text)) ++ [Sp.wr (rv e.hist k).text]:=by rw [HH6.out k hkn,List.append_assoc]
       have hlk:=hl6 k
       generalize rv e.hist k=rk at *
       generalize (e.hist.take k).map (fun r=>Sp.wr r.text)=Lk at *
       have hll:(wordsAt f e pos ++ Lk).length≤4294967310+n:=by rw [List.length_append];omega
       have HST:=Lib.hid hstep
       obtain ⟨a0,a1,a2,a3,a4,a5⟩:=hra
       clear hstep hfm hit hnx hA hg he hht hl6 hd10 hit0 hwl
       generalize wordsAt f e pos ++ Lk=L at *
       have hx:Below wr.heap.size wr (wr.alloc (.cells #[.int .i64 rk.number,.string ⟨rk.user.toArray⟩,.string ⟨rk.note.toArray⟩,.string ⟨rk.text.toArray⟩,.int .i64 rk.minute,.int .i64 rk.seq] 66)):=(Below.refl _ _).alloc (Nat.le_refl _) _
       have hfq2:=hfq.step hx
       have hit2:=(hx.block IT (Array.getElem?_eq_some_iff.1 hitq).1).trans hitq
       have hxs:=hx.size
       clear hfq hx hitq
       go_wp2_with (go_at_call 39;refine (hwr _).mono ?_)
       generalize wr.alloc (.cells #[.int .i64 rk.number,.string ⟨rk.user.toArray⟩,.string ⟨rk.note.toArray⟩,.string ⟨rk.text.toArray⟩,.int .i64 rk.minute,.int .i64 rk.seq] 66)=W4 at *
       rintro e1 W5 ⟨rfl,b5⟩
       have hfm5:=hfq2.step b5
       have hit5:=(b5.block IT (Array.getElem?_eq_some_iff.1 hit2).1).trans hit2
       clear hwr b5 hfq2 hit2
       generalize Sp.wr rk.text=wd at *
       go_wp2_with (at_builtin;refine wpList_append_own _ rfl _ _ 60 rfl (w.heap.size+1) 9 i0 _ 1 16 und60 hi0 hz0 hz1 hz2 rfl (by decide) _ L.length (strs L) rfl (hfm5.row.alloc _) ⟨W5.heap.size,0,none⟩ 1 1 [.string ⟨wd.toArray⟩] rfl rfl (cell_new _ _ _) (fun u hu=>by rw [List.mem_singleton.1 hu];rfl) (by unfold maxLen;omega) (by omega) (by have:=hfm5.lt;simp;omega) ?_;intro v1 w1 hown1 hgrow1 _hnil)
       have hfm6:=hfm5.push hown1 hgrow1
       have hit6:=iter_keep hit5 hfm5.row hgrow1
       clear hown1 hgrow1 hfm5 hit5
       go_roundw
       case rel=>exact ⟨k+1,by omega,by go_num,hit6,by rw [HST.out];exact hfm6⟩
       case measure=>simp [intOf];omega
      ·have hkn2:k=n:=by omega
       subst hkn2
       have hfq2:FmR w wr e h u6 (wordsAt f e (pos+1)):=by rw [HWM.out,← HHN.out];exact hfq
       clear hfm hit hnx hA hg he hht hl6 hd10 hwl hfq HH6 HHN HWM
       go_wp2
       go_roundw
       case rel=>exact ⟨pos+1,by omega,hitq,hfq2⟩
       case measure=>simp only [World.iterPos,hitq,hit0];omega
    ·have hnx:=fun ty=>Lib.run_next_end_at (P:=Tryz.prog) wr IT ⟨(kstr f).toArray⟩ pos ty hI.iter (by show ¬ pos<(kstr f).length;omega)
     have hwl:=wordsAt_len f e pos
     have hfm:=hI.fm
     rw [show pos=(kstr f).length from by omega,wordsAt_end] at hfm hwl
     have hT1:=hT f HM.out
     have hJ:=joinOwn 32 (show 0<(wordsF f e).length from Nat.zero_lt_succ _) hfm.row (by omega) (by show (textF f e).length≤_;omega)
     change Calls _ _ _ _ (RetB (.string ⟨(textF f e).toArray⟩) wr) at hJ
     have hPar:=fun W hgW=>parse_try ⟨(textF f e).toArray⟩ W (show (textF f e).length<4294960000 from hT1) hgW
     change ∀ W,GlN W→Calls _ _ _ W (RetE (textF f e) W) at hPar
     have hgw:=hg.below hfm.below
     have hEq:=fun (x:Ev) (B:Option Addr) (d:Nat) W (hx:x.hist.length≤9223372036854775807) hB hA=>event_equal x e B A d c W hx hB hA
     clear hI h0 hE3 hb3 c0 c1 hT he hht hg hwl
     generalize textF f e=t at *
     go_wp2_with (go_at_call 40;refine hJ.mono ?_)
     rintro e1 W4 ⟨rfl,b4⟩
     have hfm4:=hfm.step b4
     have hgw4:=hgw.below b4
     clear hJ b4 hfm hnx hit0 hgw
     go_wp2_with (go_at_call 41;refine (hPar _ hgw4).mono ?_)
     rintro e1 W5 ⟨b5,hres⟩
     have hfm5:=hfm4.step b5
     clear b5 hfm4 hgw4 hPar
     rcases hres with ⟨hno,x,A2,m,c2,rfl⟩ | ⟨x,h2,hso,rfl,ho5⟩
     ·have hres:formatS e=none:=by rw [HR.out,if_neg (fun h=>by rw [hno] at h;cases h.1)]
      have HZ:=Lib.hid hres
      have hB6:=hfm5.below.trans (((Below.refl _ W5).alloc (Nat.le_refl _) (.cells (ecells x (.slice A2 m c2)) 33)).mono hfm5.below.size)
      clear hno hres hEq hA HR
      unfold ecells at hB6
      unfold evV ecells
      go_wp2
      exact bodyPost_ret (v:=.tuple #[.string ⟨#[]⟩,.int .i64 7]) (by simp [results,Tryz.results19,go_sem]) rfl ⟨hB6,.inr ⟨HZ.out,rfl⟩⟩
     ·have hxl:=owns_max ho5
      obtain ⟨B,m,d,rfl⟩:=owns_slice ho5
      obtain ⟨rfl,hB⟩:=owns_rd ho5
      obtain ⟨hX,hbX⟩:=EBlk.one W5 x (.slice B x.hist.length d)
      have hfm6:=hfm5.step hbX
      have hlt6:=hX.lt
      have hE6:=hEq x B d (W5.alloc (.cells (ecells x (.slice B x.hist.length d)) 33)) hxl (hB.below hbX) (fun i hi=>by
       obtain ⟨g,o,h1,h2,h3⟩:=hA i hi
       exact ⟨g,o,h1,Nat.lt_of_lt_of_le h2 hfm6.below.size,h3.keep (hfm6.below.block g h2)⟩)
      have hd10:(W5.alloc (.cells (ecells x (.slice B x.hist.length d)) 33)).cell? ⟨w.heap.size,10,none⟩=some (.slice A e.hist.length c):=by rw [HH.out];exact hfm6.evt.c10
      have hres:formatS e=if x=e∧t.length≤32768 then some t else none:=by rw [HR.out,hso];simp only [Option.some.injEq]
      have HZ:=Lib.hid hres
      clear hEq hA HR hB ho5 hfm5 hbX hso hres
      unfold evV at hE6 ⊢
      unfold ecells at *
      go_upto_region 18 with fail
      generalize W5.alloc _=W6 at *
      have d0:=hfm6.evt.c0
      have d1:=hfm6.evt.c1
      have d2:=hfm6.evt.c2
      have d3:=hfm6.evt.c3
      have d4:=hfm6.evt.c4
      have d5:=hfm6.evt.c5
      have d6:=hfm6.evt.c6
      have d7:=hfm6.evt.c7
      have d8:=hfm6.evt.c8
      have d9:=hfm6.evt.c9
      have x0:=hX.c0
      have x1:=hX.c1
      have x2:=hX.c2
      have x3:=hX.c3
      have x4:=hX.c4
      have x5:=hX.c5
      have x6:=hX.c6
      have x7:=hX.c7
      have x8:=hX.c8
      have x9:=hX.c9
      have x10:=hX.c10
      have hb6:=hfm6.below
      clear hfm6 hX
      by_cases hxe:x=e
      ·rw [decide_eq_true hxe] at hE6
       by_cases hlen:t.length≤32768
       ·have HY:=Lib.hid (show formatS e=some t by rw [HZ.out,if_pos ⟨hxe,hlen⟩])
        clear hxe HZ
        go_wp2_with (go_at_call 42;refine hE6.mono ?_)
        rintro e1 W7 ⟨rfl,b7⟩
        have hb7:=hb6.trans (b7.mono hb6.size)
        clear hE6 b7 hb6
        go_wp2
        exact bodyPost_ret (v:=.tuple #[.string ⟨t.toArray⟩,.int .i64 0]) (by simp [results,Tryz.results19,go_sem]) rfl ⟨hb7,.inl ⟨t,HY.out,rfl⟩⟩
       ·have HY:=Lib.hid (show formatS e=none by rw [HZ.out,if_neg (fun h=>hlen h.2)])
        have hlen2:(32768:Int)<t.length:=by omega
        clear hxe HZ
        go_wp2_with (go_at_call 42;refine hE6.mono ?_)
        rintro e1 W7 ⟨rfl,b7⟩
        have hb7:=hb6.trans (b7.mono hb6.size)
        clear hE6 b7 hb6
        go_wp2
        exact bodyPost_ret (v:=.tuple #[.string ⟨#[]⟩,.int .i64 7]) (by simp [results,Tryz.results19,go_sem]) rfl ⟨hb7,.inr ⟨HY.out,rfl⟩⟩
      ·rw [decide_eq_false hxe] at hE6
       have HY:=Lib.hid (show formatS e=none by rw [HZ.out,if_neg (fun h=>hxe h.1)])
       clear hxe HZ
       go_wp2_with (go_at_call 42;refine hE6.mono ?_)
       rintro e1 W7 ⟨rfl,b7⟩
       have hb7:=hb6.trans (b7.mono hb6.size)
       clear hE6 b7 hb6
       go_wp2
       exact bodyPost_ret (v:=.tuple #[.string ⟨#[]⟩,.int .i64 7]) (by simp [results,Tryz.results19,go_sem]) rfl ⟨hb7,.inr ⟨HY.out,rfl⟩⟩
end Go.Proofs
namespace Go.Proofs
open Go.RowKit Go.Sp
theorem EvsOwn.one {w:World} {base:Nat} {v:Value} {ps:List (Ev×Value)} (h:EvsOwn w base v ps):∀ u∈pcells ps,u.oneCell'=true:=by
 intro u hu
 unfold pcells at hu
 obtain ⟨p,hp,hu⟩:=List.mem_flatMap.1 hu
 obtain ⟨A,m,c,hv⟩:=owns_slice (h.hist p hp)
 exact one_ecells p.1 p.2 (by rw [hv];rfl) u hu
end Go.Proofs
namespace Go.Sp
structure Big (e:Ev):Prop where
 user:e.user.length≤1048576
 note:e.note.length≤1048576
 text:e.text.length≤1048576
 tN:e.tN.length≤1048576
 oN:e.oN.length≤1048576
 base : -9223372036854775808≤e.base∧e.base≤9223372036854775807
 n : -9223372036854775808≤e.n∧e.n≤9223372036854775807
 h3:e.hist.length≤6
 ht:∀ r∈e.hist,r.text.length≤300
theorem word_big {e:Ev} (h:Big e) (f:Fld):(wordF e f).length≤2200000:=by
 have hb:=Lib.itoa_length_le e.base h.base.1 h.base.2
 have hn:=Lib.itoa_length_le e.n h.n.1 h.n.2
 have h1:=wr_length e.user
 have h2:=wr_length e.text
 have h3:=wr_length e.note
 have h4:=wr_length (fmt e.tSp e.tN)
 have h5:=wr_length (fmt e.oSp e.oN)
 have h6:=fmt_len e.tSp e.tN
 have h7:=fmt_len e.oSp e.oN
 have k1:=h.user
 have k2:=h.text
 have k3:=h.note
 have k4:=h.tN
 have k5:=h.oN
 cases f <;> simp only [wordF,List.length_nil] <;> omega
theorem text_big {f:Form} (hf:f∈forms) {e:Ev} (h:Big e):(textF f e).length≤40000000:=by
 obtain ⟨h1,h2⟩:=forms_small f hf
 have hw:∀ p∈wordsF f e,p.length≤2200000:=by
  intro p hp
  unfold wordsF at hp
  rcases List.mem_cons.1 hp with rfl | hp
  ·omega
  ·rcases List.mem_append.1 hp with hp | hp
   ·obtain ⟨k,_,rfl⟩:=List.mem_map.1 hp
    exact word_big h k
   ·split at hp
    ·obtain ⟨r,hr,rfl⟩:=List.mem_map.1 hp
     have:=wr_length r.text
     have:=h.ht r hr
     omega
    ·cases hp
 have hl:(wordsF f e).length≤12:=by
  unfold wordsF
  have:=h.h3
  rw [List.length_cons,List.length_append,List.length_map]
  split
  ·rw [List.length_map];omega
  ·simp;omega
 have hj:=join_le 32 (wordsF f e)
 have hs:=sumL_le hw
 have:2200000 * (wordsF f e).length≤2200000 * 12:=Nat.mul_le_mul_left _ hl
 unfold textF
 omega
theorem textB_big {f:Form} (hf:f∈forms) {e:Ev} (h:Big e):(textB f e).length≤40000001:=by
 have h1:=text_big hf h
 by_cases hm:f.many=false∨e.hist≠[]
 ·rw [textB_eq hm];omega
 ·have h2:f.many=true:=by
   cases hq:f.many with
   | false=>exact absurd (.inl hq) hm
   | true=>rfl
  have h3:e.hist=[]:=Decidable.byContradiction fun q=>hm (.inr q)
  rw [textB_none h2 h3,List.length_append,List.length_singleton];omega
end Go.Sp
namespace Go.Proofs
open Go.RowKit Go.Sp
theorem _root_.Go.Sp.Big.fit {e:Ev} (h:Big e):EvFit e:=⟨by have:=h.user;omega,by have:=h.note;omega,by have:=h.text;omega,by have:=h.tN;omega,by have:=h.oN;omega,h.base.1,h.base.2,h.n.1,h.n.2⟩
theorem _root_.Go.Sp.Big.evb {e:Ev} (h:Big e):EvB e:=⟨by have:=h.user;omega,by have:=h.note;omega,by have:=h.text;omega,by have:=h.tN;omega,by have:=h.oN;omega⟩
theorem _root_.Go.Sp.Big.rev {e:Ev} (h:Big e) (i:Nat):(rv e.hist i).text.length<4294960000:=by
 unfold rv
 rw [List.getD_eq_getElem?_getD]
 cases hq:e.hist[i]? with
 | none=>show (0:Nat)<_;decide
 | some r =>
  have:=h.ht r (List.mem_of_getElem? hq)
  show r.text.length<_
  omega
def RetFm (s:ByteArray) (k:Int) (w:World) (e:Ending) (w':World):Prop:=Below w.heap.size w w'∧e=.returned (.tuple #[.string s,.int .i64 k])
theorem two_formats {e:Ev} (h:Big e) (A:Option Addr) (c:Nat):∃ s k,(∀ w,GlN w→HRd w A e.hist→Calls Tryz.prog 19 #[evV e (.slice A e.hist.length c)] w (RetFm s k w))∧∀ w,HRd w A e.hist→Calls Tryz.prog 27 #[evV e (.slice A e.hist.length c)] w (RetFm s k w):=by
 have hF:=fun w g r=>Format_ok e A c w h.fit (by have:=h.h3;omega) h.rev r (fun f hf=>by have:=text_big hf h;omega) g
 have hR:=fun w r=>FormatR_ok e A c w h.evb (by have:=h.h3;omega) h.rev r (fun f hf=>by have:=textB_big hf h;omega)
 cases hq:formatS e with
 | some s =>
  refine ⟨⟨s.toArray⟩,0,fun w g r=>(hF w g r).mono fun en w' he=>⟨he.1,?_⟩,fun w r=>(hR w r).mono fun en w' he=>⟨he.1,?_⟩⟩
  ·rcases he.2 with ⟨t,h1,h2⟩ | ⟨h1,_⟩
   ·rw [hq] at h1
    obtain rfl:=Option.some.inj h1
    exact h2
   ·rw [hq] at h1;cases h1
  ·rcases he.2 with ⟨t,h1,h2⟩ | ⟨h1,_⟩
   ·rw [hq] at h1
    obtain rfl:=Option.some.inj h1
    exact h2
   ·rw [hq] at h1;cases h1
 | none =>
  refine ⟨⟨#[]⟩,7,fun w g r=>(hF w g r).mono fun en w' he=>⟨he.1,?_⟩,fun w r=>(hR w r).mono fun en w' he=>⟨he.1,?_⟩⟩
  ·rcases he.2 with ⟨t,h1,h2⟩ | ⟨_,h2⟩
   ·rw [hq] at h1;cases h1
   ·exact h2
  ·rcases he.2 with ⟨t,h1,h2⟩ | ⟨_,h2⟩
   ·rw [hq] at h1;cases h1
   ·exact h2
set_option maxRecDepth 100000 in
set_option maxHeartbeats 4000000 in
theorem formats_ok {e:Ev} (h:Big e) (A:Option Addr) (c:Nat) (w:World) (hA:HRd w A e.hist) (hg:GlN w):Calls Tryz.prog 16 #[evV e (.slice A e.hist.length c)] w (RetB (.bool true) w):=by
 obtain ⟨s,k,hF,hR⟩:=two_formats h A c
 obtain ⟨hE,hb⟩:=EBlk.one w e (.slice A e.hist.length c)
 have hA1:=hA.below hb
 have hg1:=hg.below hb
 generalize Value.slice A e.hist.length c=v at *
 unfold evV at *
 unfold ecells at *
 go_enter Tryz.func16,Tryz.ntmps16
 go_upto_region 1 with fail
 generalize w.alloc _=W1 at *
 obtain ⟨c0,c1,c2,c3,c4,c5,c6,c7,c8,c9,c10,hfr,hlt⟩:=id hE
 have hF1:=hF W1 hg1 hA1
 clear hF hg hA
 go_wp2_with (go_at_call 19;refine hF1.mono ?_)
 rintro en W2 ⟨b2,rfl⟩
 have hb2:=hb.trans (b2.mono (Nat.le_of_lt hlt))
 have hE2:=hE.below hlt b2
 have hR2:=hR W2 (hA1.below b2)
 clear hF1 hR hE hb hA1 hg1 c0 c1 c2 c3 c4 c5 c6 c7 c8 c9 c10 hfr
 obtain ⟨c0,c1,c2,c3,c4,c5,c6,c7,c8,c9,c10,hfr,hlt2⟩:=id hE2
 go_wp2_with (go_at_call 27;refine hR2.mono ?_)
 rintro en W3 ⟨b3,rfl⟩
 have hb3:=hb2.trans (b3.mono hb2.size)
 clear hR2
 have f1:(s.toList == s.toList)=true:=beq_self_eq_true _
 have f2:(k == k)=true:=beq_self_eq_true k
 go_wp2
 go_ret
 exact ⟨rfl,hb3⟩
end Go.Proofs
namespace Go.Proofs
open Go.RowKit Go.Sp
def RetFw (l:List Rev) (w:World) (e:Ending) (w':World):Prop:=∃ b,e=.returned (.bool b)∧Below w.heap.size w w'∧(b=true→l.length≤6∧∀ r∈l,r.text.length≤300)
theorem rv_all {l:List Rev} {b:Nat} (h:∀ i,i<l.length→(rv l i).text.length≤b):∀ r∈l,r.text.length≤b:=by
 intro r hr
 obtain ⟨i,hi,rfl⟩:=List.getElem_of_mem hr
 have:=h i hi
 unfold rv at this
 rwa [List.getD_eq_getElem?_getD,List.getElem?_eq_getElem hi] at this
set_option maxRecDepth 100000 in
set_option maxHeartbeats 8000000 in
theorem few_ok (g:Nat) (A:Option Addr) (c:Nat) (l:List Rev) (w:World) (hg:g<w.heap.size) (p2:w.cell? ⟨g,2,none⟩=some (.string ⟨#[]⟩)) (p7:w.cell? ⟨g,7,none⟩=some (.string ⟨#[]⟩)) (p9:w.cell? ⟨g,9,none⟩=some (.slice A l.length c)) (hA:HRd w A l) (hm:l.length≤9223372036854775807):Calls Tryz.prog 14 #[.slice (some ⟨g,0,none⟩) 1 1] w (RetFw l w):=by
 go_enter Tryz.func14,Tryz.ntmps14
 go_wp2
 go_loopw [3,4] (fun i _ wr=>∃ k:Nat,k≤1∧i=.int .i64 k∧Below w.heap.size w wr∧(k=1→l.length≤6∧∀ r∈l,r.text.length≤300)) (fun i _ _=>1 - (intOf i).toNat)
 case atStart=>exact ⟨0,Nat.zero_le _,rfl,Below.refl _ _,fun h=>by cases h⟩
 case round =>
  obtain ⟨k,hk,rfl,hW,hx⟩:=hrel
  by_cases hk0:k=0
  ·subst hk0
   clear hx
   have c2:=(hW.cell (p:=⟨g,2,none⟩) hg).trans p2
   have c7:=(hW.cell (p:=⟨g,7,none⟩) hg).trans p7
   have c9:=(hW.cell (p:=⟨g,9,none⟩) hg).trans p9
   by_cases h6:l.length≤6
   ·have hd:decide ((6:Int)<(l.length:Int))=false:=by rw [decide_eq_false_iff_not];omega
    generalize hn:l.length=n at *
    have HN:=Lib.hid hn
    clear hn
    go_wp2
    go_quiet (fail)
    go_wp2
    go_loopw [4] (fun j wr2=>∃ q:Nat,q≤n∧j=.int .i64 q∧Below w.heap.size w wr2∧∀ i,i<q→(rv l i).text.length≤300) (fun j _=>n - (intOf j).toNat)
    case atStart=>exact ⟨0,Nat.zero_le _,rfl,below_drewN hW _,fun i hi=>by omega⟩
    case round =>
     obtain ⟨q,hq,rfl,hW2,hy⟩:=hrel
     have c9:=(hW2.cell (p:=⟨g,9,none⟩) hg).trans p9
     by_cases hqn:q<n
     ·obtain ⟨g',o,rfl,hg',hr⟩:=hA q (by rw [HN.out];exact hqn)
      have c3:=(hW2.cell (p:=⟨g',o+q * 6+3,none⟩) hg').trans hr.c3
      have hnx:(rv l q).text.length≤300→∀ i,i<q+1→(rv l i).text.length≤300:=fun h i hi=>by
       by_cases hiq:i<q
       ·exact hy i hiq
       ·rw [show i=q from by omega];exact h
      have hz:(⟨(rv l q).text.toArray⟩:ByteArray).size=(rv l q).text.length:=lsize _
      rw [← hz] at hnx
      have HX:=Lib.hid hnx
      clear hnx hz hy hr hA
      generalize (⟨(rv l q).text.toArray⟩:ByteArray)=t at *
      by_cases ht:t.size≤300
      ·have f1:decide ((300:Int)<t.size)=false:=by rw [decide_eq_false_iff_not];omega
       go_wp2
       go_roundw
       case rel=>exact ⟨q+1,by omega,by go_num,hW2,HX.out ht⟩
       case measure=>simp [intOf];omega
      ·have f1:decide ((300:Int)<t.size)=true:=by rw [decide_eq_true_iff];omega
       go_wp2
       go_ret
       exact ⟨false,rfl,hW2,fun h=>by cases h⟩
     ·have HY:=Lib.hid hy
      clear hy
      go_wp2
      go_roundw
      case rel=>exact ⟨1,Nat.le_refl _,by first | rfl | go_num,hW2,fun _=>⟨h6,rv_all (fun i hi=>HY.out i (by have:=HN.out;omega))⟩⟩
      case measure=>simp [intOf]
   ·have hd:decide ((6:Int)<(l.length:Int))=true:=by rw [decide_eq_true_iff];omega
    generalize l.length=n at *
    go_wp2
    go_quiet (fail)
    go_wp2
    go_ret
    exact ⟨false,rfl,below_drewN hW _,fun h=>by cases h⟩
  ·obtain rfl:k=1:=by omega
   have HX:=Lib.hid (hx rfl)
   clear hx
   go_wp2
   go_ret
   exact ⟨true,rfl,hW,fun _=>HX.out⟩
end Go.Proofs
namespace Go.Proofs
open Go.RowKit Go.Sp
theorem WrOk.big {x:Ev} (h:WrOk x):Big x:=⟨by have:=h.user;omega,by have:=h.note;omega,by have:=h.text;omega,by have:=h.tN;omega,by have:=h.oN;omega,by have:=h.base;omega,by have:=h.n;omega,by have:=h.h3;omega,h.ht⟩
theorem MadeEv.big {x:Ev} (h:MadeEv x):Big x:=⟨by have:=h.user;omega,by have:=h.note;omega,by have:=h.text;omega,by have:=h.tN;omega,by have:=h.oN;omega,by have:=h.base;omega,by have:=h.n;omega,by have:=h.h3;omega,h.ht⟩
theorem big_kind {e:Ev} (h:Big e) (k:Int):Big { e with kind:=k }:=⟨h.user,h.note,h.text,h.tN,h.oN,h.base,h.n,h.h3,h.ht⟩
structure Mild (e:Ev):Prop where
 user:e.user.length≤1048576
 note:e.note.length≤1048576
 text:e.text.length≤1048576
 tN:e.tN.length≤1048576
 oN:e.oN.length≤1048576
 base : -9223372036854775808≤e.base∧e.base≤9223372036854775807
 n : -9223372036854775808≤e.n∧e.n≤9223372036854775807
 h63:e.hist.length≤9223372036854775807
set_option maxRecDepth 100000 in
set_option maxHeartbeats 8000000 in
theorem scripts_format (e:Ev) (A:Option Addr) (c:Nat) (B:Option Addr) (m d:Nat) (a:Int) (w:World) (he:Mild e) (hA:HRd w A e.hist) (hm:m≤9223372036854775807) (hl:NumsA w B m) (hg:GlN w) (hAw:AwK w):Calls Tryz.prog 4 #[evV e (.slice A e.hist.length c),.slice B m d,.int .i64 a] w (RetB (.bool true) w):=by
 obtain ⟨hE,hb⟩:=EBlk.one w e (.slice A e.hist.length c)
 have hA1:=hA.below hb
 have hlt:w.heap.size<(w.alloc (.cells (ecells e (.slice A e.hist.length c)) 33)).heap.size:=hE.lt
 by_cases h1:e.text.length≤2000∧e.note.length≤500
 ·have e1:(⟨e.text.toArray⟩:ByteArray).size=e.text.length:=lsize _
  have e2:(⟨e.note.toArray⟩:ByteArray).size=e.note.length:=lsize _
  have f1:decide ((2000:Int)<(e.text.length:Int))=false:=by rw [decide_eq_false_iff_not];omega
  have f2:decide ((500:Int)<(e.note.length:Int))=false:=by rw [decide_eq_false_iff_not];omega
  have hFw:=fun W1 (q:HRd W1 A e.hist)=>few_ok W1.heap.size A c e.hist (W1.alloc (.cells #[.int .i64 0,.string ⟨#[]⟩,.string ⟨#[]⟩,.int .i64 0,.string ⟨#[]⟩,.int .i64 0,.string ⟨#[]⟩,.string ⟨#[]⟩,.int .i64 0,.slice A e.hist.length c] 36)) (by simp) (by simp) (by simp) (by simp) (q.below ((Below.refl _ W1).alloc (Nat.le_refl _) _)) he.h63
  generalize hv:Value.slice A e.hist.length c=v at *
  unfold evV at *
  unfold ecells at *
  go_enter Tryz.func4,Tryz.ntmps4
  go_upto_region 1 with fail
  generalize w.alloc _=W1 at *
  obtain ⟨c0,c1,c2,c3,c4,c5,c6,c7,c8,c9,c10,hfr,_⟩:=id hE
  have hFw1:=hFw W1 hA1
  clear hFw
  subst hv
  go_wp2_with (go_at_call 14;refine hFw1.mono ?_)
  rintro en W2 ⟨bq,rfl,b2,hbig⟩
  have hb2:=hb.trans ((((Below.refl _ W1).alloc (Nat.le_refl _) _).trans (b2.mono (by simp))).mono hb.size)
  have hE2:=hE.below hlt ((((Below.refl _ W1).alloc (Nat.le_refl _) _).trans (b2.mono (by simp))))
  have hA2:=hA1.below ((((Below.refl _ W1).alloc (Nat.le_refl _) _).trans (b2.mono (by simp))))
  clear hFw1 b2 hb hE hA1 hlt c0 c1 c2 c3 c4 c5 c6 c7 c8 c9 c10 hfr
  cases bq with
  | false =>
   have hAw2:=hAw _ hb2
   clear hbig
   go_wp2_with (go_at_call 9;refine hAw2.mono ?_)
   rintro en W3 ⟨rfl,b3⟩
   have hb3:=hb2.trans (b3.mono hb2.size)
   go_wp2
   go_ret
   exact ⟨rfl,hb3⟩
  | true =>
   obtain ⟨h6,h300⟩:=hbig rfl
   have HB:Big e:=⟨he.user,he.note,he.text,he.tN,he.oN,he.base,he.n,h6,h300⟩
   clear hbig h6 h300 he f1 f2 e1 e2 h1
   have hFr:=from_ok B m d W2 hm (SrcNums hl hb2)
   go_wp2_with (go_at_call 15;refine hFr.mono ?_)
   rintro en W3 ⟨rfl,b3,hS⟩
   have hsb:W2.heap.size=W2.heap.size:=rfl
   generalize hq:W2.heap.size=sb at *
   have hEs:w.heap.size<sb:=by rw [← hq];exact hE2.lt
   have hb3:=hb2.trans (b3.mono (Nat.le_of_lt hEs))
   have hE3:=hE2.below hEs b3
   have hA3:=hA2.below (hq ▸ b3)
   clear hFr hsb hb2 hE2 hA2 b3 hl
   have hs3:=hS.lt
   obtain ⟨hP,hL2⟩:=EBlk.one W3 e (.slice A e.hist.length c)
   obtain ⟨c0,c1,c2,c3,c4,c5,c6,c7,c8,c9,c10,_,hlt3⟩:=id hE3
   unfold ecells at *
   go_upto_region 5 with fail
   have hOb:w.heap.size<W3.heap.size:=by omega
   have hPs:=hL2.size
   generalize hO:W3.heap.size=O at *
   generalize W3.alloc _=W4 at *
   clear c0 c1 c2 c3 c4 c5 c6 c7 c8 c9 c10
   have hE4:=hE3.below hOb hL2
   have hA4:=hA3.below (hO ▸ hL2)
   have hS4:=SrcOk.below hS (hO ▸ hL2)
   have hb4:=hb3.trans (hL2.mono (Nat.le_of_lt hOb))
   have hR:=roundB a 23 W4 (by decide) (by decide)
   generalize rnd a 23=k at *
   change Calls _ _ #[_,.int .i64 23] _ _ at hR
   clear hE3 hA3 hS hb3 hL2
   go_wp2_with (go_at_call 11;refine hR.mono ?_)
   rintro en W5 ⟨rfl,b5⟩
   have hP5:=hP.below hP.lt b5
   have hE5:=hE4.below hE4.lt b5
   have hA5:=hA4.below b5
   have hS5:=SrcOk.below hS4 b5
   have hb5:=hb4.trans (b5.mono hb4.size)
   have hlt5:=hP5.lt
   have c0:=hP5.c0
   have f0:=hP5.fr 0 (by decide)
   have hK:=hP5.setKind k
   have hbk:=(Below.refl O W5).setCell (p:=⟨O,0,none⟩) (Nat.le_refl _) (.int .i64 (k:Int))
   clear hR hE4 hA4 hS4 hb4 b5 hP
   go_upto_region 6 with fail
   have hE6:=hE5.below hOb hbk
   have hS6:SrcOk (W5.setCell ⟨O,0,none⟩ (.int .i64 (k:Int))) sb:=by
    obtain ⟨A1,m1,c1,k1,s1,q⟩:=hS5
    exact ⟨A1,m1,c1,k1,s1,q.below hs3 hbk⟩
   have hb6:=hb5.trans (hbk.mono (Nat.le_of_lt hOb))
   clear hP5 hE5 hA5 hS5 hb5 c0 f0 hbk hlt5 hPs
   generalize W5.setCell _ _=W6 at *
   have hAw6:=hAw _ hb6
   go_wp2_with (go_at_call 9;refine hAw6.mono ?_)
   rintro en W7 ⟨rfl,b7⟩
   have hE7:=hE6.below hE6.lt b7
   have hK7:=hK.below hK.lt b7
   have hS7:=hS6.below b7
   have hb7:=hb6.trans (b7.mono hb6.size)
   clear hAw6 hAw hE6 hK hS6 hb6 b7
   obtain ⟨c0,c1,c2,c3,c4,c5,c6,c7,c8,c9,c10,_,hl7⟩:=id hE7
   have hF:=formats_ok HB A c W7 (hA.below hb7) (hg.below hb7)
   unfold evV ecells at hF
   go_wp2_with (go_at_call 16;refine hF.mono ?_)
   rintro en W8 ⟨rfl,b8⟩
   have hK8:=hK7.below hK7.lt b8
   have hS8:=hS7.below b8
   have hb8:=hb7.trans (b8.mono hb7.size)
   clear hF hE7 hK7 hS7 hb7 b8 c0 c1 c2 c3 c4 c5 c6 c7 c8 c9 c10 hl7
   obtain ⟨c0,c1,c2,c3,c4,c5,c6,c7,c8,c9,c10,_,hl8⟩:=id hK8
   have hF:Calls Tryz.prog 16 #[.agg #[.int .i64 k,.string ⟨e.user.toArray⟩,.string ⟨e.note.toArray⟩,.int .i64 e.tSp,.string ⟨e.tN.toArray⟩,.int .i64 e.oSp,.string ⟨e.oN.toArray⟩,.string ⟨e.text.toArray⟩,.int .i64 e.base,.int .i64 e.n,.slice A e.hist.length c]] W8 (RetB (.bool true) W8):=formats_ok (big_kind HB k) A c W8 (hA.below hb8) (hg.below hb8)
   go_wp2_with (go_at_call 16;refine hF.mono ?_)
   rintro en W9 ⟨rfl,b9⟩
   have hS9:=hS8.below b9
   have hb9:=hb8.trans (b9.mono hb8.size)
   clear hF hK8 hS8 hb8 b9 c0 c1 c2 c3 c4 c5 c6 c7 c8 c9 c10 hl8 HB
   have hWr:=writable_ok sb W9 hS9
   go_wp2_with (go_at_call 17;refine hWr.mono ?_)
   rintro en W10 ⟨x,A1,m1,c1,hx,rfl,hG,ho⟩
   have hb10:=hb9.trans (hG.below.mono (Nat.le_of_lt hEs))
   have hS10:=hG.src
   obtain ⟨rfl,hRx⟩:=owns_rd ho
   have hF:=formats_ok hx.big A1 c1 W10 hRx (hg.below hb10)
   clear hWr hG ho hRx hb9 hS9 hx
   unfold evV ecells at *
   go_wp2_with (go_at_call 16;refine hF.mono ?_)
   rintro en W11 ⟨rfl,b11⟩
   have hS11:=hS10.below b11
   have hb11:=hb10.trans (b11.mono hb10.size)
   clear hF hS10 hb10 b11
   have hEv:=event_ok sb W11 hS11
   go_wp2_with (go_at_call 18;refine hEv.mono ?_)
   rintro en W12 ⟨y,A2,m2,c2,hy,rfl,hG,ho⟩
   have hb12:=hb11.trans (hG.below.mono (Nat.le_of_lt hEs))
   obtain ⟨rfl,hRy⟩:=owns_rd ho
   have hF:=formats_ok hy.big A2 c2 W12 hRy (hg.below hb12)
   clear hEv hG ho hRy hb11 hS11 hy
   unfold evV ecells at *
   go_wp2_with (go_at_call 16;refine hF.mono ?_)
   rintro en W13 ⟨rfl,b13⟩
   have hb13:=hb12.trans (b13.mono hb12.size)
   go_wp2
   go_ret
   exact ⟨rfl,hb13⟩
 ·have hAw1:=hAw _ hb
  have e1:(⟨e.text.toArray⟩:ByteArray).size=e.text.length:=lsize _
  have e2:(⟨e.note.toArray⟩:ByteArray).size=e.note.length:=lsize _
  generalize hv:Value.slice A e.hist.length c=v at *
  have HV:=Lib.hid hv
  clear hv
  unfold evV at *
  unfold ecells at *
  by_cases q1:e.text.length≤2000
  ·have f1:decide ((2000:Int)<(e.text.length:Int))=false:=by rw [decide_eq_false_iff_not];omega
   have f2:decide ((500:Int)<(e.note.length:Int))=true:=by rw [decide_eq_true_iff];omega
   clear h1 q1
   go_enter Tryz.func4,Tryz.ntmps4
   go_upto_region 1 with fail
   generalize w.alloc _=W1 at *
   obtain ⟨c0,c1,c2,c3,c4,c5,c6,c7,c8,c9,c10,hfr,_⟩:=id hE
   go_wp2_with (go_at_call 9;refine hAw1.mono ?_)
   rintro en W3 ⟨rfl,b3⟩
   have hb3:=hb.trans (b3.mono hb.size)
   go_wp2
   go_ret
   exact ⟨rfl,hb3⟩
  ·have f1:decide ((2000:Int)<(e.text.length:Int))=true:=by rw [decide_eq_true_iff];omega
   clear h1 q1
   go_enter Tryz.func4,Tryz.ntmps4
   go_upto_region 1 with fail
   generalize w.alloc _=W1 at *
   obtain ⟨c0,c1,c2,c3,c4,c5,c6,c7,c8,c9,c10,hfr,_⟩:=id hE
   go_wp2_with (go_at_call 9;refine hAw1.mono ?_)
   rintro en W3 ⟨rfl,b3⟩
   have hb3:=hb.trans (b3.mono hb.size)
   go_wp2
   go_ret
   exact ⟨rfl,hb3⟩
end Go.Proofs
namespace Go.Proofs
open Go.RowKit Go.Sp
noncomputable def sfs (t:TypeId):Array Field:=match Tryz.prog.underlying t with
 | some (.struct fs)=>fs
 | _=>#[]
theorem us33:Tryz.prog.underlying 33=some (.struct (sfs 33)):=by kernel_rfl
theorem us30:Tryz.prog.underlying 30=some (.struct (sfs 30)):=by kernel_rfl
theorem us66:Tryz.prog.underlying 66=some (.struct (sfs 66)):=by kernel_rfl
theorem fs33:(sfs 33).toList.map (fun f=>(f.type,f.offset,Tryz.prog.cellsOf f.type))=[(3,0,1),(9,1,1),(9,2,1),(30,3,2),(30,5,2),(9,7,1),(3,8,1),(3,9,1),(31,10,1)]:=by kernel_rfl
theorem fs30:(sfs 30).toList.map (fun f=>(f.type,f.offset,Tryz.prog.cellsOf f.type))=[(3,0,1),(9,1,1)]:=by kernel_rfl
theorem fs66:(sfs 66).toList.map (fun f=>(f.type,f.offset,Tryz.prog.cellsOf f.type))=[(3,0,1),(9,1,1),(9,2,1),(9,3,1),(3,4,1),(3,5,1)]:=by kernel_rfl
theorem un3:Tryz.prog.underlying 3=some (.int .i64):=by kernel_rfl
theorem un9:Tryz.prog.underlying 9=some .string:=by kernel_rfl
theorem un31:Tryz.prog.underlying 31=some (.slice 66):=by kernel_rfl
theorem ce33:Tryz.prog.cellsOf 33=11:=by kernel_rfl
theorem ce66:Tryz.prog.cellsOf 66=6:=by kernel_rfl
section
variable {H:Type} {enc:TypeId×Value→H} {w:World} {sp:Nat→Bool} {held:Bool}
theorem field_at {t:TypeId} {fuel:Nat} {cs:List Value} {x:DataW H×List MemPlace} (ht:Tryz.prog.underlying t=some (.struct (sfs t))) {l:List (TypeId×Nat×Nat)} (hl:(sfs t).toList.map (fun f=>(f.type,f.offset,Tryz.prog.cellsOf f.type))=l) (h:DataW.trod enc Tryz.prog w 0 sp held fuel t cs=some x) :
 cs.length=Tryz.prog.cellsOf t∧∃ (n:Nat) (ds:List (DataW H)),x.1=.agg ds∧ds.length=l.length∧∀ (i:Nat) u o c,l[i]? = some (u,o,c)→∃ y,DataW.trod enc Tryz.prog w 0 sp held n u ((cs.drop o).take c)=some y∧ds[i]? = some y.1:=by
 obtain ⟨xs,n,_,rfl,h1,h2,h3⟩:=DataW.trod_struct ht h
 have hlen:l.length=(sfs t).size:=by rw [← hl];simp
 refine ⟨h1,n,xs.map (·.1),rfl,by rw [List.length_map];omega,fun i u o c hi=>?_⟩
 rw [← hl,List.getElem?_map] at hi
 cases hf:(sfs t).toList[i]? with
 | none=>rw [hf] at hi;cases hi
 | some f =>
  rw [hf] at hi
  obtain ⟨rfl,rfl,rfl⟩:=by simpa using hi
  have h4:=h3 i f (by simpa using hf)
  have hx:i<xs.length:=by
   have:=(List.getElem?_eq_some_iff.1 hf).1
   rw [h2];simpa using this
  rw [List.getElem?_eq_getElem hx] at h4
  exact ⟨_,h4,by rw [List.getElem?_map,List.getElem?_eq_getElem hx];rfl⟩
theorem int_of {fuel:Nat} {v:Value} {y:DataW H×List MemPlace} (h:DataW.trod enc Tryz.prog w 0 sp held fuel 3 [v]=some y):∃ k,v=.int .i64 k ∧ -9223372036854775808≤k∧k≤9223372036854775807:=by
 cases fuel with
 | zero=>simp [DataW.trod] at h
 | succ n =>
  unfold DataW.trod at h
  rw [un3] at h
  cases v <;> simp at h
  next k' i =>
   obtain ⟨⟨rfl,hw⟩,_⟩:=h
   simp only [Lit.wf,Bool.and_eq_true,decide_eq_true_eq] at hw
   exact ⟨i,rfl,hw.1,hw.2⟩
theorem str_of {fuel:Nat} {v:Value} {y:DataW H×List MemPlace} (h:DataW.trod enc Tryz.prog w 0 sp held fuel 9 [v]=some y):∃ s:Bs,v=.string ⟨s.toArray⟩∧y.1=.lit (.string s):=by
 cases fuel with
 | zero=>simp [DataW.trod] at h
 | succ n =>
  unfold DataW.trod at h
  rw [un9] at h
  cases v <;> simp at h
  next s =>
   obtain ⟨_,rfl⟩:=h
   exact ⟨s.data.toList,rfl,rfl⟩
theorem title_of {fuel:Nat} {u v:Value} {y:DataW H×List MemPlace} (h:DataW.trod enc Tryz.prog w 0 sp held fuel 30 [u,v]=some y):∃ (k:Int) (s:Bs) (d:DataW H),u=.int .i64 k∧v=.string ⟨s.toArray⟩∧y.1=.agg [d,.lit (.string s)]:=by
 obtain ⟨_,n,ds,h1,h2,h3⟩:=field_at us30 fs30 h
 obtain ⟨y0,e0,g0⟩:=h3 0 _ _ _ rfl
 obtain ⟨y1,e1,g1⟩:=h3 1 _ _ _ rfl
 obtain ⟨k,rfl,_⟩:=int_of e0
 obtain ⟨s,rfl,hs⟩:=str_of e1
 refine ⟨k,s,y0.1,rfl,rfl,?_⟩
 rw [h1]
 match ds,h2 with
 | [a,b],_ =>
  obtain rfl:=Option.some.inj g0
  obtain rfl:=Option.some.inj g1
  rw [hs]
theorem rev_of {fuel:Nat} {cs:List Value} {y:DataW H×List MemPlace} (h:DataW.trod enc Tryz.prog w 0 sp held fuel 66 cs=some y):∃ r:Rev,cs=rcells r:=by
 obtain ⟨hl,n,ds,h1,h2,h3⟩:=field_at us66 fs66 h
 rw [ce66] at hl
 match cs,hl with
 | [a,b,c,d,e,f],_ =>
  obtain ⟨y0,e0,_⟩:=h3 0 _ _ _ rfl
  obtain ⟨y1,e1,_⟩:=h3 1 _ _ _ rfl
  obtain ⟨y2,e2,_⟩:=h3 2 _ _ _ rfl
  obtain ⟨y3,e3,_⟩:=h3 3 _ _ _ rfl
  obtain ⟨y4,e4,_⟩:=h3 4 _ _ _ rfl
  obtain ⟨y5,e5,_⟩:=h3 5 _ _ _ rfl
  obtain ⟨i0,rfl,_⟩:=int_of e0
  obtain ⟨s1,rfl,_⟩:=str_of e1
  obtain ⟨s2,rfl,_⟩:=str_of e2
  obtain ⟨s3,rfl,_⟩:=str_of e3
  obtain ⟨i4,rfl,_⟩:=int_of e4
  obtain ⟨i5,rfl,_⟩:=int_of e5
  exact ⟨⟨i0,s1,s2,s3,i4,i5⟩,rfl⟩
end
end Go.Proofs
namespace Go.Proofs
open Go.RowKit Go.Sp
theorem build_rv {Q:Nat→Rev→Prop}:∀ n:Nat,(∀ i,i<n→∃ r,Q i r)→∃ l:List Rev,l.length=n∧∀ i,i<n→Q i (rv l i)
 | 0,_=>⟨[],rfl,fun i hi=>by omega⟩
 | n+1,h=>by
  obtain ⟨l,hl,hq⟩:=build_rv n fun i hi=>h i (by omega)
  obtain ⟨r,hr⟩:=h n (Nat.lt_succ_self n)
  refine ⟨l ++ [r],by simp [hl],fun i hi=>?_⟩
  by_cases hin:i<n
  ·have:rv (l ++ [r]) i=rv l i:=by
    unfold rv
    rw [List.getD_eq_getElem?_getD,List.getD_eq_getElem?_getD,List.getElem?_append_left (by omega)]
   rw [this];exact hq i hin
  ·obtain rfl:i=n:=by omega
   have:rv (l ++ [r]) i=r:=by
    unfold rv
    rw [List.getD_eq_getElem?_getD,List.getElem?_append_right (by omega),hl,Nat.sub_self];rfl
   rw [this];exact hr
theorem ct33:Tryz.prog.cellTypes Tryz.prog.depth 33=some [3,9,9,3,9,3,9,9,3,3,31]:=by kernel_rfl
section
variable {H:Type} {enc:TypeId×Value→H} {w:World} {sp:Nat→Bool} {held:Bool}
theorem hist_of {fuel:Nat} {v:Value} {y:DataW H×List MemPlace} (hs:∀ a len cap,v=.slice (some a) len cap→a.spot=none) (h:DataW.trod enc Tryz.prog w 0 sp held fuel 31 [v]=some y):∃ A c,∃ l:List Rev,v=.slice A l.length c∧HRd w A l∧l.length≤9223372036854775807:=by
 rcases DataW.trod_slice un31 h with ⟨h0,_⟩ | ⟨a,len,cap,elems,rest,n,_,h0,_,hb,hlc,hcm,hel,hat,_⟩
 ·obtain rfl:v=.slice none 0 0:=by simpa using h0
  exact ⟨none,0,[],rfl,fun i hi=>absurd hi (Nat.not_lt_zero _),Nat.zero_le _⟩
 ·obtain rfl:v=.slice (some a) len cap:=by simpa using h0
  have hsp:=hs a len cap rfl
  have hk:∀ i,i<len→∃ r:Rev,∀ j u,(rcells r)[j]? = some u→w.cell? ((a.add (i * 6)).add j)=some u:=fun i hi=>by
   have h1:=hat i hi
   rw [ce66,List.getElem?_eq_getElem (by omega)] at h1
   cases hc:w.cells? 0 (a.add (i * 6)) 6 with
   | none=>rw [hc] at h1;cases h1
   | some cs =>
    rw [hc] at h1
    obtain ⟨r,rfl⟩:=rev_of h1
    obtain ⟨_,_,h3⟩:=World.cells?_some hc
    exact ⟨r,fun j u hu=>by
     rw [h3 j (by have:=(List.getElem?_eq_some_iff.1 hu).1;simpa [rcells] using this)];exact hu⟩
  obtain ⟨l,hl,hq⟩:=build_rv len hk
  refine ⟨some a,cap,l,by rw [hl],fun i hi=>?_,by unfold maxLen at hcm;omega⟩
  have h2:=hq i (by omega)
  obtain ⟨g,o,s⟩:=a
  obtain rfl:s=none:=hsp
  have hadd:∀ (x y:Nat),((⟨g,x,none⟩:Addr).add y)=⟨g,x+y,none⟩:=fun x y=>by
   unfold Addr.add
   split
   ·next h=>subst h;rfl
   ·rfl
  have h3:∀ j u,(rcells (rv l i))[j]? = some u→w.cell? ⟨g,o+i * 6+j,none⟩=some u:=fun j u hu=>by
   have:=h2 j u hu
   rwa [hadd,hadd] at this
  exact ⟨g,o,rfl,World.block_lt_of_cell? w _ (h3 0 _ rfl),⟨h3 0 _ rfl,h3 1 _ rfl,h3 2 _ rfl,h3 3 _ rfl,h3 4 _ rfl,h3 5 _ rfl⟩⟩
set_option maxRecDepth 100000 in
theorem ev_of {v:Value} {d:DataW H} {p:List MemPlace} (hv:Value.okWide Tryz.prog w .any 0 33 v) (h:DataW.Trod enc Tryz.prog w 0 sp held 33 v d p) :
 ∃ (e:Ev) (A:Option Addr) (c:Nat) (d0 d3 d5 d8 d9 d10:DataW H),v=evV e (.slice A e.hist.length c)∧HRd w A e.hist∧e.hist.length≤9223372036854775807∧(-9223372036854775808≤e.base∧e.base≤9223372036854775807)∧(-9223372036854775808≤e.n∧e.n≤9223372036854775807) ∧
  d=.agg [d0,.lit (.string e.user),.lit (.string e.note),.agg [d3,.lit (.string e.tN)],.agg [d5,.lit (.string e.oN)],.lit (.string e.text),d8,d9,d10]:=by
 obtain ⟨fuel,hf⟩:=h
 unfold Value.okWide at hv
 rw [us33] at hv
 obtain ⟨cs,rfl,hcs,ts,hts,_,hat⟩:=hv
 rw [ct33] at hts
 obtain rfl:=Option.some.inj hts
 rw [ce33] at hcs
 obtain ⟨L⟩:=cs
 change L.length=11 at hcs
 change DataW.trod enc Tryz.prog w 0 sp held fuel 33 L=some (d,p) at hf
 obtain ⟨_,n,ds,h1,h2,h3⟩:=field_at us33 fs33 hf
 change d=.agg ds at h1
 match L,hcs with
 | [c0,c1,c2,c3,c4,c5,c6,c7,c8,c9,c10],_ =>
  have hsl:∀ a len cap,c10=.slice (some a) len cap→a.spot=none:=fun a len cap hq=>by
   subst hq
   obtain ⟨u,hu,ok⟩:=hat 10 _ rfl
   obtain rfl:31=u:=Option.some.inj hu
   unfold Cell.okWide at ok
   rw [un31] at ok
   unfold Cell.ok at ok
   rw [un31] at ok
   exact ok.2.2.2.1
  obtain ⟨y0,e0,g0⟩:=h3 0 _ _ _ rfl
  obtain ⟨y1,e1,g1⟩:=h3 1 _ _ _ rfl
  obtain ⟨y2,e2,g2⟩:=h3 2 _ _ _ rfl
  obtain ⟨y3,e3,g3⟩:=h3 3 _ _ _ rfl
  obtain ⟨y4,e4,g4⟩:=h3 4 _ _ _ rfl
  obtain ⟨y5,e5,g5⟩:=h3 5 _ _ _ rfl
  obtain ⟨y6,e6,g6⟩:=h3 6 _ _ _ rfl
  obtain ⟨y7,e7,g7⟩:=h3 7 _ _ _ rfl
  obtain ⟨y8,e8,g8⟩:=h3 8 _ _ _ rfl
  obtain ⟨k0,rfl,_⟩:=int_of e0
  obtain ⟨s1,rfl,z1⟩:=str_of e1
  obtain ⟨s2,rfl,z2⟩:=str_of e2
  obtain ⟨k3,s3,d3,rfl,rfl,z3⟩:=title_of e3
  obtain ⟨k4,s4,d4,rfl,rfl,z4⟩:=title_of e4
  obtain ⟨s5,rfl,z5⟩:=str_of e5
  obtain ⟨k6,rfl,b6⟩:=int_of e6
  obtain ⟨k7,rfl,b7⟩:=int_of e7
  obtain ⟨A,c,l,rfl,hR,hm⟩:=hist_of hsl e8
  refine ⟨⟨k0,s1,s2,k3,s3,k4,s4,s5,k6,k7,l⟩,A,c,y0.1,d3,d4,y6.1,y7.1,y8.1,rfl,hR,hm,b6,b7,?_⟩
  rw [h1]
  match ds,h2 with
  | [x0,x1,x2,x3,x4,x5,x6,x7,x8],_ =>
   obtain rfl:=Option.some.inj g0
   obtain rfl:=Option.some.inj g1
   obtain rfl:=Option.some.inj g2
   obtain rfl:=Option.some.inj g3
   obtain rfl:=Option.some.inj g4
   obtain rfl:=Option.some.inj g5
   obtain rfl:=Option.some.inj g6
   obtain rfl:=Option.some.inj g7
   obtain rfl:=Option.some.inj g8
   rw [z1,z2,z3,z4,z5]
end
end Go.Proofs
