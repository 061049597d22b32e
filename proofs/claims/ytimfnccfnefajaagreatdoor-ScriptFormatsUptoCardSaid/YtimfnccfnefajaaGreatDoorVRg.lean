/- A part of the proof: Rt, Ru -/
import Derived.Test.YtimfnccfnefajaaGreatDoorVRf
import Derived.Test.YtimfnccfnefajaaGreatDoorVWj
set_option linter.unusedSimpArgs false
set_option linter.unusedVariables false
namespace Go.Proofs
open Go.RowKit Go.Sp
theorem ev_scal (a b:Ev):(∃ l,b={ a with hist:=l })∨(a≠b∧((¬ a.kind=b.kind)∨(a.kind=b.kind∧¬ a.user=b.user)∨(a.kind=b.kind∧a.user=b.user∧¬ a.note=b.note)∨(a.kind=b.kind∧a.user=b.user∧a.note=b.note∧¬ a.tSp=b.tSp)∨(a.kind=b.kind∧a.user=b.user∧a.note=b.note∧a.tSp=b.tSp∧¬ a.tN=b.tN)∨(a.kind=b.kind∧a.user=b.user∧a.note=b.note∧a.tSp=b.tSp∧a.tN=b.tN∧¬ a.oSp=b.oSp)∨(a.kind=b.kind∧a.user=b.user∧a.note=b.note∧a.tSp=b.tSp∧a.tN=b.tN∧a.oSp=b.oSp∧¬ a.oN=b.oN)∨(a.kind=b.kind∧a.user=b.user∧a.note=b.note∧a.tSp=b.tSp∧a.tN=b.tN∧a.oSp=b.oSp∧a.oN=b.oN∧¬ a.text=b.text)∨(a.kind=b.kind∧a.user=b.user∧a.note=b.note∧a.tSp=b.tSp∧a.tN=b.tN∧a.oSp=b.oSp∧a.oN=b.oN∧a.text=b.text∧¬ a.base=b.base)∨(a.kind=b.kind∧a.user=b.user∧a.note=b.note∧a.tSp=b.tSp∧a.tN=b.tN∧a.oSp=b.oSp∧a.oN=b.oN∧a.text=b.text∧a.base=b.base∧¬ a.n=b.n))):=by
 rcases ev_cases a b with rfl | ⟨hne,q⟩
 ·exact .inl ⟨a.hist,rfl⟩
 ·rcases q with q | q | q | q | q | q | q | q | q | q | ⟨q1,q2,q3,q4,q5,q6,q7,q8,q9,q10,_⟩
  ·exact .inr ⟨hne,.inl q⟩
  ·exact .inr ⟨hne,.inr (.inl q)⟩
  ·exact .inr ⟨hne,.inr (.inr (.inl q))⟩
  ·exact .inr ⟨hne,.inr (.inr (.inr (.inl q)))⟩
  ·exact .inr ⟨hne,.inr (.inr (.inr (.inr (.inl q))))⟩
  ·exact .inr ⟨hne,.inr (.inr (.inr (.inr (.inr (.inl q)))))⟩
  ·exact .inr ⟨hne,.inr (.inr (.inr (.inr (.inr (.inr (.inl q))))))⟩
  ·exact .inr ⟨hne,.inr (.inr (.inr (.inr (.inr (.inr (.inr (.inl q)))))))⟩
  ·exact .inr ⟨hne,.inr (.inr (.inr (.inr (.inr (.inr (.inr (.inr (.inl q))))))))⟩
  ·exact .inr ⟨hne,.inr (.inr (.inr (.inr (.inr (.inr (.inr (.inr (.inr q))))))))⟩
  ·obtain ⟨a1,a2,a3,a4,a5,a6,a7,a8,a9,a10,a11⟩:=a
   obtain ⟨b1,b2,b3,b4,b5,b6,b7,b8,b9,b10,b11⟩:=b
   simp only at q1 q2 q3 q4 q5 q6 q7 q8 q9 q10
   subst q1 q2 q3 q4 q5 q6 q7 q8 q9 q10
   exact .inl ⟨b11,rfl⟩
set_option maxRecDepth 100000 in
set_option maxHeartbeats 8000000 in
theorem same_hist (a:Ev) (m:List Rev) (A B:Option Addr) (c d:Nat) (w:World) (hmx:a.hist.length≤9223372036854775807) (hA:HRd w A a.hist) (hB:HRd w B m):Calls Tryz.prog 54 #[evV a (.slice A a.hist.length c),evV { a with hist:=m } (.slice B m.length d)] w (RetB (.bool (decide (a.hist=m))) w):=by
 obtain ⟨h1,h2,hb⟩:=EBlk.two w a { a with hist:=m } (.slice A a.hist.length c) (.slice B m.length d)
 have hA2:=hA.below hb
 have hB2:=hB.below hb
 unfold evV
 unfold ecells at *
 go_enter Tryz.func54,Tryz.ntmps54
 go_upto_region 1 with fail
 generalize (w.alloc _).alloc _=W at *
 clear hA hB
 have a0:=h1.c0
 have a1:=h1.c1
 have a2:=h1.c2
 have a3:=h1.c3
 have a4:=h1.c4
 have a5:=h1.c5
 have a6:=h1.c6
 have a7:=h1.c7
 have a8:=h1.c8
 have a9:=h1.c9
 have a10:=h1.c10
 have b0:=h2.c0
 have b1:=h2.c1
 have b2:=h2.c2
 have b3:=h2.c3
 have b4:=h2.c4
 have b5:=h2.c5
 have b6:=h2.c6
 have b7:=h2.c7
 have b8:=h2.c8
 have b9:=h2.c9
 have b10:=h2.c10
 have hp:=h1.lt
 have hp2:=h2.lt
 clear h1 h2
 generalize hP:w.heap.size=p at *
 have HP:=Lib.hid hP
 clear hP
 generalize a.hist=l at *
 by_cases hlen:l.length=m.length
 ·have hne:∀ k,k<l.length→rv l k≠rv m k→decide (l=m)=false:=fun k _ h=>by
   rw [decide_eq_false_iff_not];rintro rfl;exact h rfl
  have heq:(∀ i,i<l.length→rv l i=rv m i)→decide (l=m)=true:=fun h=>by
   rw [decide_eq_true_iff];exact rev_ext hlen h
  generalize decide (l=m)=r at *
  have HNE:=Lib.hid hne
  have HEQ:=Lib.hid heq
  clear hne heq
  generalize hn:l.length=n at *
  generalize hn2:m.length=n2 at *
  subst hlen
  have HN:=Lib.hid hn
  have HN2:=Lib.hid hn2
  clear hn hn2
  go_wp2
  go_loopw [5] (fun i wr=>∃ (k:Nat),k≤n∧i=.int .i64 k∧Below W.heap.size W wr∧∀ i,i<k→rv l i=rv m i) (fun i _=>n - (intOf i).toNat)
  case atStart=>exact ⟨0,Nat.zero_le _,rfl,Below.refl _ _,fun i hi=>by omega⟩
  case round =>
   obtain ⟨k,hk,rfl,hW,hx⟩:=hrel
   have y10:=(hW.cell (p:=⟨p,10,none⟩) hp).trans a10
   have z10:=(hW.cell (p:=⟨p+1,10,none⟩) hp2).trans b10
   have hBW:Below p w wr:=hb.trans (hW.mono (Nat.le_of_lt hp))
   clear a0 a1 a2 a3 a4 a5 a6 a7 a8 a9 a10 b0 b1 b2 b3 b4 b5 b6 b7 b8 b9 b10
   by_cases hkn:k<n
   ·obtain ⟨g,o,rfl,hg,hra⟩:=hA2 k (by rw [HN.out];exact hkn)
    obtain ⟨g',o',rfl,hg',hrb⟩:=hB2 k (by rw [HN2.out];exact hkn)
    have hra:=hra.keep (hW.block g hg)
    have hrb:=hrb.keep (hW.block g' hg')
    have hbad:=fun h=>HNE.out k hkn h
    have hgood:rv l k=rv m k→∀ i,i<k+1→rv l i=rv m i:=fun h i hi=>by
     by_cases hik:i<k
     ·exact hx i hik
     ·rw [show i=k from by omega];exact h
    have HB:=Lib.hid hbad
    have HG:=Lib.hid hgood
    clear hbad hgood hx hA2 hB2
    generalize rv l k=ra at *
    generalize rv m k=rb at *
    obtain ⟨e0,e1,e2,e3,e4,e5⟩:=hra
    obtain ⟨f0,f1,f2,f3,f4,f5⟩:=hrb
    rcases rev_cases ra rb with rfl | ⟨hne,hcs⟩
    ·have HG2:=Lib.hid (HG.out rfl)
     clear HG HB
     go_wp2
     go_quiet (fail)
     go_wp2
     go_roundw
     case rel=>exact ⟨k+1,by omega,by go_num,below_drewN hW _,HG2.out⟩
     case measure=>simp [intOf];omega
    ·have HR:=Lib.hid (HB.out hne)
     clear HG HB hne
     rcases hcs with q1 | ⟨q1,q2⟩ | ⟨q1,q2,q3⟩ | ⟨q1,q2,q3,q4⟩ | ⟨q1,q2,q3,q4,q5⟩ | ⟨q1,q2,q3,q4,q5,q6⟩
     all_goals
      go_wp2
      go_quiet (fail)
      go_wp2
      go_ret
      exact ⟨by rw [HR.out];rfl,by rw [HP.out];exact below_drewN hBW _⟩
   ·have hkn2:k=n:=by omega
    subst hkn2
    have HR:=Lib.hid (HEQ.out hx)
    clear hx hA2 hB2
    go_wp2
    go_ret
    exact ⟨by rw [HR.out];rfl,by rw [HP.out];exact hBW⟩
 ·have hr:decide (l=m)=false:=by rw [decide_eq_false_iff_not];rintro rfl;exact hlen rfl
  have HR:=Lib.hid hr
  generalize l.length=n at *
  generalize m.length=n2 at *
  have hn:((n:Int) == (n2:Int))=false:=by rw [beq_eq_false_iff_ne];omega
  clear hr hA2 hB2 hmx
  go_wp2
  go_ret
  exact ⟨by rw [HR.out];rfl,by rw [HP.out];exact hb⟩
set_option maxRecDepth 100000 in
set_option maxHeartbeats 8000000 in
theorem same_scal (a b:Ev) (A B:Option Addr) (c d n1 n2:Nat) (w:World) (hne:a≠b) (hcs:(¬ a.kind=b.kind)∨(a.kind=b.kind∧¬ a.user=b.user)∨(a.kind=b.kind∧a.user=b.user∧¬ a.note=b.note)∨(a.kind=b.kind∧a.user=b.user∧a.note=b.note∧¬ a.tSp=b.tSp)∨(a.kind=b.kind∧a.user=b.user∧a.note=b.note∧a.tSp=b.tSp∧¬ a.tN=b.tN)∨(a.kind=b.kind∧a.user=b.user∧a.note=b.note∧a.tSp=b.tSp∧a.tN=b.tN∧¬ a.oSp=b.oSp)∨(a.kind=b.kind∧a.user=b.user∧a.note=b.note∧a.tSp=b.tSp∧a.tN=b.tN∧a.oSp=b.oSp∧¬ a.oN=b.oN)∨(a.kind=b.kind∧a.user=b.user∧a.note=b.note∧a.tSp=b.tSp∧a.tN=b.tN∧a.oSp=b.oSp∧a.oN=b.oN∧¬ a.text=b.text)∨(a.kind=b.kind∧a.user=b.user∧a.note=b.note∧a.tSp=b.tSp∧a.tN=b.tN∧a.oSp=b.oSp∧a.oN=b.oN∧a.text=b.text∧¬ a.base=b.base)∨(a.kind=b.kind∧a.user=b.user∧a.note=b.note∧a.tSp=b.tSp∧a.tN=b.tN∧a.oSp=b.oSp∧a.oN=b.oN∧a.text=b.text∧a.base=b.base∧¬ a.n=b.n)):Calls Tryz.prog 54 #[evV a (.slice A n1 c),evV b (.slice B n2 d)] w (RetB (.bool false) w):=by
 obtain ⟨h1,h2,hb⟩:=EBlk.two w a b (.slice A n1 c) (.slice B n2 d)
 unfold evV
 unfold ecells at *
 go_enter Tryz.func54,Tryz.ntmps54
 go_upto_region 1 with fail
 generalize (w.alloc _).alloc _=W at *
 have a0:=h1.c0
 have a1:=h1.c1
 have a2:=h1.c2
 have a3:=h1.c3
 have a4:=h1.c4
 have a5:=h1.c5
 have a6:=h1.c6
 have a7:=h1.c7
 have a8:=h1.c8
 have a9:=h1.c9
 have a10:=h1.c10
 have b0:=h2.c0
 have b1:=h2.c1
 have b2:=h2.c2
 have b3:=h2.c3
 have b4:=h2.c4
 have b5:=h2.c5
 have b6:=h2.c6
 have b7:=h2.c7
 have b8:=h2.c8
 have b9:=h2.c9
 have b10:=h2.c10
 clear h1 h2 hne
 generalize hP:w.heap.size=p at *
 have HP:=Lib.hid hP
 clear hP
 rcases hcs with q1 | ⟨q1,q2⟩ | ⟨q1,q2,q3⟩ | ⟨q1,q2,q3,q4⟩ | ⟨q1,q2,q3,q4,q5⟩ | ⟨q1,q2,q3,q4,q5,q6⟩ | ⟨q1,q2,q3,q4,q5,q6,q7⟩ | ⟨q1,q2,q3,q4,q5,q6,q7,q8⟩ | ⟨q1,q2,q3,q4,q5,q6,q7,q8,q9⟩ | ⟨q1,q2,q3,q4,q5,q6,q7,q8,q9,q10⟩
 all_goals
  go_wp2
  go_ret
  exact ⟨rfl,by rw [HP.out];exact hb⟩
theorem sameR_ok (a b:Ev) (A B:Option Addr) (c d:Nat) (w:World) (hmx:a.hist.length≤9223372036854775807) (hA:HRd w A a.hist) (hB:HRd w B b.hist):Calls Tryz.prog 54 #[evV a (.slice A a.hist.length c),evV b (.slice B b.hist.length d)] w (RetB (.bool (decide (a=b))) w):=by
 rcases ev_scal a b with ⟨l,rfl⟩ | ⟨hne,hcs⟩
 ·have h:=same_hist a l A B c d w hmx hA hB
  have e:decide (a.hist=l)=decide (a={ a with hist:=l }):=by
   by_cases h:a.hist=l
   ·subst h;simp
   ·rw [decide_eq_false h,decide_eq_false]
    intro h2
    exact h (congrArg Ev.hist h2)
  rw [e] at h
  exact h
 ·rw [decide_eq_false hne]
  exact same_scal a b A B c d _ _ w hne hcs
end Go.Proofs
namespace Go.Proofs
open Go.RowKit Go.Sp
theorem WordL (s:Bs) (w:World) (hs:s.length<4294960000):Calls Tryz.prog 87 #[.string ⟨s.toArray⟩] w (RetB (.string ⟨(wr s).toArray⟩) w):=Word_ok ⟨s.toArray⟩ w hs
theorem tfmtL (sp:Int) (n:Bs) (w:World) (hs:n.length<4294960000):Calls Tryz.prog 24 #[.agg #[.int .i64 sp,.string ⟨n.toArray⟩]] w (RetB (.string ⟨(fmt sp n).toArray⟩) w):=tformatR_ok sp ⟨n.toArray⟩ w hs
theorem fmt_len2 (sp:Int) (n:Bs):(fmt sp n).length≤109:=by
 unfold fmt
 split
 ·rename_i h
  have h1:=(valid_parts h).2.2.2.1
  split
  ·omega
  ·have:=nms_len sp.toNat
   rw [List.length_append,List.length_cons];omega
 ·exact Nat.zero_le _
set_option maxRecDepth 100000 in
set_option maxHeartbeats 4000000 in
theorem written_user (e:Ev) (h:Value) (w:World) (hs:e.user.length<4294960000):Calls Tryz.prog 52 #[evV e h,.int .u8 117] w (RetB (.string ⟨(wordF e .user).toArray⟩) w):=by
 obtain ⟨h1,hb⟩:=EBlk.one w e h
 unfold evV wordF
 unfold ecells at *
 go_enter Tryz.func52,Tryz.ntmps52
 go_upto_region 1 with fail
 generalize w.alloc _=W at *
 have c1:=h1.c1
 have hlt:=h1.lt
 have hR:=fun W=>WordL e.user W hs
 generalize wr e.user=wd at *
 clear h1
 go_wp2_with (go_at_call 87;refine (hR _).mono ?_)
 rintro e1 W1 ⟨rfl,b1⟩
 have hb1:=hb.trans (b1.mono (Nat.le_of_lt hlt))
 clear hR b1 hb
 go_wp2
 go_ret
 exact ⟨rfl,hb1⟩
set_option maxRecDepth 100000 in
set_option maxHeartbeats 4000000 in
theorem written_text (e:Ev) (h:Value) (w:World) (hs:e.text.length<4294960000):Calls Tryz.prog 52 #[evV e h,.int .u8 120] w (RetB (.string ⟨(wordF e .text).toArray⟩) w):=by
 obtain ⟨h1,hb⟩:=EBlk.one w e h
 unfold evV wordF
 unfold ecells at *
 go_enter Tryz.func52,Tryz.ntmps52
 go_upto_region 1 with fail
 generalize w.alloc _=W at *
 have c7:=h1.c7
 have hlt:=h1.lt
 have hR:=fun W=>WordL e.text W hs
 generalize wr e.text=wd at *
 clear h1
 go_wp2_with (go_at_call 87;refine (hR _).mono ?_)
 rintro e1 W1 ⟨rfl,b1⟩
 have hb1:=hb.trans (b1.mono (Nat.le_of_lt hlt))
 clear hR b1 hb
 go_wp2
 go_ret
 exact ⟨rfl,hb1⟩
set_option maxRecDepth 100000 in
set_option maxHeartbeats 4000000 in
theorem written_note (e:Ev) (h:Value) (w:World) (hs:e.note.length<4294960000):Calls Tryz.prog 52 #[evV e h,.int .u8 109] w (RetB (.string ⟨(wordF e .note).toArray⟩) w):=by
 obtain ⟨h1,hb⟩:=EBlk.one w e h
 unfold evV wordF
 unfold ecells at *
 go_enter Tryz.func52,Tryz.ntmps52
 go_upto_region 1 with fail
 generalize w.alloc _=W at *
 have c2:=h1.c2
 have hlt:=h1.lt
 have hR:=fun W=>WordL e.note W hs
 generalize wr e.note=wd at *
 clear h1
 go_wp2_with (go_at_call 87;refine (hR _).mono ?_)
 rintro e1 W1 ⟨rfl,b1⟩
 have hb1:=hb.trans (b1.mono (Nat.le_of_lt hlt))
 clear hR b1 hb
 go_wp2
 go_ret
 exact ⟨rfl,hb1⟩
set_option maxRecDepth 100000 in
set_option maxHeartbeats 4000000 in
theorem written_num (e:Ev) (h:Value) (w:World) (h1 : -1000000000<e.n) (h2:e.n<1000000000):Calls Tryz.prog 52 #[evV e h,.int .u8 110] w (RetB (.string ⟨(wordF e .num).toArray⟩) w):=by
 obtain ⟨hE,hb⟩:=EBlk.one w e h
 unfold evV wordF
 unfold ecells at *
 go_enter Tryz.func52,Tryz.ntmps52
 go_upto_region 1 with fail
 generalize w.alloc _=W at *
 have c9:=hE.c9
 have hlt:=hE.lt
 have hR:=fun W=>Num_ok e.n W h1 h2
 generalize Lib.itoa e.n=wd at *
 clear hE h1 h2
 go_wp2_with (go_at_call 88;refine (hR _).mono ?_)
 rintro e1 W1 ⟨rfl,b1⟩
 have hb1:=hb.trans (b1.mono (Nat.le_of_lt hlt))
 clear hR b1 hb
 go_wp2
 go_ret
 exact ⟨rfl,hb1⟩
set_option maxRecDepth 100000 in
set_option maxHeartbeats 4000000 in
theorem written_base (e:Ev) (h:Value) (w:World) (h1 : -1000000000<e.base) (h2:e.base<1000000000):Calls Tryz.prog 52 #[evV e h,.int .u8 98] w (RetB (.string ⟨(wordF e .base).toArray⟩) w):=by
 obtain ⟨hE,hb⟩:=EBlk.one w e h
 unfold evV wordF
 unfold ecells at *
 go_enter Tryz.func52,Tryz.ntmps52
 go_upto_region 1 with fail
 generalize w.alloc _=W at *
 have c8:=hE.c8
 have hlt:=hE.lt
 have hR:=fun W=>Num_ok e.base W h1 h2
 generalize Lib.itoa e.base=wd at *
 clear hE h1 h2
 go_wp2_with (go_at_call 88;refine (hR _).mono ?_)
 rintro e1 W1 ⟨rfl,b1⟩
 have hb1:=hb.trans (b1.mono (Nat.le_of_lt hlt))
 clear hR b1 hb
 go_wp2
 go_ret
 exact ⟨rfl,hb1⟩
set_option maxRecDepth 100000 in
set_option maxHeartbeats 4000000 in
theorem written_title (e:Ev) (h:Value) (w:World) (hs:e.tN.length<4294960000):Calls Tryz.prog 52 #[evV e h,.int .u8 116] w (RetB (.string ⟨(wordF e .title).toArray⟩) w):=by
 obtain ⟨h1,hb⟩:=EBlk.one w e h
 unfold evV wordF
 unfold ecells at *
 go_enter Tryz.func52,Tryz.ntmps52
 go_upto_region 1 with fail
 generalize w.alloc _=W at *
 have c3:=h1.c3
 have c4:=h1.c4
 have hlt:=h1.lt
 have hT:=fun W=>tfmtL e.tSp e.tN W hs
 have hl:=fmt_len2 e.tSp e.tN
 generalize fmt e.tSp e.tN=ft at *
 have hR:=fun W=>WordL ft W (by omega)
 generalize wr ft=wd at *
 clear h1
 go_wp2_with (go_at_call 24;refine (hT _).mono ?_)
 rintro e1 W1 ⟨rfl,b1⟩
 have hb0:=hb.trans (b1.mono (Nat.le_of_lt hlt))
 clear hT b1 hb
 go_wp2_with (go_at_call 87;refine (hR _).mono ?_)
 rintro e2 W2 ⟨rfl,b2⟩
 have hb1:=hb0.trans (b2.mono hb0.size)
 clear hR b2 hb0
 go_wp2
 go_ret
 exact ⟨rfl,hb1⟩
set_option maxRecDepth 100000 in
set_option maxHeartbeats 4000000 in
theorem written_to (e:Ev) (h:Value) (w:World) (hs:e.oN.length<4294960000):Calls Tryz.prog 52 #[evV e h,.int .u8 111] w (RetB (.string ⟨(wordF e .to).toArray⟩) w):=by
 obtain ⟨h1,hb⟩:=EBlk.one w e h
 unfold evV wordF
 unfold ecells at *
 go_enter Tryz.func52,Tryz.ntmps52
 go_upto_region 1 with fail
 generalize w.alloc _=W at *
 have c5:=h1.c5
 have c6:=h1.c6
 have hlt:=h1.lt
 have hT:=fun W=>tfmtL e.oSp e.oN W hs
 have hl:=fmt_len2 e.oSp e.oN
 generalize fmt e.oSp e.oN=ft at *
 have hR:=fun W=>WordL ft W (by omega)
 generalize wr ft=wd at *
 clear h1
 go_wp2_with (go_at_call 24;refine (hT _).mono ?_)
 rintro e1 W1 ⟨rfl,b1⟩
 have hb0:=hb.trans (b1.mono (Nat.le_of_lt hlt))
 clear hT b1 hb
 go_wp2_with (go_at_call 87;refine (hR _).mono ?_)
 rintro e2 W2 ⟨rfl,b2⟩
 have hb1:=hb0.trans (b2.mono hb0.size)
 clear hR b2 hb0
 go_wp2
 go_ret
 exact ⟨rfl,hb1⟩
def jn (l:List Rev):Bs:=Lib.join (l.map fun r=>wr r.text) [32]
theorem jn_succ (l:List Rev) (k:Nat) (hk:k<l.length):jn (l.take (k+1))=(if k=0 then [] else jn (l.take k) ++ [32]) ++ wr (rv l k).text:=by
 unfold jn
 rw [List.take_succ_eq_append_getElem hk,List.map_append,List.map_singleton]
 have hr:l[k]=rv l k:=by unfold rv;rw [List.getD_eq_getElem?_getD,List.getElem?_eq_getElem hk];rfl
 rw [hr]
 by_cases h0:k=0
 ·subst h0
  rw [if_pos rfl,List.take_zero];exact Lib.join_one _ _
 ·rw [if_neg h0]
  obtain ⟨p,ps,hp⟩:∃ p ps,(l.take k).map (fun r=>wr r.text)=p :: ps:=by
   cases hq:(l.take k).map (fun r=>wr r.text) with
   | nil =>
    have h1:=congrArg List.length hq
    rw [List.length_map,List.length_take,List.length_nil] at h1
    omega
   | cons p ps=>exact ⟨p,ps,rfl⟩
  rw [hp,List.cons_append,Lib.join_cons,Lib.join_cons]
  simp [Lib.joinTail]
theorem jn_mono (l:List Rev):∀ (k:Nat),(jn (l.take k)).length≤(jn l).length:=by
 intro k
 unfold jn
 cases l with
 | nil=>simp
 | cons r l =>
  cases k with
  | zero=>exact Nat.zero_le _
  | succ k =>
   rw [List.take_succ_cons,List.map_cons,List.map_cons,Lib.join_cons,Lib.join_cons,List.length_append,List.length_append,List.map_take]
   have:=Lib.joinTail_take_le [32] (l.map fun r=>wr r.text) k
   omega
structure WrR (w wr:World) (e:Ev) (h:Value):Prop where
 below:Below w.heap.size w wr
 evt:EBlk wr w.heap.size e h
set_option maxRecDepth 100000 in
set_option maxHeartbeats 8000000 in
theorem written_many (e:Ev) (A:Option Addr) (c:Nat) (w:World) (hmx:e.hist.length≤4294967296) (hht:∀ i,(rv e.hist i).text.length<4294960000) (hA:HRd w A e.hist) (hT:(jn e.hist).length<4294960000):Calls Tryz.prog 52 #[evV e (.slice A e.hist.length c),.int .u8 104] w (RetB (.string ⟨(jn e.hist).toArray⟩) w):=by
 obtain ⟨h1,hb⟩:=EBlk.one w e (.slice A e.hist.length c)
 have hR:=fun i W=>WordL (rv e.hist i).text W (hht i)
 have hjs:=fun k hk=>jn_succ e.hist k hk
 have hjm:=fun k=>jn_mono e.hist k
 unfold evV
 unfold ecells at *
 go_enter Tryz.func52,Tryz.ntmps52
 go_upto_region 1 with fail
 generalize hW:w.alloc _=W at *
 have h0:WrR w W e (.slice A e.hist.length c):=⟨hb,h1⟩
 clear hW h1 hb
 generalize hn:e.hist.length=n at *
 have HN:=Lib.hid hn
 clear hn
 go_wp2
 go_loopw [5,6] (fun v i wr=>∃ k:Nat,k≤n∧i=.int .i64 k∧v=.string ⟨(jn (e.hist.take k)).toArray⟩∧WrR w wr e (.slice A n c)) (fun _ i _=>n - (intOf i).toNat)
 case atStart=>exact ⟨0,Nat.zero_le _,rfl,rfl,h0⟩
 case round =>
  obtain ⟨k,hk,rfl,rfl,hI⟩:=hrel
  have c10:=hI.evt.c10
  have hlt:=hI.evt.lt
  by_cases hkn:k<n
  ·obtain ⟨g,o,rfl,hgl,hra⟩:=hA k (by rw [HN.out];exact hkn)
   have hra:=hra.keep (hI.below.block g hgl)
   have d3:=hra.c3
   have hRk:=fun W=>hR k W
   have hst:=hjs k hkn
   have hm0:=hjm k
   have hm1:=hjm (k+1)
   have hj0:k=0→jn (e.hist.take k)=[]:=fun h=>by subst h;rfl
   have hlt3:=Nat.lt_of_lt_of_le hgl hI.below.size
   clear hra hR hjs hjm hA h0
   generalize (rv e.hist k).text=tx at *
   generalize Sp.wr tx=wd at *
   generalize jn (e.hist.take k)=jk at *
   generalize hjk1:jn (e.hist.take (k+1))=jk1 at *
   have HJ1:=Lib.hid hjk1
   clear hjk1
   have hwl:wd.length≤jk1.length:=by
    rw [hst,List.length_append];omega
   have hz1:(⟨jk.toArray⟩:ByteArray).size≤4294960000:=by rw [lsize];omega
   have hz2:(⟨wd.toArray⟩:ByteArray).size≤4294960000:=by rw [lsize];omega
   by_cases h0:k=0
   ·have hc:(⟨jk.toArray⟩:ByteArray) ++ ⟨wd.toArray⟩=⟨jk1.toArray⟩:=by rw [cat_eq,hst,if_pos h0,hj0 h0]
    have HC:=Lib.hid hc
    have hk0:¬ 0<(k:Int):=by omega
    clear hst hj0 hc hwl hm0 hm1 h0
    generalize (⟨jk.toArray⟩:ByteArray)=J at *
    go_wp2_with (go_at_call 87;refine (hRk _).mono ?_)
    rintro e1 W1 ⟨rfl,b1⟩
    have hI1:WrR w W1 e (.slice (some ⟨g,o,none⟩) n c):=⟨hI.below.trans (b1.mono hI.below.size),hI.evt.below hlt b1⟩
    clear hRk b1 hI
    generalize (⟨wd.toArray⟩:ByteArray)=D at *
    go_wp2
    go_roundw
    case rel=>exact ⟨k+1,by omega,by go_num,by rw [HC.out,HJ1.out],hI1⟩
    case measure=>simp [intOf];omega
   ·have hc:(⟨jk.toArray⟩:ByteArray) ++ ⟨#[32]⟩ ++ ⟨wd.toArray⟩=⟨jk1.toArray⟩:=by
     rw [show (⟨jk.toArray⟩:ByteArray) ++ ⟨#[32]⟩=⟨(jk ++ [32]).toArray⟩ from cat_eq jk [32],cat_eq,hst,if_neg h0]
    have HC:=Lib.hid hc
    have hk0:0<(k:Int):=by omega
    clear hst hj0 hc hwl hm0 hm1 h0
    generalize (⟨jk.toArray⟩:ByteArray)=J at *
    go_wp2_with (go_at_call 87;refine (hRk _).mono ?_)
    rintro e1 W1 ⟨rfl,b1⟩
    have hI1:WrR w W1 e (.slice (some ⟨g,o,none⟩) n c):=⟨hI.below.trans (b1.mono hI.below.size),hI.evt.below hlt b1⟩
    clear hRk b1 hI
    generalize (⟨wd.toArray⟩:ByteArray)=D at *
    go_wp2
    go_roundw
    case rel=>exact ⟨k+1,by omega,by go_num,by rw [HC.out,HJ1.out],hI1⟩
    case measure=>simp [intOf];omega
  ·obtain rfl:k=n:=by omega
   have HE:=Lib.hid (show jn (e.hist.take k)=jn e.hist by rw [List.take_of_length_le (by rw [HN.out];exact Nat.le_refl _)])
   have hb:=hI.below
   clear hI hR hjs hjm hA
   go_wp2
   go_ret
   exact ⟨by rw [← HE.out];rfl,hb⟩
end Go.Proofs
