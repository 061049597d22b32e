/- A part of the proof: Wy, Wz, Gj, Mc, Rw, Me -/
import Derived.Test.YtimfnccfnefajaaGreatDoorVWi
import Derived.Test.YtimfnccfnefajaaGreatDoorVWj
import Derived.Test.YtimfnccfnefajaaGreatDoorVWk
import Derived.Test.YtimfnccfnefajaaGreatDoorVMb
import Derived.Laws.OwnMore
import Derived.Test.YtimfnccfnefajaaGreatDoorVRf
import Derived.Test.YtimfnccfnefajaaGreatDoorVMa
import Derived.Test.YtimfnccfnefajaaGreatDoorVRh
import Derived.Test.YtimfnccfnefajaaGreatDoorVRg
import Derived.Test.YtimfnccfnefajaaGreatDoorVRe
import Derived.Test.YtimfnccfnefajaaGreatDoorVRd
import Derived.Test.YtimfnccfnefajaaGreatDoorVRa
import Derived.Test.YtimfnccfnefajaaGreatDoorVWh
import Derived.Test.YtimfnccfnefajaaGreatDoorVWg
import Derived.Test.YtimfnccfnefajaaGreatDoorVWf
import Derived.Test.YtimfnccfnefajaaGreatDoorVWe
import Derived.Test.YtimfnccfnefajaaGreatDoorVWd
import Derived.Test.YtimfnccfnefajaaGreatDoorVWc
import Derived.Test.YtimfnccfnefajaaGreatDoorVWa
import Derived.Test.YtimfnccfnefajaaGreatDoorVWb
import Derived.Test.YtimfnccfnefajaaGreatDoorVRc
import Derived.Test.YtimfnccfnefajaaGreatDoorVRb
import Derived.Test.YtimfnccfnefajaaGreatDoorVWl
import Derived.Test.YtimfnccfnefajaaGreatDoorVWn
import Derived.Test.YtimfnccfnefajaaGreatDoorVWm
set_option linter.unusedSimpArgs false
set_option linter.unusedVariables false
namespace Go.Proofs
open Go.RowKit Go.Sp
set_option maxRecDepth 100000 in
set_option maxHeartbeats 4000000 in
theorem same_revs (A B:Option Addr) (c d:Nat) (l m:List Rev) (w:World) (hmx:l.length≤9223372036854775807) (hA:HRd w A l) (hB:HRd w B m):Calls Tryz.prog 45 #[.slice A l.length c,.slice B m.length d] w (RetB (.bool (decide (l=m))) w):=by
 by_cases hlen:l.length=m.length
 ·have hne:∀ k,k<l.length→rv l k≠rv m k→decide (l=m)=false:=fun k _ h=>by
   rw [decide_eq_false_iff_not];rintro rfl;exact h rfl
  have heq:(∀ i,i<l.length→rv l i=rv m i)→decide (l=m)=true:=fun h=>by
   rw [decide_eq_true_iff];exact rev_ext hlen h
  generalize decide (l=m)=r at *
  have HNE:=Lib.hid hne
  have HEQ:=Lib.hid heq
  clear hne heq
  go_enter Tryz.func45,Tryz.ntmps45
  generalize hn:l.length=n at *
  generalize hn2:m.length=n2 at *
  subst hlen
  have HN:=Lib.hid hn
  have HN2:=Lib.hid hn2
  clear hn hn2
  go_wp2
  go_loopw [5] (fun i wr=>∃ (k:Nat),k≤n∧i=.int .i64 k∧Below w.heap.size w wr∧∀ i,i<k→rv l i=rv m i) (fun i _=>n - (intOf i).toNat)
  case atStart=>exact ⟨0,Nat.zero_le _,rfl,Below.refl _ _,fun i hi=>by omega⟩
  case round =>
   obtain ⟨k,hk,rfl,hW,hx⟩:=hrel
   by_cases hkn:k<n
   ·obtain ⟨g,o,rfl,hg,hra⟩:=hA k (by rw [HN.out];exact hkn)
    obtain ⟨g',o',rfl,hg',hrb⟩:=hB k (by rw [HN2.out];exact hkn)
    have hra:=hra.keep (hW.block g hg)
    have hrb:=hrb.keep (hW.block g' hg')
    have hbad:=fun h=>HNE.out k hkn h
    have hgood:rv l k=rv m k→∀ i,i<k+1→rv l i=rv m i:=fun h i hi=>by
     by_cases hik:i<k
     ·exact hx i hik
     ·rw [show i=k from by omega];exact h
    have HB:=Lib.hid hbad
    have HG:=Lib.hid hgood
    clear hbad hgood hx hA hB
    generalize rv l k=ra at *
    generalize rv m k=rb at *
    obtain ⟨a0,a1,a2,a3,a4,a5⟩:=hra
    obtain ⟨b0,b1,b2,b3,b4,b5⟩:=hrb
    rcases rev_cases ra rb with rfl | ⟨hne,hcs⟩
    ·have HG2:=Lib.hid (HG.out rfl)
     clear HG HB
     go_wp2
     go_region
     go_wp2
     go_roundw
     case rel=>exact ⟨k+1,by omega,by go_num,hW.drew,HG2.out⟩
     case measure=>simp [intOf];omega
    ·have HR:=Lib.hid (HB.out hne)
     clear HG HB hne
     rcases hcs with q1 | ⟨q1,q2⟩ | ⟨q1,q2,q3⟩ | ⟨q1,q2,q3,q4⟩ | ⟨q1,q2,q3,q4,q5⟩ | ⟨q1,q2,q3,q4,q5,q6⟩
     all_goals
      go_wp2
      go_region
      go_wp2
      go_ret
      exact ⟨by rw [HR.out];rfl,hW.drew⟩
   ·have hkn2:k=n:=by omega
    subst hkn2
    have HR:=Lib.hid (HEQ.out hx)
    clear hx hA hB
    go_wp2
    go_ret
    exact ⟨by rw [HR.out];rfl,hW⟩
 ·have hr:decide (l=m)=false:=by rw [decide_eq_false_iff_not];rintro rfl;exact hlen rfl
  rw [hr]
  go_enter Tryz.func45,Tryz.ntmps45
  generalize l.length=n at *
  generalize m.length=n2 at *
  have hn:¬ (n:Int)=n2:=by omega
  clear hr hA hB hmx
  go_wp2
  go_ret
  exact ⟨rfl,Below.refl _ _⟩
end Go.Proofs
namespace Go.Proofs
open Go.RowKit Go.Sp
set_option maxRecDepth 100000 in
set_option maxHeartbeats 4000000 in
theorem event_same (a b:Ev) (A B:Option Addr) (c d:Nat) (w:World) (hmx:a.hist.length≤9223372036854775807) (hA:HRd w A a.hist) (hB:HRd w B b.hist):Calls Tryz.prog 21 #[evV a (.slice A a.hist.length c),evV b (.slice B b.hist.length d)] w (RetB (.bool (decide (a=b))) w):=by
 obtain ⟨h1,h2,hb⟩:=EBlk.two w a b (.slice A a.hist.length c) (.slice B b.hist.length d)
 have hE:=same_revs A B c d a.hist b.hist _ hmx (hA.below hb) (hB.below hb)
 unfold evV
 unfold ecells at *
 go_enter Tryz.func21,Tryz.ntmps21
 go_upto_region 1 with fail
 generalize (w.alloc _).alloc _=W at *
 clear hA hB hmx
 have a0:=h1.c0
 have a1:=h1.c1
 have a2:=h1.c2
 have a3:=h1.c3
 have a4:=h1.c4
 have a5:=h1.c5
 have a6:=h1.c6
 have a7:=h1.c7
 have a8:=h1.c8
 have a9:=h1.c9
 have a10:=h1.c10
 have b0:=h2.c0
 have b1:=h2.c1
 have b2:=h2.c2
 have b3:=h2.c3
 have b4:=h2.c4
 have b5:=h2.c5
 have b6:=h2.c6
 have b7:=h2.c7
 have b8:=h2.c8
 have b9:=h2.c9
 have b10:=h2.c10
 have hp:=h1.lt
 clear h1 h2
 generalize hP:w.heap.size=p at *
 have HP:=Lib.hid hP
 clear hP
 rcases ev_cases a b with rfl | ⟨hne,hcs⟩
 ·have HD:=Lib.hid (show decide (a=a)=true by simp)
  go_wp2_with (go_at_call 45;refine hE.mono ?_)
  rintro e W1 ⟨rfl,b1'⟩
  have hb2:=hb.trans (b1'.mono (Nat.le_of_lt hp))
  have hd:decide (a.hist=a.hist)=true:=by simp
  clear hE b1' hb
  go_wp2
  go_ret
  exact ⟨by rw [HD.out];simp,by rw [HP.out];exact hb2⟩
 ·have HD:=Lib.hid (decide_eq_false hne)
  clear hne
  rcases hcs with q1 | ⟨q1,q2⟩ | ⟨q1,q2,q3⟩ | ⟨q1,q2,q3,q4⟩ | ⟨q1,q2,q3,q4,q5⟩ | ⟨q1,q2,q3,q4,q5,q6⟩ | ⟨q1,q2,q3,q4,q5,q6,q7⟩ | ⟨q1,q2,q3,q4,q5,q6,q7,q8⟩ | ⟨q1,q2,q3,q4,q5,q6,q7,q8,q9⟩ | ⟨q1,q2,q3,q4,q5,q6,q7,q8,q9,q10⟩ | ⟨q1,q2,q3,q4,q5,q6,q7,q8,q9,q10,q11⟩
  case inr.inr.inr.inr.inr.inr.inr.inr.inr.inr.inr =>
   have hd:=decide_eq_false q11
   rw [hd] at hE
   clear q11 hd
   go_wp2_with (go_at_call 45;refine hE.mono ?_)
   rintro e W1 ⟨rfl,b1'⟩
   have hb2:=hb.trans (b1'.mono (Nat.le_of_lt hp))
   clear hE b1' hb
   go_wp2
   go_ret
   exact ⟨by rw [HD.out];rfl,by rw [HP.out];exact hb2⟩
  all_goals
   clear hE
   go_wp2
   go_ret
   exact ⟨by rw [HD.out];first | rfl | exact congrArg (fun x=>Ending.returned (Value.bool x)) (beq_eq_false_iff_ne.2 (by assumption)),by rw [HP.out];exact hb⟩
end Go.Proofs
namespace Go.Proofs
open Go.RowKit Go.Sp
theorem pcells_at:∀ (ps:List (Ev×Value)) (i j:Nat),i<ps.length→j<11→(pcells ps)[i * 11+j]? = (ecells (pv ps i).1 (pv ps i).2).toList[j]?
 | [],_,_,h,_=>by cases h
 | p :: ps,0,j,_,hj=>by
  rw [Nat.zero_mul,Nat.zero_add]
  show ((ecells p.1 p.2).toList ++ pcells ps)[j]? = _
  rw [List.getElem?_append_left (by simpa [ecells] using hj)];rfl
 | p :: ps,i+1,j,h,hj=>by
  show ((ecells p.1 p.2).toList ++ pcells ps)[(i+1) * 11+j]? = _
  have hlen:(ecells p.1 p.2).toList.length=11:=rfl
  rw [List.getElem?_append_right (by rw [hlen];omega),hlen,show (i+1) * 11+j - 11=i * 11+j from by omega,pcells_at ps i j (by simpa using h) hj]
  rfl
theorem evs_rd {w:World} {base:Nat} {A:Option Addr} {m c:Nat} {ps:List (Ev×Value)} (h:EvsOwn w base (.slice A m c) ps):m=ps.length∧EvsRd w A ps:=by
 rcases h.row.2 with ⟨hv,hn⟩ | ⟨g,cap,cur,hv,hb,hg,hr⟩
 ·injection hv with h1 h2 h3
  exact ⟨by omega,fun i hi=>by omega⟩
 ·injection hv with h1 h2 h3
  subst h1 h2
  have hc:=h.row.cells (g:=g) rfl
  have hadd:∀ j,(⟨g,0,none⟩:Addr).add j=⟨g,j,none⟩:=fun j=>by unfold Addr.add;split <;> simp_all
  refine ⟨rfl,fun i hi=>?_⟩
  have hm:pv ps i∈ps:=by
   unfold pv
   rw [List.getD_eq_getElem?_getD,List.getElem?_eq_getElem hi]
   exact List.getElem_mem hi
  have ho:=h.hist _ hm
  obtain ⟨B,m,d,hv⟩:=owns_slice ho
  rw [hv] at ho
  obtain ⟨rfl,hB⟩:=owns_rd ho
  have hx:∀ j u,j<11→(ecells (pv ps i).1 (pv ps i).2).toList[j]? = some u→w.cell? ⟨g,i * 11+j,none⟩=some u:=fun j u hj hu=>by
   rw [← hadd];exact hc _ _ ((pcells_at ps i j hi hj).trans hu)
  refine ⟨g,0,B,d,rfl,(Array.getElem?_eq_some_iff.1 hg).1,hv,?_,hB,owns_max ho⟩
  rw [Nat.zero_add,← hv]
  exact ⟨hx 0 _ (by decide) rfl,hx 1 _ (by decide) rfl,hx 2 _ (by decide) rfl,hx 3 _ (by decide) rfl,hx 4 _ (by decide) rfl,hx 5 _ (by decide) rfl,hx 6 _ (by decide) rfl,hx 7 _ (by decide) rfl,hx 8 _ (by decide) rfl,hx 9 _ (by decide) rfl,hx 10 _ (by decide) rfl⟩
theorem pair_ext {a b:List (Ev×Value)} (h:a.length=b.length) (hx:∀ i,i<a.length→(pv a i).1=(pv b i).1):a.map (·.1)=b.map (·.1):=by
 refine List.ext_getElem (by simpa using h) fun i h1 h2=>?_
 have h1':i<a.length:=by simpa using h1
 have h2':i<b.length:=by simpa using h2
 have:=hx i h1'
 unfold pv at this
 rw [List.getD_eq_getElem?_getD,List.getD_eq_getElem?_getD,List.getElem?_eq_getElem h1',List.getElem?_eq_getElem h2'] at this
 simpa using this
theorem pair_at {a:List (Ev×Value)} {i:Nat} (h:i<a.length):(a.map (·.1))[i]? = some (pv a i).1:=by
 unfold pv
 rw [List.getElem?_map,List.getD_eq_getElem?_getD,List.getElem?_eq_getElem h];rfl
set_option maxRecDepth 100000 in
set_option maxHeartbeats 4000000 in
theorem same_events (A B:Option Addr) (c d:Nat) (l m:List (Ev×Value)) (w:World) (hmx:l.length≤9223372036854775807) (hA:EvsRd w A l) (hB:EvsRd w B m):Calls Tryz.prog 22 #[.slice A l.length c,.slice B m.length d] w (RetB (.bool (decide (l.map (·.1)=m.map (·.1)))) w):=by
 by_cases hlen:l.length=m.length
 ·have hne:∀ k,k<l.length→(pv l k).1≠(pv m k).1→decide (l.map (·.1)=m.map (·.1))=false:=fun k hk h=>by
   rw [decide_eq_false_iff_not]
   intro hq
   have h1:=pair_at hk
   rw [hq,pair_at (by omega)] at h1
   exact h (Option.some.inj h1).symm
  have heq:(∀ i,i<l.length→(pv l i).1=(pv m i).1)→decide (l.map (·.1)=m.map (·.1))=true:=fun h=>by
   rw [decide_eq_true_iff];exact pair_ext hlen h
  generalize decide (l.map (·.1)=m.map (·.1))=r at *
  have HNE:=Lib.hid hne
  have HEQ:=Lib.hid heq
  clear hne heq
  go_enter Tryz.func22,Tryz.ntmps22
  generalize hn:l.length=n at *
  generalize hn2:m.length=n2 at *
  subst hlen
  have HN:=Lib.hid hn
  have HN2:=Lib.hid hn2
  clear hn hn2
  go_wp2
  go_loopw [5] (fun i wr=>∃ (k:Nat),k≤n∧i=.int .i64 k∧Below w.heap.size w wr∧∀ i,i<k→(pv l i).1=(pv m i).1) (fun i _=>n - (intOf i).toNat)
  case atStart=>exact ⟨0,Nat.zero_le _,rfl,Below.refl _ _,fun i hi=>by omega⟩
  case round =>
   obtain ⟨k,hk,rfl,hW,hx⟩:=hrel
   by_cases hkn:k<n
   ·obtain ⟨g,o,B1,d1,rfl,hg,_,hra,hb1,hm1⟩:=hA k (by rw [HN.out];exact hkn)
    obtain ⟨g',o',B2,d2,rfl,hg',_,hrb,hb2,_⟩:=hB k (by rw [HN2.out];exact hkn)
    have hra:=hra.keep (hW.block g hg)
    have hrb:=hrb.keep (hW.block g' hg')
    have hS:=fun W (x:Below w.heap.size w W)=>event_same (pv l k).1 (pv m k).1 B1 B2 d1 d2 W hm1 (hb1.below x) (hb2.below x)
    have hbad:=fun h=>HNE.out k hkn h
    have hgood:(pv l k).1=(pv m k).1→∀ i,i<k+1→(pv l i).1=(pv m i).1:=fun h i hi=>by
     by_cases hik:i<k
     ·exact hx i hik
     ·rw [show i=k from by omega];exact h
    have HB:=Lib.hid hbad
    have HG:=Lib.hid hgood
    clear hbad hgood hx hA hB hb1 hb2 hm1
    generalize (pv l k).1=ra at *
    generalize (pv m k).1=rb at *
    obtain ⟨a0,a1,a2,a3,a4,a5,a6,a7,a8,a9,a10⟩:=hra
    obtain ⟨b0,b1,b2,b3,b4,b5,b6,b7,b8,b9,b10⟩:=hrb
    have hS2:=hS wr.drew hW.drew
    unfold evV ecells at hS2
    clear hS
    by_cases hab:ra=rb
    ·have HG2:=Lib.hid (HG.out hab)
     rw [decide_eq_true hab] at hS2
     clear HG HB hab
     go_wp2
     go_region_with (go_at_call 21;refine hS2.mono ?_;rintro e W1 ⟨rfl,b1⟩;have hW1:=hW.drew.trans (b1.mono hW.size))
     all_goals
      clear hS2 hW
      go_wp2
      go_roundw
      case rel=>exact ⟨k+1,by omega,by go_num,hW1,HG2.out⟩
      case measure=>simp [intOf];omega
    ·have HR:=Lib.hid (HB.out hab)
     rw [decide_eq_false hab] at hS2
     clear HG HB hab
     go_wp2
     go_region_with (go_at_call 21;refine hS2.mono ?_;rintro e W1 ⟨rfl,b1⟩;have hW1:=hW.drew.trans (b1.mono hW.size))
     all_goals
      clear hS2 hW
      go_wp2
      go_ret
      exact ⟨by rw [HR.out];rfl,hW1⟩
   ·have hkn2:k=n:=by omega
    subst hkn2
    have HR:=Lib.hid (HEQ.out hx)
    clear hx hA hB
    go_wp2
    go_ret
    exact ⟨by rw [HR.out];rfl,hW⟩
 ·have hr:decide (l.map (·.1)=m.map (·.1))=false:=by rw [decide_eq_false_iff_not];intro h;exact hlen (by simpa using congrArg List.length h)
  rw [hr]
  go_enter Tryz.func22,Tryz.ntmps22
  generalize l.length=n at *
  generalize m.length=n2 at *
  have hn:¬ (n:Int)=n2:=by omega
  clear hr hA hB hmx
  go_wp2
  go_ret
  exact ⟨rfl,Below.refl _ _⟩
end Go.Proofs
namespace Go.Proofs
open Go.RowKit Go.Sp
theorem joinR_len (a:List Ev) (r:List Ev×Int×Int):(joinR a r).1.length≤a.length+r.1.length:=by
 obtain ⟨es,n,k⟩:=r
 unfold joinR
 split <;> simp
theorem linesS_len:∀ (ls:List Bs) (i:Nat),(linesS i ls).1.length≤ls.length
 | [],_=>Nat.le_refl _
 | l :: ls,i=>by
  by_cases h:isNote l
  ·rw [linesS_note h];exact Nat.le_succ_of_le (linesS_len ls (i+1))
  ·cases h2:lineS l with
   | none=>rw [linesS_bad h h2];exact Nat.zero_le _
   | some e =>
    rw [linesS_good h h2]
    have:=joinR_len [e] (linesS (i+1) ls)
    have:=linesS_len ls (i+1)
    simp only [List.length_cons,List.length_nil] at *
    omega
theorem parseS_len (s:Bs):(parseS s).1.length≤400:=by
 unfold parseS
 split
 ·exact Nat.zero_le _
 ·have:=linesS_len (bodyOf s) 0
  omega
theorem EvsOwn.one {w:World} {base:Nat} {v:Value} {ps:List (Ev×Value)} (h:EvsOwn w base v ps):∀ u∈pcells ps,u.oneCell'=true:=by
 intro u hu
 unfold pcells at hu
 obtain ⟨p,hp,hu⟩:=List.mem_flatMap.1 hu
 obtain ⟨A,m,c,hv⟩:=owns_slice (h.hist p hp)
 exact one_ecells p.1 p.2 (by rw [hv];rfl) u hu
end Go.Proofs
namespace Go.Proofs
open Go.RowKit Go.Sp
def bodyB (s:Bs):List Bs:=if s=[]∨s.getLast? = some 10 then (splitL 10 s).dropLast else splitL 10 s
theorem parseS_ref (s:Bs):parseS s=if 32768<s.length∨400<(bodyB s).length then ([],0,3) else linesS 0 (bodyB s):=by
 unfold parseS
 by_cases h0:s=[]
 ·subst h0;decide +kernel
 ·by_cases h1:s.getLast? = some 10
  ·obtain ⟨t,ht⟩:=List.getLast?_eq_some_iff.1 h1
   have e:bodyB s=bodyOf s:=by
    unfold bodyB bodyOf
    rw [if_pos (.inr h1),ht,trim_end,splitL_snoc_hit,List.dropLast_concat]
   rw [e]
  ·have e:bodyB s=bodyOf s:=by
    unfold bodyB bodyOf
    rw [if_neg (fun h=>h.elim h0 h1),trim_none h1]
   rw [e]
theorem linesS_nil' (k:Nat) (es:List Ev):joinR es (linesS k [])=(es,0,0):=by unfold linesS joinR;simp
set_option maxRecDepth 100000 in
set_option maxHeartbeats 8000000 in
theorem ParseR_ok (s:ByteArray) (w:World) (hs:s.size<2147480000):Calls Tryz.prog 29 #[.string s] w (RetP s.data.toList w):=by
 obtain ⟨i0,hi,hz0,hz1,hz2⟩:=info_parts info33
 have hSp:=fun W=>splitR_ok s 10 W hs
 have hP:=parseS_ref s.data.toList
 rw [← size_len] at hP
 obtain ⟨bb,hbb⟩:∃ bb:Bool,bb=(s.data.toList.isEmpty || s.data.toList.getLast? == some 10):=⟨_,rfl⟩
 have hbod:bodyB s.data.toList=if bb=true then (splitL 10 s.data.toList).dropLast else splitL 10 s.data.toList:=by
  unfold bodyB
  rw [hbb]
  by_cases h:s.data.toList=[]∨s.data.toList.getLast? = some 10
  ·rw [if_pos h,if_pos]
   rcases h with h | h
   ·rw [h];rfl
   ·rw [h];simp
  ·rw [if_neg h,if_neg]
   intro h2
   apply h
   rw [Bool.or_eq_true,List.isEmpty_iff,beq_iff_eq] at h2
   exact h2
 have hLn:=splitL_len 10 s.data.toList
 rw [← size_len] at hLn
 have hLj:=splitL_at 10 s.data.toList
 rw [← size_len] at hLj
 have hLp:0<(splitL 10 s.data.toList).length:=by
  obtain ⟨p,ps,hp⟩:=splitL_cons 10 s.data.toList
  rw [hp];exact Nat.zero_lt_succ _
 have HP:=Lib.hid hP
 have HBB:=Lib.hid hbb
 have HBD:=Lib.hid hbod
 clear hP hbb hbod
 generalize splitL 10 s.data.toList=L0 at *
 change ∀ W,Calls _ _ #[_,.int .u8 10] _ _ at hSp
 go_enter Tryz.func29,Tryz.ntmps29
 go_wp2_with (go_at_call 55;refine (hSp _).mono ?_)
 rintro e W2 ⟨b2,vv,rfl,hown⟩
 obtain ⟨n1,hn1⟩:∃ n1,L0.length=n1+1:=⟨L0.length - 1,by omega⟩
 have hown':=hown
 rw [hn1] at hown'
 obtain ⟨g,cap,rfl,hgb⟩:=owns_succ hown'
 rw [← hn1] at hown' ⊢
 have hcap:=owns_cap hown'
 have hrow0:RowO W2 g 0 L0:=fun j hj=>by
  rw [Nat.zero_add]
  exact (hown'.cellAt j (by omega)).trans (strs_at hj)
 have hgl:=(hown'.lt g rfl).2
 clear hown hown' hSp
 go_upto_region 2 with fail
 go_cut [22] (fun v W=>v=.bool bb∧W=W2)
 case first =>
  by_cases h0:0<s.size
  ·by_cases h10:s[s.size - 1]=10
   ·have f1:((s[s.size - 1].toNat:Int) == 10)=true:=by rw [h10];rfl
    have HQ:=Lib.hid (show bb=true by rw [HBB.out,last_at s h0,h10];simp)
    have hz:((s.size:Int) == 0)=false:=by rw [beq_eq_false_iff_ne];omega
    clear h10
    go_wp2
    go_meet
    exact ⟨by rw [HQ.out],rfl⟩
   ·have f1:((s[s.size - 1].toNat:Int) == 10)=false:=beq_no h10
    have HQ:=Lib.hid (show bb=false by
     rw [HBB.out,last_at s h0]
     have h1:s.data.toList.isEmpty=false:=by
      rw [← ByteArray.toList_eq];exact empty_f h0
     rw [h1]
     simpa using h10)
    have hz:((s.size:Int) == 0)=false:=by rw [beq_eq_false_iff_ne];omega
    clear h10
    go_wp2
    go_meet
    exact ⟨by rw [HQ.out],rfl⟩
  ·have HQ:=Lib.hid (show bb=true by rw [HBB.out,empty_nil h0];rfl)
   have hz:((s.size:Int) == 0)=true:=by rw [beq_iff_eq];omega
   go_wp2
   go_meet
   exact ⟨by rw [HQ.out],rfl⟩
 case rest =>
  obtain ⟨rfl,rfl⟩:=hcut
  go_upto_if 22 with fail
  go_cut [5] (fun v W=>v=.slice (some ⟨g,0,none⟩) (bodyB s.data.toList).length cap∧W=wc)
  case first =>
   cases bb with
   | false =>
    have HQ:=Lib.hid (show bodyB s.data.toList=L0 by rw [HBD.out];rfl)
    go_wp2
    go_meet
    exact ⟨by rw [HQ.out,hn1],rfl⟩
   | true =>
    have HQ:=Lib.hid (show (bodyB s.data.toList).length=n1 by rw [HBD.out,if_pos rfl,List.length_dropLast];omega)
    go_wp2
    go_meet
    exact ⟨by rw [HQ.out],rfl⟩
  case rest =>
   obtain ⟨rfl,rfl⟩:=hcut
   have hrow:RowO wc g 0 (bodyB s.data.toList):=fun j hj=>by
    cases bb with
    | false =>
     have hq:bodyB s.data.toList=L0:=by rw [HBD.out];rfl
     rw [hq] at hj ⊢
     exact hrow0 j hj
    | true =>
     have hq:bodyB s.data.toList=L0.dropLast:=by rw [HBD.out];rfl
     rw [hq,List.length_dropLast] at hj
     rw [hq,List.getD_eq_getElem?_getD,List.getElem?_dropLast,if_pos hj,← List.getD_eq_getElem?_getD]
     exact hrow0 j (by omega)
   have hbl:(bodyB s.data.toList).length≤L0.length:=by
    rw [HBD.out]
    split
    ·rw [List.length_dropLast];omega
    ·exact Nat.le_refl _
   have hbj:∀ j,((bodyB s.data.toList).getD j []).length≤s.size:=fun j=>by
    rw [HBD.out]
    split
    ·rw [List.getD_eq_getElem?_getD,List.getElem?_dropLast]
     split
     ·rw [← List.getD_eq_getElem?_getD];exact hLj j
     ·exact Nat.zero_le _
    ·exact hLj j
   clear HBB HBD hrow0 hLj
   generalize bodyB s.data.toList=L at *
   generalize hn:L.length=n at *
   have HN:=Lib.hid hn
   clear hn
   have HB2:=Lib.hid b2
   clear b2
   by_cases h1:32768<s.size
   ·have hR:parseS s.data.toList=([],0,3):=by rw [HP.out,if_pos (.inl h1)]
    have HR:=Lib.hid hR
    clear hR
    go_wp2
    exact bodyPost_ret (v:=.tuple #[.slice none 0 0,.int .i64 0,.int .i64 3]) (by simp [results,Tryz.results29,go_sem]) rfl ⟨HB2.out,.slice none 0 0,[],EvsOwn.nil _ _,by rw [HR.out],by rw [HR.out];rfl⟩
   ·by_cases h2:400<n
    ·have hR:parseS s.data.toList=([],0,3):=by rw [HP.out,if_pos (.inr h2)]
     have HR:=Lib.hid hR
     clear hR
     go_wp2
     exact bodyPost_ret (v:=.tuple #[.slice none 0 0,.int .i64 0,.int .i64 3]) (by simp [results,Tryz.results29,go_sem]) rfl ⟨HB2.out,.slice none 0 0,[],EvsOwn.nil _ _,by rw [HR.out],by rw [HR.out];rfl⟩
    ·have hR:parseS s.data.toList=linesS 0 L:=by rw [HP.out,if_neg (fun h=>by rcases h with h | h;exact h1 h;exact h2 h)]
     have HR:=Lib.hid hR
     clear hR HP
     go_wp2
     go_loopw [6,7] (fun v i wr=>∃ (k:Nat) (ps:List (Ev×Value)),k≤n∧i=.int .i64 k∧Below wc.heap.size wc wr∧EvsOwn wr wc.heap.size v ps∧ps.length≤k∧linesS 0 L=joinR (ps.map (·.1)) (linesS k (L.drop k))) (fun _ i _=>n - (intOf i).toNat)
     case atStart=>exact ⟨0,[],Nat.zero_le _,rfl,Below.refl _ _,EvsOwn.nil _ _,Nat.le_refl _,by rw [List.drop_zero];exact joinR_nil.symm⟩
     case round =>
      obtain ⟨k,ps,hk,rfl,hW,hE,hpk,hl⟩:=hrel
      have hww:w.heap.size≤wc.heap.size:=HB2.out.size
      by_cases hkn:k<n
      ·rw [drop_at [] (by rw [HN.out];exact hkn)] at hl
       have hc:=(hrow.below hgl hW) k (by rw [HN.out];exact hkn)
       rw [Nat.zero_add] at hc
       have hlk:=hbj k
       generalize L.getD k []=lk at *
       cases lk with
       | nil =>
        rw [linesS_note (.inl rfl)] at hl
        have HL:=Lib.hid hl
        clear hl hi hz0 hz1 hz2 hlk hbj
        go_wp2
        go_roundw
        case rel=>exact ⟨k+1,ps,by omega,by go_num,hW,hE,by omega,HL.out⟩
        case measure=>simp [intOf];omega
       | cons c r =>
        by_cases hc35:c=35
        ·subst hc35
         rw [linesS_note (.inr rfl)] at hl
         have HL:=Lib.hid hl
         clear hl hi hz0 hz1 hz2 hlk hbj
         go_wp2
         go_roundw
         case rel=>exact ⟨k+1,ps,by omega,by go_num,hW,hE,by omega,HL.out⟩
         case measure=>simp [intOf];omega
        ·have hcc:((((⟨(c :: r).toArray⟩:ByteArray)[0]'(Nat.zero_lt_succ _)).toNat:Int) == 35)=false:=beq_no hc35
         have hnn:¬ isNote (c :: r):=by
          intro h
          rcases h with h | h
          ·cases h
          ·exact hc35 (Option.some.inj h)
         have hPar:=line_ok ⟨(c :: r).toArray⟩ wr (by show (c :: r).length<_;omega)
         change Calls _ _ _ _ (RetE (c :: r) wr) at hPar
         clear hlk hbj
         have HL:=Lib.hid hl
         have HNN:=Lib.hid hnn
         clear hl hnn
         go_wp2_with (go_at_call 53;refine hPar.mono ?_)
         rintro e W3 ⟨b3,hres⟩
         have hEW:=hE.below b3
         have hW3:=hW.trans (b3.mono hW.size)
         have hz3:wc.heap.size≤W3.heap.size:=hW3.size
         have hzw:wc.heap.size≤wr.heap.size:=hW.size
         clear hPar hW hE hc
         rcases hres with ⟨hno,x,A,m,c',rfl⟩ | ⟨x,h,hso,rfl,ho3⟩
         ·have hB4:Below W3.heap.size W3 (W3.alloc (.cells (ecells x (.slice A m c')) 33)):=(Below.refl _ W3).alloc (Nat.le_refl _) _
          have hBB:Below w.heap.size w (W3.alloc (.cells (ecells x (.slice A m c')) 33)):=HB2.out.trans ((hW3.trans (hB4.mono hz3)).mono hww)
          unfold ecells at hBB
          have HBB:=Lib.hid hBB
          have HNO:=Lib.hid hno
          clear hno hi hz0 hz1 hz2 hB4 hBB
          unfold evV ecells
          go_wp2
          exact bodyPost_ret (v:=.tuple #[.slice none 0 0,.int .i64 ((k:Int)+1),.int .i64 1]) (by simp [results,Tryz.results29,go_sem]) rfl ⟨HBB.out,.slice none 0 0,[],EvsOwn.nil _ _,by rw [HR.out,HL.out,linesS_bad HNN.out HNO.out,joinR_bad],by rw [HR.out,HL.out,linesS_bad HNN.out HNO.out,joinR_bad];rfl⟩
         ·obtain ⟨A,m,c',rfl⟩:=owns_slice ho3
          have hE4:=EBlk.new W3 x (.slice A m c')
          have hB4:Below W3.heap.size W3 (W3.alloc (.cells (ecells x (.slice A m c')) 33)):=(Below.refl _ W3).alloc (Nat.le_refl _) _
          have hEW4:=hEW.below hB4
          have ho4:=owns_below (owns_mono ho3 hzw) hB4
          have hW4:=hW3.trans (hB4.mono hz3)
          have hz4:=hW4.size
          have hl2:linesS 0 L=joinR ((ps ++ [(x,Value.slice A m c')]).map fun p=>p.1) (linesS (k+1) (L.drop (k+1))):=by
           rw [HL.out,linesS_good HNN.out hso,joinR_joinR,List.map_append];rfl
          have HL2:=Lib.hid hl2
          unfold ecells at hE4 hEW4 ho4 hW4 hz4
          unfold evV ecells
          clear hB4 hEW ho3 hW3 hl2 hso b3
          go_upto_region 12 with fail
          generalize W3.alloc (.cells #[.int .i64 x.kind,.string ⟨x.user.toArray⟩,.string ⟨x.note.toArray⟩,.int .i64 x.tSp,.string ⟨x.tN.toArray⟩,.int .i64 x.oSp,.string ⟨x.oN.toArray⟩,.string ⟨x.text.toArray⟩,.int .i64 x.base,.int .i64 x.n,.slice A m c'] 33)=W4 at *
          have e0:=hE4.c0
          have e1:=hE4.c1
          have e2:=hE4.c2
          have e3:=hE4.c3
          have e4:=hE4.c4
          have e5:=hE4.c5
          have e6:=hE4.c6
          have e7:=hE4.c7
          have e8:=hE4.c8
          have e9:=hE4.c9
          have e10:=hE4.c10
          clear hE4
          go_wp2_with (at_builtin;refine wpList_append_own _ rfl _ _ 46 rfl wc.heap.size 33 i0 _ 11 144 und46 hi hz0 hz1 hz2 rfl (by decide) _ ps.length (pcells ps) rfl (hEW4.row.alloc _) ⟨W4.heap.size,0,none⟩ 1 1 (ecells x (.slice A m c')).toList rfl rfl (cell_new _ _ _) (one_ecells _ _ rfl) (by unfold maxLen;omega) (by omega) (by simp;omega) ?_;intro v1 w1 hown1 hgrow1 _hnil)
          have hE1:=evs_push hEW4 ho4 hown1 hgrow1
          have hW1:Below wc.heap.size wc w1:=(hW4.alloc hz4 _).grown hgrow1 (by simp;omega) (fun g h=>owns_base hEW4.row g h)
          clear hown1 hgrow1 hEW4 ho4 hW4
          go_roundw
          case rel=>exact ⟨k+1,_,by omega,by go_num,hW1,hE1,by rw [List.length_append,List.length_singleton];omega,HL2.out⟩
          case measure=>simp [intOf];omega
      ·have hkn2:k=n:=by omega
       subst hkn2
       have hBB:Below w.heap.size w wr:=HB2.out.trans (hW.mono hww)
       rw [List.drop_eq_nil_of_le (by rw [HN.out];exact Nat.le_refl _),linesS_nil'] at hl
       have hEw:=hE.mono hww
       have HL:=Lib.hid hl
       obtain ⟨A,m,c',rfl⟩:=owns_slice hE.row
       clear hl hi hz0 hz1 hz2 hbj hW hE
       go_wp2
       exact bodyPost_ret (v:=.tuple #[.slice A m c',.int .i64 0,.int .i64 0]) (by simp [results,Tryz.results29,go_sem]) rfl ⟨hBB,_,ps,hEw,by rw [HR.out,HL.out],by rw [HR.out,HL.out]⟩
end Go.Proofs
namespace Go.Proofs
open Go.RowKit Go.Sp
set_option maxRecDepth 100000 in
set_option maxHeartbeats 8000000 in
theorem parses_ok (s:ByteArray) (w:World) (hs:s.size<2147480000) (hg:GlN w):Calls Tryz.prog 12 #[.string s] w (RetB (.bool true) w):=by
 have hP:=Parse_ok s w (by omega) hg
 have hR:=fun W=>ParseR_ok s W hs
 unfold RetP at hP hR
 have hle:=parseS_len s.data.toList
 generalize parseS s.data.toList=r at *
 obtain ⟨es,l,k⟩:=r
 change Calls _ _ _ _ (fun e w'=>_∧∃ v ps,_∧e=.returned (.tuple #[v,.int .i64 l,.int .i64 k])∧es=_) at hP
 change ∀ W,Calls _ _ _ _ (fun e w'=>_∧∃ v ps,_∧e=.returned (.tuple #[v,.int .i64 l,.int .i64 k])∧es=_) at hR
 change es.length≤400 at hle
 clear hs hg
 go_enter Tryz.func12,Tryz.ntmps12
 go_wp2_with (go_at_call 20;refine hP.mono ?_)
 rintro e W1 ⟨b1,v,ps,hE1,rfl,hps⟩
 clear hP
 go_wp2_with (go_at_call 29;refine (hR _).mono ?_)
 rintro e W2 ⟨b2,u,qs,hE2,rfl,hqs⟩
 have hE1:=hE1.below b2
 have hB2:=b1.trans (b2.mono b1.size)
 clear hR b1 b2
 have hl1:ps.length≤400:=by rw [hps,List.length_map] at hle;exact hle
 obtain ⟨A1,m1,c1,rfl⟩:=owns_slice hE1.row
 obtain ⟨A2,m2,c2,rfl⟩:=owns_slice hE2.row
 obtain ⟨rfl,hR1⟩:=evs_rd hE1
 obtain ⟨rfl,hR2⟩:=evs_rd hE2
 have hsm:=same_events A1 A2 c1 c2 ps qs W2 (by omega) hR1 hR2
 rw [← hps,← hqs,decide_eq_true rfl] at hsm
 generalize ps.length=N1 at *
 generalize qs.length=N2 at *
 have f1:(k == k)=true:=beq_self_eq_true k
 have f2:(l == l)=true:=beq_self_eq_true l
 clear hps hqs hle hE1 hE2 hR1 hR2
 go_wp2_with (go_at_call 22;refine hsm.mono ?_)
 rintro e w3 ⟨rfl,b3⟩
 have hB:=hB2.trans (b3.mono hB2.size)
 go_wp2
 go_ret
 exact ⟨rfl,hB⟩
def RetSp (n:Nat) (w:World) (e:Ending) (w':World):Prop:=∃ r:ByteArray,r.size≤n∧e=.returned (.string r)∧Below w.heap.size w w'
set_option maxRecDepth 100000 in
set_option maxHeartbeats 8000000 in
theorem spoilt_ok (s:ByteArray) (a b c:Int) (w:World) (hs:s.size≤2147480000):Calls Tryz.prog 13 #[.string s,.int .i64 a,.int .i64 b,.int .i64 c] w (RetSp (s.size+10) w):=by
 by_cases h0:s.size=0
 ·go_enter Tryz.func13,Tryz.ntmps13
  go_wp2
  go_ret
  exact ⟨s,by omega,rfl,Below.refl _ _⟩
 ·have hRa:=fun W=>roundB a s.size W (by omega) (by omega)
  have hRb:=fun W=>roundB b 10 W (by decide) (by decide)
  have hRc:=fun W=>roundB c 3 W (by decide) (by decide)
  have ha:=rnd_lt a (n:=s.size) (by omega)
  have hb:=rnd_lt b (n:=10) (by decide)
  have hc:=rnd_lt c (n:=3) (by decide)
  generalize rnd a s.size=ra at *
  generalize rnd b 10=rb at *
  generalize rnd c 3=rc at *
  change ∀ W,Calls _ _ #[_,.int .i64 10] _ _ at hRb
  change ∀ W,Calls _ _ #[_,.int .i64 3] _ _ at hRc
  have hsl:∀ W,(Instr.slice 9 (.string ⟨#[32,95,126,45,110,35,48,65,10,117]⟩) (some (.int .i64 (rb:Int))) (some (.int .i64 ((rb:Int)+1))) none).run Tryz.prog W=.ok (.string ⟨#[(⟨#[32,95,126,45,110,35,48,65,10,117]⟩:ByteArray)[rb]'hb]⟩) W:=fun W=>slice_one ⟨#[32,95,126,45,110,35,48,65,10,117]⟩ rb hb W
  have hto:∀ W,(Instr.slice 9 (.string s) none (some (.int .i64 (ra:Int))) none).run Tryz.prog W=.ok (.string ⟨(s.data.toList.take ra).toArray⟩) W:=fun W=>slice_to s.data.toList ra (by rw [← size_len];omega) W
  have hfr:∀ W,(Instr.slice 9 (.string s) (some (.int .i64 (ra:Int))) none none).run Tryz.prog W=.ok (.string ⟨(s.data.toList.drop ra).toArray⟩) W:=fun W=>slice_from s.data.toList ra (by rw [← size_len];omega) W
  have hfr1:∀ W,(Instr.slice 9 (.string s) (some (.int .i64 ((ra:Int)+1))) none none).run Tryz.prog W=.ok (.string ⟨(s.data.toList.drop (ra+1)).toArray⟩) W:=fun W=>slice_from s.data.toList (ra+1) (by rw [← size_len];omega) W
  have z1:(⟨#[(⟨#[32,95,126,45,110,35,48,65,10,117]⟩:ByteArray)[rb]'hb]⟩:ByteArray).size=1:=rfl
  have z2:(⟨(s.data.toList.take ra).toArray⟩:ByteArray).size≤s.size:=by rw [lsize,List.length_take,← size_len];omega
  have z3:(⟨(s.data.toList.drop ra).toArray⟩:ByteArray).size≤s.size - ra:=by rw [lsize,List.length_drop,← size_len];omega
  have z4:(⟨(s.data.toList.drop (ra+1)).toArray⟩:ByteArray).size≤s.size - ra - 1:=by rw [lsize,List.length_drop,← size_len];omega
  have z5:(⟨(s.data.toList.take ra).toArray⟩:ByteArray).size≤ra:=by rw [lsize,List.length_take];omega
  generalize (⟨#[(⟨#[32,95,126,45,110,35,48,65,10,117]⟩:ByteArray)[rb]'hb]⟩:ByteArray)=X at *
  generalize (⟨(s.data.toList.take ra).toArray⟩:ByteArray)=T at *
  generalize (⟨(s.data.toList.drop ra).toArray⟩:ByteArray)=F at *
  generalize (⟨(s.data.toList.drop (ra+1)).toArray⟩:ByteArray)=G at *
  go_enter Tryz.func13,Tryz.ntmps13
  go_wp2_with (go_at_call 11;refine (hRa _).mono ?_)
  rintro e W1 ⟨rfl,b1⟩
  clear hRa
  go_wp2_with (go_at_call 11;refine (hRb _).mono ?_)
  rintro e W2 ⟨rfl,b2⟩
  have hB2:=b1.trans (b2.mono b1.size)
  clear b1 b2
  go_wp2_with (go_at_call 11;refine (hRb _).mono ?_)
  rintro e W3 ⟨rfl,b3⟩
  have hB3:=hB2.trans (b3.mono hB2.size)
  clear hRb b3 hB2
  go_wp2_with (go_at_call 11;refine (hRc _).mono ?_)
  rintro e W4 ⟨rfl,b4⟩
  have hB4:=hB3.trans (b4.mono hB3.size)
  clear hRc b4 hB3
  have hr:rc=0∨rc=1∨rc=2:=by omega
  rcases hr with rfl | rfl | rfl
  ·have f1:(((0:Nat):Int) == 0)=true:=rfl
   generalize ((0:Nat):Int)=q at *
   go_wp2
   go_region
   go_wp2
   go_ret
   exact ⟨T ++ G,by rw [ByteArray.size_append];omega,rfl,hB4.drew⟩
  ·have f1:(((1:Nat):Int) == 0)=false:=rfl
   have f2:(((1:Nat):Int) == 1)=true:=rfl
   generalize ((1:Nat):Int)=q at *
   go_wp2
   go_region
   go_wp2
   go_ret
   exact ⟨T ++ X ++ F,by rw [ByteArray.size_append,ByteArray.size_append];omega,rfl,hB4.drew⟩
  ·have f1:(((2:Nat):Int) == 0)=false:=rfl
   have f2:(((2:Nat):Int) == 1)=false:=rfl
   generalize ((2:Nat):Int)=q at *
   go_wp2
   go_region
   go_wp2
   go_ret
   exact ⟨T ++ X ++ G,by rw [ByteArray.size_append,ByteArray.size_append];omega,rfl,hB4.drew⟩
set_option maxRecDepth 100000 in
set_option maxHeartbeats 8000000 in
theorem scripts_parse (s:ByteArray) (A:Option Addr) (m c:Nat) (n at' noise how:Int) (w:World) (hm:m≤9223372036854775807) (hl:NumsA w A m) (hg:GlN w) (hAw:AwK w):Calls Tryz.prog 3 #[.string s,.slice A m c,.int .i64 n,.int .i64 at',.int .i64 noise,.int .i64 how] w (RetB (.bool true) w):=by
 by_cases hbig:3000<s.size
 ·go_enter Tryz.func3,Tryz.ntmps3
  go_wp2_with (go_at_call 9;refine (hAw _ (Below.refl _ _)).mono ?_)
  rintro e W1 ⟨rfl,b1⟩
  go_wp2
  go_ret
  exact ⟨rfl,b1⟩
 ·have hR8:=fun W=>roundB n 8 W (by decide) (by decide)
  have h8:=rnd_lt n (n:=8) (by decide)
  generalize rnd n 8=rn at *
  change ∀ W,Calls _ _ #[_,.int .i64 8] _ _ at hR8
  have hPs:=fun W (h:GlN W)=>parses_ok s W (by omega) h
  have hP1:=fun W (h:GlN W)=>parses_ok (⟨#[101,100,105,116,32,97,110,110,32,65,32,48,32]⟩ ++ s) W (by rw [ByteArray.size_append];show 13+s.size<_;omega) h
  have hP2:=fun W (h:GlN W)=>parses_ok (⟨#[102,108,117,115,104,10]⟩ ++ s) W (by rw [ByteArray.size_append];show 6+s.size<_;omega) h
  go_enter Tryz.func3,Tryz.ntmps3
  go_wp2_with (go_at_call 11;refine (hR8 _).mono ?_)
  rintro e W1 ⟨rfl,b1⟩
  have hMd:=made_ok A m c rn W1 hm (SrcNums hl b1) (by omega)
  clear hR8
  go_wp2_with (go_at_call 10;refine hMd.mono ?_)
  rintro e W2 ⟨xs,hM,rfl,b2⟩
  have hB2:=b1.trans (b2.mono b1.size)
  clear hMd b1 b2 hl
  have hs2:=hM.size
  have hz:(⟨(lns xs).toArray⟩:ByteArray).size=(lns xs).length:=lsize _
  have hz2:(⟨(lns xs).toArray⟩:ByteArray).size≤20000:=by omega
  clear hM hs2 hz
  generalize (⟨(lns xs).toArray⟩:ByteArray)=T at *
  have hPT:=fun W (h:GlN W)=>parses_ok T W (by omega) h
  have hSp:=fun W=>spoilt_ok T at' noise how W (by omega)
  go_wp2_with (go_at_call 9;refine (hAw _ hB2).mono ?_)
  rintro e W3 ⟨rfl,b3⟩
  have hB3:=hB2.trans (b3.mono hB2.size)
  have g3:=hg.below hB3
  clear b3 hB2 hAw hg
  go_wp2_with (go_at_call 12;refine (hPs _ g3).mono ?_)
  rintro e W4 ⟨rfl,b4⟩
  have hB4:=hB3.trans (b4.mono hB3.size)
  have g4:=g3.below b4
  clear b4 hB3 g3 hPs
  go_wp2_with (go_at_call 12;refine (hPT _ g4).mono ?_)
  rintro e W5 ⟨rfl,b5⟩
  have hB5:=hB4.trans (b5.mono hB4.size)
  have g5:=g4.below b5
  clear b5 hB4 g4 hPT
  go_wp2_with (go_at_call 13;refine (hSp _).mono ?_)
  rintro e W6 ⟨R,hR,rfl,b6⟩
  have hB6:=hB5.trans (b6.mono hB5.size)
  have g6:=g5.below b6
  have hPR:=fun W (h:GlN W)=>parses_ok R W (by omega) h
  clear b6 hB5 g5 hSp
  go_wp2_with (go_at_call 12;refine (hPR _ g6).mono ?_)
  rintro e W7 ⟨rfl,b7⟩
  have hB7:=hB6.trans (b7.mono hB6.size)
  have g7:=g6.below b7
  clear b7 hB6 g6 hPR
  go_wp2_with (go_at_call 12;refine (hP1 _ g7).mono ?_)
  rintro e W8 ⟨rfl,b8⟩
  have hB8:=hB7.trans (b8.mono hB7.size)
  have g8:=g7.below b8
  clear b8 hB7 g7 hP1
  go_wp2_with (go_at_call 12;refine (hP2 _ g8).mono ?_)
  rintro e W9 ⟨rfl,b9⟩
  have hB9:=hB8.trans (b9.mono hB8.size)
  clear b9 hB8 g8 hP2
  go_wp2
  go_ret
  exact ⟨rfl,hB9⟩
end Go.Proofs
